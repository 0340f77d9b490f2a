/- The library of this proof, part 2: Segments of tier 0 that are made of samples that rise. Windows of windows: small ones never fail; two samples that change places do not rise. Step by step or at once: windows of windows are the windows of the coarser tier. Rows of segments: that they may be, and what they are rolled up to. Rows of segments: which of them are asked. Rows of segments with all of tier 0. A row: its end; what it answers when a range is cut in two. A wider range answers at least as much, in order. Rows with all segments of tier 0, and others beside them. Asked for all its time, a row answers windows that do not overlap and come to all its samples. Maps whose values are all true: which keys are there; how such a map is made, asked and told. What the judge reads and says: writes that were told, grants, windows of an answer. What the judge's loops come to. Grants of rising views; a few closed facts. What the judge says of what a row of segments answers. A slice with three indices, and what is appended to it. An element of a row, by its place (BA has this lemma too). Two lists, place by place. -/
import Derived.Test.YtldfnkhccaglmaaXLA
import Derived.MapKept
import Derived.WideKeyRuns
import Derived.ArgAppend
section
namespace Go.Proofs.Ytldfnkhccaglmaa
def trS (fr : Int) (s : Sample) : Sample := ⟨s.T + fr, Int.tmod s.V 1000000000⟩
def trTo (l : List Sample) (fr : Int) (i : Nat) : List Sample := (l.take i).map (trS fr) ++ l.drop i
theorem trTo_len (l : List Sample) (fr : Int) (i : Nat) : (trTo l fr i).length = l.length := by
  unfold trTo; rw [List.length_append, List.length_map, List.length_take, List.length_drop]; omega
theorem trTo_get {l : List Sample} {fr : Int} {i : Nat} (h : i < l.length) : (trTo l fr i)[i]'(by rw [trTo_len]; exact h) = l[i] := by
  simp only [trTo]
  rw [List.getElem_append_right (by simp; omega)]
  simp [Nat.min_eq_left (Nat.le_of_lt h)]
theorem trTo_zero (l : List Sample) (fr : Int) : l = trTo l fr 0 := by simp [trTo]
theorem trTo_set {l : List Sample} {fr : Int} {i : Nat} (h : i < l.length) : (trTo l fr i).set i (trS fr l[i]) = trTo l fr (i + 1) := by
  have e : trTo l fr i = (l.take i).map (trS fr) ++ l[i] :: l.drop (i + 1) := by unfold trTo; rw [List.drop_eq_getElem_cons h]
  have hl : ((l.take i).map (trS fr)).length = i := by simp; omega
  rw [e, List.set_append, if_neg (by omega), hl, Nat.sub_self, List.set_cons_zero]
  unfold trTo
  rw [List.take_succ_eq_append_getElem h, List.map_append, List.append_assoc]; rfl
theorem trTo_step {l xs : List Sample} {fr : Int} {i : Nat} {a b : Sample} (h : i < l.length) (hx : xs = trTo l fr i) (hb : b = trS fr (xs[i]'(by rw [hx, trTo_len]; exact h))) : (xs.set i a).set i b = trTo l fr (i + 1) := by
  subst hx
  rw [List.set_set, hb, trTo_get h]; exact trTo_set h
theorem trTo_all {l : List Sample} {fr : Int} {i : Nat} (h : i = l.length) : trTo l fr i = l.map (trS fr) := by
  subst h; simp [trTo]
def mkL (nid : Int) (steps values : List Int) : List Sample := riseL (nid :: steps) values (riseN (nid :: steps) 40)
def makeS (nid fr : Int) (steps values : List Int) : SegD :=
  ⟨1 + nid % 18446744073709551616 % 1000, 0, fr, (gd ((mkL nid steps values).map (trS fr)) ((mkL nid steps values).length - 1)).T + 1 + nid % 18446744073709551616 % 7, (mkL nid steps values).map (trS fr), []⟩
theorem mkN (nid : Int) (steps : List Int) : 1 ≤ riseN (nid :: steps) 40 ∧ riseN (nid :: steps) 40 ≤ 40 ∧ riseN (nid :: steps) 40 ≤ steps.length + 1 := by
  unfold riseN; rw [List.length_cons]; omega
theorem mkL_len (nid : Int) (steps values : List Int) : (mkL nid steps values).length = riseN (nid :: steps) 40 := rise_length ..
theorem mkL_ok {nid : Int} {steps values : List Int} (hv : ∀ v ∈ values, i64R v) : ∀ s ∈ mkL nid steps values, s.ok :=
  rise_ok (riseN_le _ _) (by have := mkN nid steps; omega) hv
theorem mkL_T {nid : Int} {steps values : List Int} : ∀ s ∈ mkL nid steps values, 1 ≤ s.T ∧ s.T ≤ 1600 := by
  intro s hs
  obtain ⟨j, hj, rfl⟩ := List.getElem_of_mem hs
  have hn := mkN nid steps
  rw [mkL_len] at hj
  have h1 := tAt_r (steps := nid :: steps) (i := j + 1) (by rw [List.length_cons]; omega)
  have e : (mkL nid steps values)[j] = (⟨tAt (nid :: steps) (j + 1), vAt values j⟩ : Sample) := rise_get ..
  rw [e]; simp only []; omega
theorem getElem_eq {l m : List Sample} {i : Nat} {h : i < l.length} (e : l = m) (h' : i < m.length) : l[i] = m[i] := by subst e; rfl
theorem made_T {l xs : List Sample} {fr : Int} {i : Nat} (hT : ∀ s ∈ l, 1 ≤ s.T ∧ s.T ≤ 1600) (hx : xs = l.map (trS fr)) (h : i < xs.length) : fr + 1 ≤ (xs[i]'h).T ∧ (xs[i]'h).T ≤ fr + 1600 := by
  subst hx
  rw [List.getElem_map]
  have := hT _ (List.getElem_mem (show i < l.length by simpa using h))
  simp only [trS]; omega
theorem make_is {nid fr a b : Int} {steps values : List Int} {xs : List Sample} {n : Nat} {h : n < xs.length} (hx : xs = (mkL nid steps values).map (trS fr)) (hl : (mkL nid steps values).length = riseN (nid :: steps) 40) (hn : n = xs.length - 1) (ha : a = 1 + nid % 18446744073709551616 % 1000) (hb : b = nid % 18446744073709551616 % 7) : (⟨a, 0, fr, (xs[n]'h).T + 1 + b, xs, []⟩ : SegD) = makeS nid fr steps values := by
  subst ha; subst hb; subst hn
  unfold makeS
  have e : (mkL nid steps values).length = xs.length := by rw [hx, List.length_map]
  rw [e, ← hx, gd_eq h]
/-! ### Bits -/
theorem ofInt64 (a : Int) : (BitVec.ofInt 64 a).toNat = (a % 18446744073709551616).toNat := by
  rw [BitVec.toNat_ofInt]; rfl
theorem and15 (a : Int) : bits .and .i64 a 15 = a % 16 := by
  show IntKind.i64.wrap ((BitVec.ofInt 64 a &&& BitVec.ofInt 64 15).toNat : Int) = _
  rw [BitVec.toNat_and, ofInt64, ofInt64]
  have h : (a % 18446744073709551616).toNat &&& 15 = (a % 18446744073709551616).toNat % 16 := Nat.and_two_pow_sub_one_eq_mod _ 4
  have e : ((15 : Int) % 18446744073709551616).toNat = 15 := by decide
  rw [e, h, IntKind.wrap_i64]; omega
theorem and1 (a : Int) : bits .and .i64 a 1 = a % 2 := by
  show IntKind.i64.wrap ((BitVec.ofInt 64 a &&& BitVec.ofInt 64 1).toNat : Int) = _
  rw [BitVec.toNat_and, ofInt64, ofInt64]
  have e : ((1 : Int) % 18446744073709551616).toNat = 1 := by decide
  rw [e, Nat.and_one_is_mod, IntKind.wrap_i64]; omega
/-! ### Rows that stay as they are -/
theorem St.slm {α : Type} {E : Enc α} {w0 w : World} {L fr : List Item} (h : St w0 w L) (n : Nat) {T : Nat} {v : Value} {xs : List α} (hn : L.drop n = fr) (hm : rowT T E v xs ∈ fr) : Sl w E v xs := by
  subst hn; exact ownsRow_sl (h.all _ (List.mem_of_mem_drop hm))
def Frz (a b : Nat) (fr : List Item) (l : List Seg) : Prop := ∀ s ∈ l, rowT a sampE s.sv.1 s.d.Samples ∈ fr ∧ rowT b aggE s.av.1 s.d.Aggs ∈ fr
theorem Frz.nil {a b : Nat} {fr : List Item} : Frz a b fr [] := fun s h => nomatch h
theorem Frz.mono {a b : Nat} {fr fr' : List Item} {l : List Seg} (h : Frz a b fr l) (hs : ∀ x ∈ fr, x ∈ fr') : Frz a b fr' l := fun s hm => ⟨hs _ (h s hm).1, hs _ (h s hm).2⟩
theorem Frz.sub {a b : Nat} {fr : List Item} {l l' : List Seg} (h : Frz a b fr l) (hs : ∀ x ∈ l', x ∈ l) : Frz a b fr l' := fun s hm => h s (hs s hm)
theorem Frz.cons {a b : Nat} {fr : List Item} {l : List Seg} {s : Seg} (h : Frz a b fr l) (h1 : rowT a sampE s.sv.1 s.d.Samples ∈ fr) (h2 : rowT b aggE s.av.1 s.d.Aggs ∈ fr) : Frz a b fr (s :: l) := fun x hm => by
  rcases List.mem_cons.1 hm with rfl | hm
  · exact ⟨h1, h2⟩
  · exact h x hm
theorem Frz.segs {a b : Nat} {w0 w : World} {L fr : List Item} {l : List Seg} (h : Frz a b fr l) (hst : St w0 w L) (n : Nat) (hn : L.drop n = fr) : SegsIn w l := fun s hm => ⟨hst.slm n hn (h s hm).1, hst.slm n hn (h s hm).2⟩
/-! ### Rows of segments -/
def fiveOf (steps : List Int) (i : Nat) : List Int := (steps.drop (5 * i)).take 5
def mk0 (steps values : List Int) (i : Nat) (from_ : Int) : SegD := makeS (10 * (i : Int)) from_ (fiveOf steps i) values
def upS (s : SegD) (i : Nat) : Nat → SegD
  | 0 => s
  | k + 1 => (rollS (upS s i k) (10 * (i : Int) + (k : Int) + 2) ((k : Int) + 1)).1
def bitM (mask : Int) (i k : Nat) : Bool := decide ((mask / 2 ^ (4 * i)) % 16 / 2 ^ k % 2 = 1) || (decide ((mask / 2 ^ (4 * i)) % 16 = 0) && decide (k = 0))
def tiersM (mask : Int) (s : SegD) (i : Nat) : Nat → List SegD
  | 0 => []
  | k + 1 => tiersM mask s i k ++ (if bitM mask i k = true then [upS s i k] else [])
structure RowD where
  l : List SegD
  all : List Sample
  to : Int
def rowM (steps values : List Int) (mask : Int) : Nat → RowD
  | 0 => ⟨[], [], 0⟩
  | i + 1 => let p := rowM steps values mask i; let s := mk0 steps values i p.to; ⟨p.l ++ tiersM mask s i 4, p.all ++ s.Samples, (upS s i 3).To⟩
theorem five_snoc {steps : List Int} {i j : Nat} (h : 5 * i + j < steps.length) (hj : j < 5) : (steps.drop (5 * i)).take j ++ [steps[5 * i + j]] = (steps.drop (5 * i)).take (j + 1) := by
  rw [List.take_succ_eq_append_getElem (by rw [List.length_drop]; omega), List.getElem_drop]
theorem five_same {steps : List Int} {i j : Nat} (h : ¬ 5 * i + j < steps.length) : (steps.drop (5 * i)).take j = (steps.drop (5 * i)).take (j + 1) := by
  rw [List.take_of_length_le (by rw [List.length_drop]; omega), List.take_of_length_le (by rw [List.length_drop]; omega)]
theorem roll_to (s : SegD) (id k : Int) : (rollS s id k).1.To = s.To ∨ (rollS s id k).1.To = 0 := by
  unfold rollS rollT
  repeat' split
  all_goals first | exact Or.inl rfl | exact Or.inr rfl
theorem up_to (s : SegD) (i : Nat) : ∀ k, (upS s i k).To = s.To ∨ (upS s i k).To = 0
  | 0 => Or.inl rfl
  | k + 1 => by
    rcases roll_to (upS s i k) (10 * (i : Int) + (k : Int) + 2) ((k : Int) + 1) with h | h
    · rcases up_to s i k with h2 | h2
      · exact Or.inl (h.trans h2)
      · exact Or.inr (h.trans h2)
    · exact Or.inr h
theorem make_to {nid fr : Int} {steps values : List Int} : fr + 2 ≤ (makeS nid fr steps values).To ∧ (makeS nid fr steps values).To ≤ fr + 1610 := by
  have hn := mkN nid steps
  have hl := mkL_len nid steps values
  have h := made_T (fr := fr) (mkL_T (nid := nid) (steps := steps) (values := values)) rfl (i := (mkL nid steps values).length - 1) (by rw [List.length_map]; omega)
  rw [← gd_eq] at h
  simp only [makeS]; omega
theorem five_len (steps : List Int) (i : Nat) : (fiveOf steps i).length ≤ 5 := by unfold fiveOf; rw [List.length_take]; omega
theorem five_ok {steps : List Int} {i : Nat} (hs : ∀ v ∈ steps, i64R v) : ∀ v ∈ fiveOf steps i, i64R v := fun v h => hs v (List.mem_of_mem_drop (List.mem_of_mem_take h))
theorem make_len {nid fr : Int} {steps values : List Int} {i : Nat} {s : SegD} (h : s = makeS nid fr (fiveOf steps i) values) : 1 ≤ s.Samples.length ∧ s.Samples.length ≤ 6 := by
  have hn := mkN nid (fiveOf steps i)
  have h5 := five_len steps i
  rw [h]; simp only [makeS, List.length_map, mkL_len]; omega
theorem tiers_len (mask : Int) (s : SegD) (i : Nat) : ∀ k, (tiersM mask s i k).length ≤ k
  | 0 => Nat.le_refl _
  | k + 1 => by
    have := tiers_len mask s i k
    rw [tiersM, List.length_append]
    split <;> simp <;> omega
theorem rowM_l (steps values : List Int) (mask : Int) : ∀ i, (rowM steps values mask i).l.length ≤ 4 * i
  | 0 => Nat.le_refl _
  | i + 1 => by
    have := rowM_l steps values mask i
    have h2 := tiers_len mask (mk0 steps values i (rowM steps values mask i).to) i 4
    simp only [rowM, List.length_append]; omega
theorem rowM_all (steps values : List Int) (mask : Int) : ∀ {i : Nat}, i ≤ 4 → (rowM steps values mask i).all.length ≤ 6 * i
  | 0, _ => Nat.le_refl _
  | i + 1, h => by
    have := rowM_all steps values mask (i := i) (by omega)
    have h2 := make_len (s := mk0 steps values i (rowM steps values mask i).to) rfl
    simp only [rowM, List.length_append]; omega
theorem rowM_to (steps values : List Int) (mask : Int) : ∀ {i : Nat}, i ≤ 4 → 0 ≤ (rowM steps values mask i).to ∧ (rowM steps values mask i).to ≤ 2000 * (i : Int)
  | 0, _ => by simp [rowM]
  | i + 1, h => by
    have := rowM_to steps values mask (i := i) (by omega)
    have h2 := make_to (nid := 10 * (i : Int)) (fr := (rowM steps values mask i).to) (steps := fiveOf steps i) (values := values)
    have h3 := up_to (mk0 steps values i (rowM steps values mask i).to) i 3
    show 0 ≤ (upS (mk0 steps values i (rowM steps values mask i).to) i 3).To ∧ (upS (mk0 steps values i (rowM steps values mask i).to) i 3).To ≤ _
    simp only [mk0] at h3 ⊢
    omega
theorem row_zl {steps values : List Int} {mask : Int} {zs : List Seg} {s : SegD} {i k : Nat} (h : zs.map Seg.d = (rowM steps values mask i).l ++ tiersM mask s i k) : zs.length ≤ 4 * i + k := by
  have := congrArg List.length h
  rw [List.length_map, List.length_append] at this
  have h1 := rowM_l steps values mask i
  have h2 := tiers_len mask s i k
  omega
theorem tiers_yes {P : List SegD} {mask : Int} {zs : List Seg} {s : SegD} {sg : Seg} {i k : Nat} (h : zs.map Seg.d = P ++ tiersM mask s i k) (hsg : sg.d = upS s i (min k 3)) (hk : k < 4) (hb : bitM mask i k = true) : (zs ++ [sg]).map Seg.d = P ++ tiersM mask s i (k + 1) := by
  rw [show min k 3 = k by omega] at hsg
  rw [List.map_append, h, tiersM, if_pos hb, ← hsg, List.append_assoc]; rfl
theorem tiers_no {P : List SegD} {mask : Int} {zs : List Seg} {s : SegD} {i k : Nat} (h : zs.map Seg.d = P ++ tiersM mask s i k) (hb : bitM mask i k = false) : zs.map Seg.d = P ++ tiersM mask s i (k + 1) := by
  rw [h, tiersM, if_neg (by rw [hb]; decide), List.append_nil]
theorem up_step {s : SegD} {sg r : Seg} {i k : Nat} (hsg : sg.d = upS s i (min k 3)) (hd : r.d = (rollS (gd [sg] 0).d (10 * (i : Int) + (k : Int) + 2) ((k : Int) + 1)).1) (hk : k < 3) : r.d = upS s i (min (k + 1) 3) := by
  rw [show min k 3 = k by omega] at hsg
  rw [show min (k + 1) 3 = k + 1 by omega, hd]
  show (rollS sg.d _ _).1 = _
  rw [hsg]; rfl
theorem up_same {s : SegD} {sg : Seg} {i k : Nat} (hsg : sg.d = upS s i (min k 3)) (hk : ¬ k < 3) : sg.d = upS s i (min (k + 1) 3) := by
  rw [hsg, show min (k + 1) 3 = min k 3 by omega]
theorem make_ok {nid fr : Int} {steps values : List Int} (h0 : 0 ≤ fr) (h1 : fr ≤ 1000000000) (hv : ∀ v ∈ values, i64R v) : (makeS nid fr steps values).ok := by
  have ht := make_to (nid := nid) (fr := fr) (steps := steps) (values := values)
  refine ⟨?_, by simp [makeS, i64R], ?_, ?_, ?_, fun x h => nomatch h⟩
  · simp only [makeS, i64R]; omega
  · simp only [makeS, i64R]; omega
  · simp only [i64R]; omega
  · intro x hx
    simp only [makeS, List.mem_map] at hx
    obtain ⟨y, hy, rfl⟩ := hx
    have h2 := mkL_T y hy
    have h3 := (mkL_ok (nid := nid) (steps := steps) hv y hy).2
    refine ⟨?_, ?_⟩
    · simp only [trS]; omega
    · simp only [trS]
      have := tmod_small y.V
      omega
theorem zs_in {zs : List Seg} {sg : Seg} : ∀ x ∈ zs ++ [sg], x ∈ sg :: zs := fun x h => by
  rcases List.mem_append.1 h with h | h
  · exact List.mem_cons_of_mem _ h
  · obtain rfl := List.mem_singleton.1 h; exact List.mem_cons_self ..
theorem zs_in2 {zs : List Seg} {sg : Seg} : ∀ x ∈ sg :: (zs ++ [sg]), x ∈ sg :: zs := fun x h => by
  rcases List.mem_cons.1 h with rfl | h
  · exact List.mem_cons_self ..
  · exact zs_in x h
theorem row_next {steps values : List Int} {mask : Int} {zs : List Seg} {i k : Nat} (h : zs.map Seg.d = (rowM steps values mask i).l ++ tiersM mask (mk0 steps values i (rowM steps values mask i).to) i k) (hk : k = 4) : zs.map Seg.d = (rowM steps values mask (i + 1)).l := by
  subst hk; exact h
theorem downL_ok {k : Int} : ∀ (l out : List Agg), (∀ a ∈ l, a.ok) → (∀ a ∈ out, a.ok) → ∀ a ∈ (downL k l out).1, a.ok
  | [], out, _, ho => ho
  | a :: l, out, hl, ho => by
    have hak := atK_ok (k := k) (hl a (List.mem_cons_self ..))
    have hl' := fun x hx => hl x (List.mem_cons_of_mem _ hx)
    rw [downL]
    split
    · exact downL_ok l _ hl' (snoc_okA ho hak)
    · rename_i x hx
      split
      · split
        · refine downL_ok l _ hl' fun y hy => ?_
          rcases List.mem_or_eq_of_mem_set hy with h | rfl
          · exact ho y h
          · exact joinA_ok (ho x (List.mem_of_getLast? hx)) hak
        · exact nil_okA
      · exact downL_ok l _ hl' (snoc_okA ho hak)
theorem downA_ok {l : List Agg} {k : Int} (hl : ∀ s ∈ l, s.ok) : ∀ a ∈ (downA l k).1, a.ok := by
  unfold downA
  split
  · exact downL_ok _ _ hl nil_okA
  · exact nil_okA
theorem rollT_ok {s : SegD} {id k : Int} {r : List Agg × Int} (h : s.ok) (hi : i64R id) (hk : i64R k) (hr : ∀ a ∈ r.1, a.ok) : (rollT s id k r).1.ok := by
  have hz : zeroS.ok := by decide
  unfold rollT
  split
  · exact hz
  split
  · exact hz
  · exact ⟨hi, hk, h.2.2.1, h.2.2.2.1, (by intro x hx; cases hx), hr⟩
theorem roll_ok2 {s : SegD} {id k : Int} (h : s.ok) (hi : i64R id) (hk : i64R k) : (rollS s id k).1.ok := by
  have hz : zeroS.ok := by decide
  unfold rollS
  split
  · exact hz
  split
  · refine rollT_ok h hi hk ?_
    split
    · exact rawA_ok h.2.2.2.2.1
    · exact downA_ok h.2.2.2.2.2
  · exact hz
theorem roll_okD {sg : Seg} {id k : Int} (h : sg.d.ok) (hi0 : -9223372036854775808 ≤ id) (hi1 : id ≤ 9223372036854775807) (hk0 : -9223372036854775808 ≤ k) (hk1 : k ≤ 9223372036854775807) : (rollS (gd [sg] 0).d id k).1.ok := roll_ok2 (s := sg.d) h ⟨hi0, hi1⟩ ⟨hk0, hk1⟩
end Go.Proofs.Ytldfnkhccaglmaa
end
section
namespace Go.Proofs.Ytldfnkhccaglmaa
abbrev Fine (a : Agg) : Prop := mayP a ∧ Wn a
theorem fine_J {a b : Agg} (ha : Fine a) (hb : Fine b) (h : a.Count + b.Count ≤ 1000000) : joinA a b = (J a b, 0) ∧ Fine (J a b) := by
  have h1 := J_may ha.1 hb.1 (by omega)
  obtain ⟨_, a1, a2, a3⟩ := ha
  obtain ⟨_, b1, b2, b3⟩ := hb
  rcases joinA_may (a := a) (b := b) (by assumption) (by assumption) (by omega) with ⟨h2, _⟩ | ⟨_, h2⟩
  · refine ⟨h2, h1, ?_⟩
    simp only [Wn, J]; omega
  · exfalso; simp only [i64R] at h2; omega
theorem fine_at {a : Agg} {k : Int} (h0 : 0 < k) (h4 : k < 4) (h : Fine a) : Fine (atK a k) := by
  have hf := floor_nn (t := a.From) h0 h4 (by have := h.1; omega) (by have := h.1; omega)
  obtain ⟨⟨c1, c2, c3, c4, c5⟩, hw⟩ := h
  exact ⟨⟨c1, c2, hf.1, by simp only [atK]; omega, c5⟩, hw⟩
theorem len_pos_of_cnt {A : List Agg} (h : 0 < cntA A) : 0 < A.length := by
  cases A with
  | nil => simp [cntA] at h
  | cons a A => simp
end Go.Proofs.Ytldfnkhccaglmaa
end
section
namespace Go.Proofs.Ytldfnkhccaglmaa
theorem atK_agg (fr k : Int) {l : List Sample} (h : 0 < l.length) : atK (aggL fr l) k = aggL (floorA fr k) l := by
  have key : ∀ (l : List Sample) (a b : Agg), a.Count = b.Count → a.Sum = b.Sum → a.Min = b.Min → a.Max = b.Max → a.First = b.First → a.Last = b.Last →
      (accL a l).Count = (accL b l).Count ∧ (accL a l).Sum = (accL b l).Sum ∧ (accL a l).Min = (accL b l).Min ∧ (accL a l).Max = (accL b l).Max ∧ (accL a l).First = (accL b l).First ∧ (accL a l).Last = (accL b l).Last := by
    intro l
    induction l with
    | nil => intro a b h1 h2 h3 h4 h5 h6; exact ⟨h1, h2, h3, h4, h5, h6⟩
    | cons s l ih =>
      intro a b h1 h2 h3 h4 h5 h6
      rw [accL, accL]
      exact ih _ _ (by simp only [stepA]; omega) (by simp only [stepA]; omega) (by simp only [stepA]; omega) (by simp only [stepA]; omega) h5 rfl
  cases l with
  | nil => simp at h
  | cons s l =>
    obtain ⟨h1, h2, h3, h4, h5, h6⟩ := key l (oneA s.V fr) (oneA s.V (floorA fr k)) rfl rfl rfl rfl rfl rfl
    have f1 := (accL_facts l (oneA s.V fr)).1
    have f2 := (accL_facts l (oneA s.V (floorA fr k))).1
    rw [agg_iff]
    simp only [atK, aggL]
    exact ⟨by rw [f1, f2], h1, h2, h3, h4, h5, h6⟩
theorem J_at (a b : Agg) (k : Int) : J a (atK b k) = J a b := rfl
theorem winLen_all {k F : Int} : ∀ (p l : List Sample), (∀ s ∈ p, floorA s.T k = F) → (∀ s r, l = s :: r → ¬ floorA s.T k = F) → winLen k F (p ++ l) = p.length
  | [], [], _, _ => rfl
  | [], s :: r, _, hl => by rw [List.nil_append, winLen, if_neg (hl s r rfl)]; rfl
  | s :: p, l, hp, hl => by
    rw [List.cons_append, winLen, if_pos (hp s (List.mem_cons_self ..)), winLen_all p l (fun x hx => hp x (List.mem_cons_of_mem _ hx)) hl]; rfl
theorem win_floor {k F : Int} : ∀ (l : List Sample), ∀ s ∈ l.take (winLen k F l), floorA s.T k = F
  | [], s, h => by simp at h
  | x :: l, s, h => by
    rw [winLen] at h
    split at h
    · rename_i hx
      rw [List.take_succ_cons] at h
      rcases List.mem_cons.1 h with rfl | h
      · exact hx
      · exact win_floor l s h
    · simp at h
theorem wins_cut {k F : Int} {f : Nat} {p l : List Sample} (hp : 0 < p.length) (hf : (p ++ l).length ≤ f) (hF : ∀ s ∈ p, floorA s.T k = F) (hl : ∀ s r, l = s :: r → ¬ floorA s.T k = F) : wins k f (p ++ l) = aggL F p :: wins k (f - 1) l := by
  cases p with
  | nil => simp at hp
  | cons s p =>
    cases f with
    | zero => simp at hf
    | succ f =>
      have e := hF s (List.mem_cons_self ..)
      have hw := winLen_all (s :: p) l hF hl
      rw [List.cons_append] at hw ⊢
      rw [wins, e, hw]
      simp
abbrev Up (k k' : Int) : Prop := ∀ t, 0 ≤ t → t ≤ 1099511627776 → floorA (floorA t k) k' = floorA t k'
theorem up_w {k k' : Int} (h : (k = 1 ∧ k' = 2) ∨ (k = 2 ∧ k' = 3)) : Up k k' := by
  intro t h0 h1
  rcases h with ⟨rfl, rfl⟩ | ⟨rfl, rfl⟩
  · rw [floor_eq (t := t) (k := 1) (w := 5) rfl (by decide) h0 h1, floor_eq (t := t) (k := 2) (w := 60) rfl (by decide) h0 h1, floor_eq (t := t - t % 5) (k := 2) (w := 60) rfl (by decide) (by omega) (by omega)]; omega
  · rw [floor_eq (t := t) (k := 2) (w := 60) rfl (by decide) h0 h1, floor_eq (t := t) (k := 3) (w := 1440) rfl (by decide) h0 h1, floor_eq (t := t - t % 60) (k := 3) (w := 1440) rfl (by decide) (by omega) (by omega)]; omega
theorem fine_agg {fr : Int} {p : List Sample} (f0 : 0 ≤ fr) (f1 : fr ≤ 1099511627776) (h : 0 < p.length) (hn : p.length ≤ 1000000) (hs : ∀ s ∈ p, smallS s) : Fine (aggL fr p) := by
  refine ⟨(all_fine f0 f1 h hn hs).2, ?_⟩
  have hb := sumS_bound p hs
  unfold Wn
  rw [aggL_count, aggL_sum]
  omega
theorem down_wins {k k' : Int} (h0 : 0 < k) (h4 : k < 4) (h0' : 0 < k') (h4' : k' < 4) (hup : Up k k') : ∀ (f : Nat) (l p : List Sample) (F : Int) (out : List Agg) (g : Nat), l.length ≤ f → (p ++ l).length ≤ g → (p ++ l).length ≤ 1000000 → 0 < p.length →
    (∀ s ∈ p, floorA s.T k' = F) → (∀ s ∈ p ++ l, 0 ≤ s.T ∧ s.T ≤ 1099511627776) → (∀ s ∈ p ++ l, smallS s) → downL k' (wins k f l) (out ++ [aggL F p]) = (out ++ wins k' g (p ++ l), 0)
  | 0, l, p, F, out, g, hf, hg, hn, hp, hF, hT, hs => by
    obtain rfl := List.length_eq_zero_iff.1 (by omega : l.length = 0)
    rw [wins_cut hp hg hF (by intro s r h; cases h)]
    have : wins k' (g - 1) [] = [] := by cases g - 1 <;> rfl
    rw [this]; rfl
  | f + 1, [], p, F, out, g, hf, hg, hn, hp, hF, hT, hs => by
    rw [wins_cut hp hg hF (by intro s r h; cases h)]
    have : wins k' (g - 1) [] = [] := by cases g - 1 <;> rfl
    rw [this]; rfl
  | f + 1, s :: l, p, F, out, g, hf, hg, hn, hp, hF, hT, hs => by
    have hsT := hT s (List.mem_append_right _ (List.mem_cons_self ..))
    have hfl := floor_nn h0 h4 hsT.1 hsT.2
    have hpn : 0 < winLen k (floorA s.T k) (s :: l) := by simp [winLen]
    have hle := winLen_le k (floorA s.T k) (s :: l)
    have hwf := win_floor (k := k) (F := floorA s.T k) (s :: l)
    rw [wins]
    generalize winLen k (floorA s.T k) (s :: l) = n at *
    have e := List.take_append_drop n (s :: l)
    have e1 : ((s :: l).take n).length = n := by rw [List.length_take]; omega
    have e2 : ((s :: l).drop n).length = (s :: l).length - n := List.length_drop
    have hl1 : (p ++ s :: l).length = p.length + (s :: l).length := List.length_append
    have hG : floorA (floorA s.T k) k' = floorA s.T k' := hup s.T hsT.1 hsT.2
    have hwG : ∀ x ∈ (s :: l).take n, floorA x.T k' = floorA s.T k' := by
      intro x hx
      have hxT := hT x (List.mem_append_right _ (List.mem_of_mem_take hx))
      rw [← hup x.T hxT.1 hxT.2, hwf x hx, hG]
    have hgt : (out ++ [aggL F p]).getLast? = some (aggL F p) := by simp
    have hFp : F = floorA (p[0]'hp).T k' := (hF _ (List.getElem_mem hp)).symm
    have hp0 := hT _ (List.mem_append_left _ (List.getElem_mem hp))
    have hFr := floor_nn h0' h4' hp0.1 hp0.2
    rw [downL, hgt]
    simp only []
    rw [aggL_from F hp, aggL_from (floorA s.T k) (l := (s :: l).take n) (by omega), hG]
    by_cases hc : F = floorA s.T k'
    · rw [if_pos hc]
      have hfa : Fine (aggL F p) := fine_agg (by omega) (by omega) hp (by omega) fun x hx => hs x (List.mem_append_left _ hx)
      have hfb : Fine (aggL (floorA s.T k) ((s :: l).take n)) := fine_agg hfl.1 (by omega) (by omega) (by omega) fun x hx => hs x (List.mem_append_right _ (List.mem_of_mem_take hx))
      have hfb' := fine_at h0' h4' hfb
      have c1 : (aggL F p).Count = (p.length : Int) := aggL_count F
      have c2 : (atK (aggL (floorA s.T k) ((s :: l).take n)) k').Count = (n : Int) := by
        show (aggL (floorA s.T k) ((s :: l).take n)).Count = _
        rw [aggL_count, e1]
      obtain ⟨j1, _⟩ := fine_J hfa hfb' (by rw [c1, c2]; omega)
      rw [j1, if_pos rfl]
      simp only []
      have hset : (out ++ [aggL F p]).set ((out ++ [aggL F p]).length - 1) (J (aggL F p) (atK (aggL (floorA s.T k) ((s :: l).take n)) k')) = out ++ [aggL F (p ++ (s :: l).take n)] := by
        rw [J_at, ← aggL_append F (floorA s.T k) (by intro h; rw [h] at hp; simp at hp) (by intro h; rw [h] at e1; simp at e1; omega)]
        simp
      rw [hset, down_wins h0 h4 h0' h4' hup f ((s :: l).drop n) (p ++ (s :: l).take n) F out g (by rw [e2]; simp only [List.length_cons] at hf ⊢; omega) (by rw [List.append_assoc, e]; exact hg) (by rw [List.append_assoc, e]; exact hn) (by rw [List.length_append]; omega)
        (fun x hx => (List.mem_append.1 hx).elim (fun h => hF x h) (fun h => by rw [hwG x h, hc])) (by rw [List.append_assoc, e]; exact hT) (by rw [List.append_assoc, e]; exact hs), List.append_assoc, e]
    · rw [if_neg hc, atK_agg _ _ (by omega), hG]
      rw [down_wins h0 h4 h0' h4' hup f ((s :: l).drop n) ((s :: l).take n) (floorA s.T k') (out ++ [aggL F p]) (g - 1) (by rw [e2]; simp only [List.length_cons] at hf ⊢; omega) (by rw [e]; omega) (by rw [e]; omega) (by omega) hwG
        (by rw [e]; exact fun x hx => hT x (List.mem_append_right _ hx)) (by rw [e]; exact fun x hx => hs x (List.mem_append_right _ hx)), e]
      rw [wins_cut hp hg hF (by intro y r h; simp only [List.cons.injEq] at h; rw [← h.1]; exact fun q => hc q.symm), List.append_assoc]; rfl
theorem steps_once {l : List Sample} {k k' : Int} (hk : (k = 1 ∧ k' = 2) ∨ (k = 2 ∧ k' = 3)) (hr : risingA l = true) (hn : l.length ≤ 1000000) (hs : ∀ s ∈ l, smallS s) : downA (rawA l k).1 k' = rawA l k' ∧ (rawA l k').2 = 0 := by
  have ha := asc_of l (-1) (by omega) hr
  have r1 := raw_rising (k := k) (by omega) (by omega) hr hn hs
  have r2 := raw_rising (k := k') (by omega) (by omega) hr hn hs
  refine ⟨?_, r2.1⟩
  have hc : coarseA k = true := by simp only [coarseA, decide_eq_true_eq]; omega
  have hc' : coarseA k' = true := by simp only [coarseA, decide_eq_true_eq]; omega
  have hkk : k' - 1 = k := by omega
  obtain ⟨i1, _⟩ := wins_all (k := k) (by omega) (by omega) l.length l (-1) (Nat.le_refl _) hn ha.1 hs (fun s h => by have := floor_nn (t := s.T) (k := k) (by omega) (by omega) (ha.1.2 s h).1 (ha.1.2 s h).2; omega)
  obtain ⟨i2, _⟩ := wins_all (k := k') (by omega) (by omega) l.length l (-1) (Nat.le_refl _) hn ha.1 hs (fun s h => by have := floor_nn (t := s.T) (k := k') (by omega) (by omega) (ha.1.2 s h).1 (ha.1.2 s h).2; omega)
  have e1 : rawA l k = (wins k l.length l, 0) := by unfold rawA; rw [if_pos ⟨hr, hc⟩, i1]; rfl
  have e2 : rawA l k' = (wins k' l.length l, 0) := by unfold rawA; rw [if_pos ⟨hr, hc'⟩, i2]; rfl
  have hal := r1.2.1
  rw [e1] at hal ⊢
  rw [e2]
  unfold downA
  rw [hkk, if_pos ⟨by omega, hal, hc'⟩]
  cases l with
  | nil => rfl
  | cons s l =>
    have hsT := ha.1.2 s (List.mem_cons_self ..)
    have hfl := floor_nn (k := k) (by omega) (by omega) hsT.1 hsT.2
    have hup := up_w hk
    have hpn : 0 < winLen k (floorA s.T k) (s :: l) := by simp [winLen]
    have hle := winLen_le k (floorA s.T k) (s :: l)
    have hwf := win_floor (k := k) (F := floorA s.T k) (s :: l)
    simp only [List.length_cons] at hle hn ⊢
    rw [wins]
    generalize winLen k (floorA s.T k) (s :: l) = n at *
    have e := List.take_append_drop n (s :: l)
    have el : ((s :: l).take n).length = n := by rw [List.length_take]; simp only [List.length_cons]; omega
    have ed : ((s :: l).drop n).length = (s :: l).length - n := List.length_drop
    simp only [List.length_cons] at ed
    have hG : floorA (floorA s.T k) k' = floorA s.T k' := hup s.T hsT.1 hsT.2
    have hwG : ∀ x ∈ (s :: l).take n, floorA x.T k' = floorA s.T k' := by
      intro x hx
      have hxT := ha.1.2 x (List.mem_of_mem_take hx)
      rw [← hup x.T hxT.1 hxT.2, hwf x hx, hG]
    have hd := down_wins (k := k) (k' := k') (by omega) (by omega) (by omega) (by omega) hup l.length ((s :: l).drop n) ((s :: l).take n) (floorA s.T k') [] (l.length + 1) (by omega) (by rw [e]; simp) (by rw [e]; simp only [List.length_cons]; omega) (by omega) hwG (by rw [e]; exact ha.1.2) (by rw [e]; exact hs)
    rw [e] at hd
    rw [downL]
    simp only [List.getLast?_nil]
    rw [atK_agg _ _ (by omega), hG]
    simpa using hd
end Go.Proofs.Ytldfnkhccaglmaa
end
section
namespace Go.Proofs.Ytldfnkhccaglmaa
theorem mk_risingL {nid fr : Int} {steps values : List Int} (h0 : 0 ≤ fr) (h1 : fr ≤ 1000000000) : risingA ((mkL nid steps values).map (trS fr)) = true := by
  have hn := mkN nid steps
  have hl := mkL_len nid steps values
  have hg : ∀ j (h : j < ((mkL nid steps values).map (trS fr)).length), (((mkL nid steps values).map (trS fr))[j]'h).T = tAt (nid :: steps) (j + 1) + fr := fun j h => by
    rw [List.getElem_map]
    have : (mkL nid steps values)[j]'(by simpa using h) = (⟨tAt (nid :: steps) (j + 1), vAt values j⟩ : Sample) := rise_get ..
    rw [this]; rfl
  refine rises_of _ _ (fun j h => ?_) (fun i j hi h => ?_)
  · have e := hg j h
    rw [List.length_map, hl] at h
    have h2 := tAt_r (steps := nid :: steps) (i := j + 1) (by rw [List.length_cons]; omega)
    omega
  · rw [hg, hg]
    rw [List.length_map, hl] at h
    have := tAt_lt (steps := nid :: steps) (i := i + 1) (j := j + 1) (by omega) (by rw [List.length_cons]; omega)
    omega
theorem mk_rising {nid fr : Int} {steps values : List Int} (h0 : 0 ≤ fr) (h1 : fr ≤ 1000000000) : risingA (makeS nid fr steps values).Samples = true := mk_risingL h0 h1
theorem mk_small {nid fr : Int} {steps values : List Int} : ∀ s ∈ (makeS nid fr steps values).Samples, smallS s := by
  intro s hs
  simp only [makeS, List.mem_map] at hs
  obtain ⟨y, _, rfl⟩ := hs
  have := tmod_small y.V
  simp only [smallS, trS]; omega
theorem wins_from {k : Int} : ∀ (f : Nat) (l : List Sample), ∀ a ∈ wins k f l, ∃ s ∈ l, a.From = floorA s.T k
  | 0, _, a, h => nomatch h
  | f + 1, [], a, h => nomatch h
  | f + 1, s :: l, a, h => by
    rw [wins] at h
    rcases List.mem_cons.1 h with rfl | h
    · have hp := win_pos (k := k) (l := s :: l) (by simp)
      simp only [List.getElem_cons_zero] at hp
      exact ⟨s, List.mem_cons_self .., aggL_from _ (by rw [List.length_take, List.length_cons]; omega)⟩
    · obtain ⟨x, hx, e⟩ := wins_from f _ a h
      exact ⟨x, List.mem_of_mem_drop hx, e⟩
theorem raw_wins {l : List Sample} {k : Int} (h0 : 0 < k) (h4 : k < 4) (hr : risingA l = true) (hn : l.length ≤ 1000000) (hs : ∀ s ∈ l, smallS s) : (rawA l k).1 = wins k l.length l := by
  have ha := asc_of l (-1) (by omega) hr
  obtain ⟨i1, _⟩ := wins_all h0 h4 l.length l (-1) (Nat.le_refl _) hn ha.1 hs (fun s h => by have := floor_nn h0 h4 (ha.1.2 s h).1 (ha.1.2 s h).2; omega)
  have hc : coarseA k = true := by simp only [coarseA, decide_eq_true_eq]; omega
  unfold rawA
  rw [if_pos ⟨hr, hc⟩, i1]; simp
theorem raw_from {l : List Sample} {k : Int} (h0 : 0 < k) (h4 : k < 4) (hr : risingA l = true) (hn : l.length ≤ 1000000) (hs : ∀ s ∈ l, smallS s) : ∀ a ∈ (rawA l k).1, ∃ s ∈ l, a.From = floorA s.T k := by
  rw [raw_wins h0 h4 hr hn hs]; exact wins_from _ _
theorem make_may {nid fr : Int} {steps values : List Int} (h0 : 0 ≤ fr) (h1 : fr ≤ 1000000000) : mayS (makeS nid fr steps values) = true := by
  have ht := make_to (nid := nid) (fr := fr) (steps := steps) (values := values)
  have hl := mkL_len nid steps values
  have hn := mkN nid steps
  have hlen : (makeS nid fr steps values).Samples.length = riseN (nid :: steps) 40 := by simp only [makeS, List.length_map, hl]
  have hT : ∀ i (h : i < (makeS nid fr steps values).Samples.length), fr + 1 ≤ (gd (makeS nid fr steps values).Samples i).T ∧ (gd (makeS nid fr steps values).Samples i).T ≤ fr + 1600 := fun i h => by
    rw [gd_eq h]; exact made_T (mkL_T (nid := nid) (steps := steps) (values := values)) rfl h
  refine may_iff.2 ⟨headS_yes ?_, Or.inl ⟨rfl, mayRaw_iff.2 ⟨rfl, by omega, by omega, mk_rising h0 h1, ?_, ?_⟩⟩⟩
  · have e1 : (makeS nid fr steps values).Id = 1 + nid % 18446744073709551616 % 1000 := rfl
    have e2 : (makeS nid fr steps values).Tier = 0 := rfl
    have e3 : (makeS nid fr steps values).From = fr := rfl
    omega
  · have := hT 0 (by omega)
    show fr ≤ _; omega
  · have e : (makeS nid fr steps values).To = (gd (makeS nid fr steps values).Samples ((mkL nid steps values).length - 1)).T + 1 + nid % 18446744073709551616 % 7 := rfl
    rw [hlen, e, hl]; omega
def atT (s : SegD) (i k : Nat) : SegD := if k = 0 then s else ⟨10 * (i : Int) + (k : Int) + 1, (k : Int), s.From, s.To, [], (rawA s.Samples (k : Int)).1⟩
theorem atT_may {s : SegD} {i k : Nat} (h : mayS s = true) (ht : s.Tier = 0) (hs : ∀ x ∈ s.Samples, smallS x) (hi : i < 1000) (hk : k < 4) : mayS (atT s i k) = true := by
  unfold atT
  split
  · exact h
  rename_i h0
  obtain ⟨g1, g2⟩ := may_iff.1 h
  have g1 := headS_iff.1 g1
  rcases g2 with ⟨_, g2⟩ | ⟨g2, _⟩
  · obtain ⟨_, a1, a2, a3, a4, a5⟩ := mayRaw_iff.1 g2
    have hr := raw_rising (l := s.Samples) (k := (k : Int)) (by omega) (by omega) a3 (by omega) hs
    have hf := raw_from (l := s.Samples) (k := (k : Int)) (by omega) (by omega) a3 (by omega) hs
    have hlen := rawA_len s.Samples (k : Int)
    have hpos : 0 < (rawA s.Samples (k : Int)).1.length := len_pos_of_cnt (by unfold cntA; rw [hr.2.2.1]; omega)
    have hasc := (asc_of s.Samples (-1) (by decide) a3).1
    have hb : ∀ x ∈ s.Samples, s.From ≤ x.T ∧ x.T < s.To := fun x hx => by
      obtain ⟨j, hj, rfl⟩ := List.mem_iff_getElem.1 hx
      have hp := List.pairwise_iff_getElem.1 hasc.1
      rw [gd_eq (by omega)] at a4 a5
      constructor
      · by_cases e : j = 0
        · subst e; exact a4
        · have := hp 0 j (by omega) hj (by omega); omega
      · by_cases e : j = s.Samples.length - 1
        · subst e; exact a5
        · have := hp j (s.Samples.length - 1) hj (by omega) (by omega); omega
    refine may_iff.2 ⟨headS_yes (by simp only []; omega), Or.inr ⟨by simp only []; omega, mayUp_iff.2 ⟨rfl, hpos, by simp only []; omega, hr.2.1, ?_, ?_⟩⟩⟩
    · simp only []
      rw [gd_eq hpos]
      obtain ⟨x, hx, e⟩ := hf _ (List.getElem_mem hpos)
      rw [e]
      have := hb x hx
      exact floor_mono (by omega) (by omega) (by omega) this.1 (by omega)
    · simp only []
      rw [gd_eq (by omega)]
      obtain ⟨x, hx, e⟩ := hf _ (List.getElem_mem (show (rawA s.Samples (k : Int)).1.length - 1 < (rawA s.Samples (k : Int)).1.length by omega))
      rw [e]
      have := hb x hx
      have := floor_nn (t := x.T) (k := (k : Int)) (by omega) (by omega) (by omega) (by omega)
      omega
  · exact absurd ht g2
theorem up_is {s : SegD} {i : Nat} (h : mayS s = true) (ht : s.Tier = 0) (hs : ∀ x ∈ s.Samples, smallS x) (hi : i < 1000) : ∀ {k : Nat}, k < 4 → upS s i k = atT s i k
  | 0, _ => rfl
  | k + 1, hk => by
    have ih := up_is h ht hs hi (k := k) (by omega)
    have hm := atT_may h ht hs hi (k := k) (by omega)
    obtain ⟨_, g2⟩ := may_iff.1 h
    rcases g2 with ⟨_, g2⟩ | ⟨g2, _⟩
    · obtain ⟨_, a1, a2, a3, _, _⟩ := mayRaw_iff.1 g2
      have hr := raw_rising (l := s.Samples) (k := ((k + 1 : Nat) : Int)) (by omega) (by omega) a3 (by omega) hs
      have hlen := rawA_len s.Samples ((k + 1 : Nat) : Int)
      have htk : (atT s i k).Tier = ((k : Int) + 1) - 1 := by
        unfold atT; split
        · rw [ht]; omega
        · simp only []; omega
      have hx : (if (k : Int) + 1 = 1 then rawA (atT s i k).Samples 1 else downA (atT s i k).Aggs ((k : Int) + 1)) = rawA s.Samples ((k + 1 : Nat) : Int) := by
        by_cases e : k = 0
        · subst e; rfl
        · rw [if_neg (by omega)]
          unfold atT; rw [if_neg e]
          have := (steps_once (l := s.Samples) (k := (k : Int)) (k' := ((k + 1 : Nat) : Int)) (by omega) a3 (by omega) hs).1
          exact this
      have hft : (atT s i k).From = s.From ∧ (atT s i k).To = s.To := by unfold atT; split <;> exact ⟨rfl, rfl⟩
      show (rollS (upS s i k) _ _).1 = _
      rw [ih]
      unfold rollS rollT
      rw [if_neg (by omega), if_pos ⟨hm, htk⟩, hx, if_neg (fun c => c hr.1), if_neg (by omega), hft.1, hft.2]
      unfold atT
      rw [if_neg (by omega)]
      congr 1 <;> first | rfl | omega
    · exact absurd ht g2
end Go.Proofs.Ytldfnkhccaglmaa
end
section
namespace Go.Proofs.Ytldfnkhccaglmaa
theorem step_new {best : List Info} {i : Info} (h : ∀ x ∈ best, ¬ (x.From = i.From ∧ x.To = i.To)) : stepP best i = best ++ [i] := by
  unfold stepP
  rw [if_pos]
  by_cases c : idxI (fun y => decide (y.From = i.From ∧ y.To = i.To)) best < 0
  · exact c
  · obtain ⟨hk, hp⟩ := idx_some c
    exact absurd (of_decide_eq_true hp) (h _ (List.getElem_mem hk))
theorem step_keep {best : List Info} {i : Info} (h : ∃ x ∈ best, x.From = i.From ∧ x.To = i.To) (hf : ∀ x ∈ best, x.From = i.From ∧ x.To = i.To → fineI i x = false) : stepP best i = best := by
  obtain ⟨x, hx, he⟩ := h
  unfold stepP
  by_cases c : idxI (fun y => decide (y.From = i.From ∧ y.To = i.To)) best < 0
  · have := idx_none_iff c x hx
    rw [decide_eq_true he] at this; cases this
  · obtain ⟨hk, hp⟩ := idx_some c
    rw [if_neg c, if_neg]
    rw [gd_eq hk, hf _ (List.getElem_mem hk) (of_decide_eq_true hp)]; decide
theorem best_append (l r : List Info) : bestP (l ++ r) = r.foldl stepP (bestP l) := by unfold bestP; rw [List.foldl_append]
def firstM (mask : Int) (i : Nat) : Nat → Option Nat
  | 0 => none
  | k + 1 => match firstM mask i k with
    | some j => some j
    | none => if bitM mask i k = true then some k else none
theorem firstM_lt {mask : Int} {i : Nat} : ∀ {k j : Nat}, firstM mask i k = some j → j < k ∧ bitM mask i j = true
  | 0, j, h => by simp [firstM] at h
  | k + 1, j, h => by
    rw [firstM] at h
    cases e : firstM mask i k with
    | some x => rw [e] at h; obtain rfl := Option.some.inj h; have := firstM_lt e; exact ⟨by omega, this.2⟩
    | none =>
      rw [e] at h
      simp only [] at h
      split at h
      · obtain rfl := Option.some.inj h; exact ⟨by omega, by assumption⟩
      · cases h
abbrev firstL (s : SegD) (mask : Int) (i k : Nat) : List SegD := match firstM mask i k with
  | some j => [atT s i j]
  | none => []
theorem atT_info {s : SegD} {i k : Nat} (hid : s.Id = 10 * (i : Int) + 1) (ht : s.Tier = 0) : infoOf (atT s i k) = ⟨10 * (i : Int) + (k : Int) + 1, (k : Int), s.From, s.To, 0⟩ := by
  unfold atT infoOf
  split
  · rename_i h; subst h; rw [hid, ht]; simp
  · rfl
theorem tiers_best {s : SegD} {mask : Int} {i : Nat} {B : List Info} (h : mayS s = true) (ht : s.Tier = 0) (hid : s.Id = 10 * (i : Int) + 1) (hs : ∀ x ∈ s.Samples, smallS x) (hi : i < 1000) (hB : ∀ x ∈ B, ¬ (x.From = s.From ∧ x.To = s.To)) :
    ∀ {k : Nat}, k ≤ 4 → (infosOf (tiersM mask s i k)).foldl stepP B = B ++ infosOf (firstL s mask i k)
  | 0, _ => by simp [tiersM, infosOf, firstL, firstM]
  | k + 1, hk => by
    have ih := tiers_best (mask := mask) h ht hid hs hi hB (k := k) (by omega)
    have hu := up_is h ht hs hi (k := k) (by omega)
    rw [tiersM]
    unfold infosOf at ih ⊢
    rw [List.map_append, List.foldl_append, ih]
    by_cases hb : bitM mask i k = true
    · rw [if_pos hb, hu]
      simp only [List.map_cons, List.map_nil, List.foldl_cons, List.foldl_nil, firstL, firstM]
      have hin := atT_info (i := i) (k := k) hid ht
      cases e : firstM mask i k with
      | none =>
        simp only [if_pos hb, List.map_nil, List.append_nil, List.map_cons]
        exact step_new (by rw [hin]; exact hB)
      | some j =>
        have hj := (firstM_lt e).1
        have hjn := atT_info (i := i) (k := j) hid ht
        simp only [List.map_cons, List.map_nil]
        refine step_keep ⟨infoOf (atT s i j), List.mem_append_right _ (List.mem_singleton.2 rfl), by rw [hin, hjn]; exact ⟨rfl, rfl⟩⟩ fun x hx he => ?_
        rcases List.mem_append.1 hx with hx | hx
        · rw [hin] at he; exact absurd he (hB x hx)
        · obtain rfl := List.mem_singleton.1 hx
          rw [hin, hjn]
          refine Bool.eq_false_iff.2 fun c => ?_
          have := fineI_iff.1 c
          simp only [] at this
          omega
    · rw [if_neg hb]
      simp only [List.map_nil, List.foldl_nil, firstL, firstM]
      cases e : firstM mask i k with
      | none => simp only [if_neg hb]
      | some j => rfl
/-! ### Rows -/
section
variable (steps values : List Int) (mask : Int)
abbrev toM (i : Nat) : Int := (rowM steps values mask i).to
abbrev baseM (i : Nat) : SegD := mk0 steps values i (toM steps values mask i)
theorem base_facts {i : Nat} (hi : i < 4) : mayS (baseM steps values mask i) = true ∧ (baseM steps values mask i).Tier = 0 ∧ (baseM steps values mask i).Id = 10 * (i : Int) + 1 ∧ (∀ x ∈ (baseM steps values mask i).Samples, smallS x) ∧ (baseM steps values mask i).From = toM steps values mask i ∧ (baseM steps values mask i).To = toM steps values mask (i + 1) := by
  have ht : 0 ≤ toM steps values mask i ∧ toM steps values mask i ≤ 2000 * (i : Int) := rowM_to steps values mask (i := i) (by omega)
  have hm : mayS (baseM steps values mask i) = true := make_may ht.1 (by omega)
  refine ⟨hm, rfl, ?_, mk_small, rfl, ?_⟩
  · show 1 + (10 * (i : Int)) % 18446744073709551616 % 1000 = _
    rw [Int.emod_eq_of_lt (a := 10 * (i : Int)) (by omega) (by omega), Int.emod_eq_of_lt (by omega) (by omega)]; omega
  · have hu := up_is (i := i) hm rfl mk_small (by omega) (k := 3) (by omega)
    show _ = (upS (baseM steps values mask i) i 3).To
    rw [hu]; rfl
def finL : Nat → List SegD
  | 0 => []
  | i + 1 => finL i ++ firstL (baseM steps values mask i) mask i 4
theorem fin_to : ∀ {i : Nat}, i ≤ 4 → ∀ x ∈ finL steps values mask i, x.From < x.To ∧ x.To ≤ toM steps values mask i
  | 0, _, x, h => nomatch h
  | i + 1, hi, x, h => by
    obtain ⟨hm, h0, hid, hs, hf, ht⟩ := base_facts steps values mask (i := i) (by omega)
    have hlt : toM steps values mask i < toM steps values mask (i + 1) := by
      have := headS_iff.1 (may_iff.1 hm).1
      omega
    rw [finL] at h
    rcases List.mem_append.1 h with h | h
    · have := fin_to (i := i) (by omega) x h; omega
    · have hx : x.From = toM steps values mask i ∧ x.To = toM steps values mask (i + 1) := by
        unfold firstL at h
        split at h
        · obtain rfl := List.mem_singleton.1 h
          unfold atT; split
          · exact ⟨hf, ht⟩
          · exact ⟨hf, ht⟩
        · cases h
      omega
theorem best_row : ∀ {i : Nat}, i ≤ 4 → bestP (infosOf (rowM steps values mask i).l) = infosOf (finL steps values mask i)
  | 0, _ => rfl
  | i + 1, hi => by
    obtain ⟨hm, h0, hid, hs, hf, ht⟩ := base_facts steps values mask (i := i) (by omega)
    have ih := best_row (i := i) (by omega)
    have hB : ∀ x ∈ infosOf (finL steps values mask i), ¬ (x.From = (baseM steps values mask i).From ∧ x.To = (baseM steps values mask i).To) := fun x hx => by
      obtain ⟨y, hy, rfl⟩ := List.mem_map.1 hx
      have := fin_to steps values mask (i := i) (by omega) y hy
      rw [hf]
      simp only [infoOf]; omega
    have := tiers_best (mask := mask) hm h0 hid hs (by omega) hB (k := 4) (Nat.le_refl _)
    show bestP (infosOf ((rowM steps values mask i).l ++ tiersM mask (baseM steps values mask i) i 4)) = _
    unfold infosOf at this ih ⊢
    rw [List.map_append, best_append, ih, this, finL, List.map_append]
theorem firstL_span {i : Nat} (hi : i < 4) : ∀ x ∈ firstL (baseM steps values mask i) mask i 4, x.From = toM steps values mask i ∧ x.To = toM steps values mask (i + 1) := fun x h => by
  obtain ⟨hm, h0, hid, hs, hf, ht⟩ := base_facts steps values mask (i := i) hi
  unfold firstL at h
  split at h
  · obtain rfl := List.mem_singleton.1 h
    unfold atT; split
    · exact ⟨hf, ht⟩
    · exact ⟨hf, ht⟩
  · cases h
theorem fin_chain : ∀ {i : Nat}, i ≤ 4 → (finL steps values mask i).Pairwise fun a b => a.To ≤ b.From
  | 0, _ => List.Pairwise.nil
  | i + 1, hi => by
    rw [finL]
    refine List.pairwise_append.2 ⟨fin_chain (by omega), ?_, fun a ha b hb => ?_⟩
    · unfold firstL; split
      · exact List.pairwise_singleton _ _
      · exact List.Pairwise.nil
    · have h1 := fin_to steps values mask (i := i) (by omega) a ha
      have h2 := firstL_span steps values mask (i := i) (by omega) b hb
      omega
theorem fin_sorted {i : Nat} (hi : i ≤ 4) : SortedF (infosOf (finL steps values mask i)) := by
  have hp := fin_chain steps values mask hi
  have ht := fin_to steps values mask hi
  unfold SortedF infosOf
  refine List.pairwise_map.2 (hp.imp_of_mem fun {a b} ha hb hab => ?_)
  have h1 := ht a ha
  refine Bool.eq_false_iff.2 fun c => ?_
  have := aheadF_iff.1 c
  simp only [infoOf] at this
  omega
theorem pick_row {i : Nat} (hi : i ≤ 4) : pickI (infosOf (rowM steps values mask i).l) = (finL steps values mask i).map SegD.Id := by
  unfold pickI
  rw [← pick_of (q := infosOf (finL steps values mask i)) (by rw [best_row steps values mask hi]) (fin_sorted steps values mask hi)]
  unfold infosOf; rw [List.map_map]; rfl
theorem tiers_mem {s : SegD} {i : Nat} (h : mayS s = true) (ht : s.Tier = 0) (hs : ∀ x ∈ s.Samples, smallS x) (hi : i < 1000) : ∀ {k : Nat}, k ≤ 4 → ∀ x ∈ tiersM mask s i k, ∃ j, j < k ∧ x = atT s i j
  | 0, _, x, hx => nomatch hx
  | k + 1, hk, x, hx => by
    rw [tiersM] at hx
    rcases List.mem_append.1 hx with hx | hx
    · obtain ⟨j, hj, e⟩ := tiers_mem h ht hs hi (k := k) (by omega) x hx
      exact ⟨j, by omega, e⟩
    · split at hx
      · obtain rfl := List.mem_singleton.1 hx
        exact ⟨k, by omega, up_is h ht hs hi (by omega)⟩
      · cases hx
theorem tiers_has {s : SegD} {i j : Nat} (h : mayS s = true) (ht : s.Tier = 0) (hs : ∀ x ∈ s.Samples, smallS x) (hi : i < 1000) : ∀ {k : Nat}, k ≤ 4 → j < k → bitM mask i j = true → atT s i j ∈ tiersM mask s i k
  | 0, _, hj, _ => by omega
  | k + 1, hk, hj, hb => by
    rw [tiersM]
    by_cases e : j = k
    · subst e
      rw [if_pos hb, up_is h ht hs hi (by omega)]
      exact List.mem_append_right _ (List.mem_singleton.2 rfl)
    · exact List.mem_append_left _ (tiers_has h ht hs hi (by omega) (by omega) hb)
theorem row_mem : ∀ {i : Nat}, i ≤ 4 → ∀ x ∈ (rowM steps values mask i).l, ∃ a j, a < i ∧ j < 4 ∧ x = atT (baseM steps values mask a) a j
  | 0, _, x, hx => nomatch hx
  | i + 1, hi, x, hx => by
    obtain ⟨hm, h0, hid, hs, _⟩ := base_facts steps values mask (i := i) (by omega)
    have hx : x ∈ (rowM steps values mask i).l ++ tiersM mask (baseM steps values mask i) i 4 := hx
    rcases List.mem_append.1 hx with hx | hx
    · obtain ⟨a, j, ha, hj, e⟩ := row_mem (i := i) (by omega) x hx
      exact ⟨a, j, by omega, hj, e⟩
    · obtain ⟨j, hj, e⟩ := tiers_mem mask hm h0 hs (by omega) (Nat.le_refl 4) x hx
      exact ⟨i, j, by omega, hj, e⟩
theorem at_id {a j : Nat} (ha : a < 4) : (atT (baseM steps values mask a) a j).Id = 10 * (a : Int) + (j : Int) + 1 := by
  obtain ⟨_, h0, hid, _⟩ := base_facts steps values mask (i := a) ha
  exact congrArg Info.Id (atT_info (i := a) (k := j) hid h0)
theorem row_ids {i : Nat} (hi : i ≤ 4) : ∀ x ∈ (rowM steps values mask i).l, ∀ y ∈ (rowM steps values mask i).l, x.Id = y.Id → x = y := fun x hx y hy e => by
  obtain ⟨a, j, ha, hj, rfl⟩ := row_mem steps values mask hi x hx
  obtain ⟨b, k, hb, hk, rfl⟩ := row_mem steps values mask hi y hy
  rw [at_id steps values mask (by omega), at_id steps values mask (by omega)] at e
  obtain rfl : a = b := by omega
  obtain rfl : j = k := by omega
  rfl
theorem find_row {i : Nat} (hi : i ≤ 4) : ∀ x ∈ (rowM steps values mask i).l, findD (rowM steps values mask i).l x.Id = x := fun x hx => by
  unfold findD
  cases e : (rowM steps values mask i).l.find? (fun s => decide (s.Id = x.Id)) with
  | none => have := List.find?_eq_none.1 e x hx; simp at this
  | some y =>
    have h1 := List.mem_of_find?_eq_some e
    have h2 : y.Id = x.Id := by simpa using List.find?_some e
    exact row_ids steps values mask hi y h1 x hx h2
theorem fin_mem : ∀ {i : Nat}, i ≤ 4 → ∀ x ∈ finL steps values mask i, x ∈ (rowM steps values mask i).l
  | 0, _, x, hx => nomatch hx
  | i + 1, hi, x, hx => by
    obtain ⟨hm, h0, hid, hs, _⟩ := base_facts steps values mask (i := i) (by omega)
    show x ∈ (rowM steps values mask i).l ++ tiersM mask (baseM steps values mask i) i 4
    rw [finL] at hx
    rcases List.mem_append.1 hx with hx | hx
    · exact List.mem_append_left _ (fin_mem (by omega) x hx)
    · refine List.mem_append_right _ ?_
      unfold firstL at hx
      split at hx
      · rename_i j e
        obtain rfl := List.mem_singleton.1 hx
        have := firstM_lt e
        exact tiers_has mask hm h0 hs (by omega) (Nat.le_refl 4) this.1 this.2
      · cases hx
theorem pickS_row {i : Nat} (hi : i ≤ 4) : pickS (rowM steps values mask i).l = finL steps values mask i := by
  unfold pickS
  rw [pick_row steps values mask hi, List.map_map]
  conv => rhs; rw [← List.map_id (finL steps values mask i)]
  refine List.map_congr_left fun x hx => ?_
  exact find_row steps values mask hi x (fin_mem steps values mask hi x hx)
theorem tiers_up {i : Nat} (hi : i < 4) : ∀ {k : Nat}, k ≤ 4 → (tiersM mask (baseM steps values mask i) i k).Pairwise fun a b => a.Id < b.Id
  | 0, _ => List.Pairwise.nil
  | k + 1, hk => by
    obtain ⟨hm, h0, hid, hs, _⟩ := base_facts steps values mask (i := i) hi
    rw [tiersM]
    refine List.pairwise_append.2 ⟨tiers_up hi (by omega), by split <;> first | exact List.pairwise_singleton _ _ | exact List.Pairwise.nil, fun a ha b hb => ?_⟩
    obtain ⟨j, hj, rfl⟩ := tiers_mem mask hm h0 hs (by omega) (show k ≤ 4 by omega) a ha
    split at hb
    · obtain rfl := List.mem_singleton.1 hb
      rw [up_is hm h0 hs (by omega) (by omega), at_id steps values mask hi, at_id steps values mask hi]; omega
    · cases hb
theorem row_up : ∀ {i : Nat}, i ≤ 4 → (rowM steps values mask i).l.Pairwise fun a b => a.Id < b.Id
  | 0, _ => List.Pairwise.nil
  | i + 1, hi => by
    obtain ⟨hm, h0, hid, hs, _⟩ := base_facts steps values mask (i := i) (by omega)
    refine List.pairwise_append.2 ⟨row_up (by omega), tiers_up steps values mask (by omega) (Nat.le_refl 4), fun a ha b hb => ?_⟩
    obtain ⟨x, j, hx, hj, rfl⟩ := row_mem steps values mask (i := i) (by omega) a ha
    obtain ⟨k, hk, rfl⟩ := tiers_mem mask hm h0 hs (by omega) (Nat.le_refl 4) b hb
    rw [at_id steps values mask (by omega), at_id steps values mask (by omega)]; omega
theorem row_may {i : Nat} (hi : i ≤ 4) : ∀ x ∈ (rowM steps values mask i).l, mayS x = true := fun x hx => by
  obtain ⟨a, j, ha, hj, rfl⟩ := row_mem steps values mask hi x hx
  obtain ⟨hm, h0, hid, hs, _⟩ := base_facts steps values mask (i := a) (by omega)
  exact atT_may hm h0 hs (by omega) hj
end
theorem okTo_of {l : List SegD} (hm : ∀ x ∈ l, mayS x = true) (hp : l.Pairwise fun a b => a.Id < b.Id) : ∀ {n : Nat}, n ≤ l.length → okTo l n = true
  | 0, _ => rfl
  | n + 1, hn => by
    refine okTo_step (okTo_of hm hp (by omega)) (by rw [gd_eq (by omega)]; exact hm _ (List.getElem_mem _)) ?_
    refine List.any_eq_false.2 fun y hy => ?_
    obtain ⟨z, hz, rfl⟩ := List.mem_map.1 hy
    obtain ⟨j, hj, rfl⟩ := List.mem_iff_getElem.1 hz
    have hg : gd l n = l[n]'(by omega) := gd_eq (by omega)
    rw [List.getElem_take, hg]
    have hjn : j < n := by rw [List.length_take] at hj; omega
    have := List.pairwise_iff_getElem.1 hp j n (by omega) (by omega) hjn
    intro c
    have c : (l[j]'(by omega)).Id = (l[n]'(by omega)).Id := of_decide_eq_true c
    omega
theorem chain_of : ∀ {l : List SegD} {last : Int}, (∀ x ∈ l, last ≤ x.From) → l.Pairwise (fun a b => a.To ≤ b.From) → chainS last l = true
  | [], _, _, _ => rfl
  | s :: r, last, h, hp => by
    have hp := List.pairwise_cons.1 hp
    show (decide (last ≤ s.From) && chainS s.To r) = true
    rw [decide_eq_true (h s (List.mem_cons_self ..)), chain_of hp.1 hp.2]; rfl
section
variable (steps values : List Int) (mask : Int)
theorem fin_from {i : Nat} (hi : i ≤ 4) : ∀ x ∈ finL steps values mask i, 0 ≤ x.From := fun x hx => by
  have := row_may steps values mask hi x (fin_mem steps values mask hi x hx)
  exact (headS_iff.1 (may_iff.1 this).1).2.2.2.2.1
theorem row_okC {i : Nat} (hi : i ≤ 4) : okTo (rowM steps values mask i).l (rowM steps values mask i).l.length = true ∧ chainS 0 (pickS (rowM steps values mask i).l) = true := by
  refine ⟨okTo_of (row_may steps values mask hi) (row_up steps values mask hi) (Nat.le_refl _), ?_⟩
  rw [pickS_row steps values mask hi]
  exact chain_of (fin_from steps values mask hi) (fin_chain steps values mask hi)
theorem row_okR {i : Nat} (hi : i ≤ 4) : okR (rowM steps values mask i).l [] = true := by
  obtain ⟨h1, h2⟩ := row_okC steps values mask hi
  rw [okR_is h1 h2]; rfl
theorem range_row {i : Nat} {fr to : Int} (hi : i ≤ 4) (h0 : 0 ≤ fr) (h1 : fr < to) (h2 : to ≤ 1099511627776) : rangeW (rowM steps values mask i).l [] fr to = ((finL steps values mask i).flatMap (fun s => segW s fr to), 0) := by
  rw [range_yes (row_okR steps values mask hi) (by omega), pickS_row steps values mask hi]
  have : rawW [] fr to = [] := rfl
  rw [this, List.append_nil]
theorem row_best {i : Nat} (hi : i ≤ 4) : (bestP (infosOf (rowM steps values mask i).l)).length ≤ 12 := by
  rw [best_row steps values mask hi]
  unfold infosOf; rw [List.length_map]
  have : ∀ {n : Nat}, (finL steps values mask n).length ≤ n := by
    intro n
    induction n with
    | zero => exact Nat.le_refl _
    | succ n ih =>
      rw [finL, List.length_append]
      have : (firstL (baseM steps values mask n) mask n 4).length ≤ 1 := by unfold firstL; split <;> simp
      omega
  have := this (n := i)
  omega
end
end Go.Proofs.Ytldfnkhccaglmaa
end
section
namespace Go.Proofs.Ytldfnkhccaglmaa
section
variable (steps values : List Int) (mask : Int)
theorem all_bounds : ∀ {i : Nat}, i ≤ 4 → (rowM steps values mask i).all.Pairwise (fun a b : Sample => a.T < b.T) ∧ ∀ x ∈ (rowM steps values mask i).all, 0 ≤ x.T ∧ x.T < toM steps values mask i
  | 0, _ => ⟨List.Pairwise.nil, fun x h => nomatch h⟩
  | i + 1, hi => by
    obtain ⟨ih1, ih2⟩ := all_bounds (i := i) (by omega)
    obtain ⟨hm, h0, hid, hs, hf, ht⟩ := base_facts steps values mask (i := i) (by omega)
    have hto : 0 ≤ toM steps values mask i ∧ toM steps values mask i ≤ 2000 * (i : Int) := rowM_to steps values mask (i := i) (by omega)
    obtain ⟨_, g2⟩ := may_iff.1 hm
    rcases g2 with ⟨_, g2⟩ | ⟨g2, _⟩
    · obtain ⟨_, a1, a2, a3, a4, a5⟩ := mayRaw_iff.1 g2
      have hasc := (asc_of _ (-1) (by decide) a3).1
      have hb : ∀ x ∈ (baseM steps values mask i).Samples, (baseM steps values mask i).From ≤ x.T ∧ x.T < (baseM steps values mask i).To := fun x hx => by
        obtain ⟨j, hj, rfl⟩ := List.mem_iff_getElem.1 hx
        have hp := List.pairwise_iff_getElem.1 hasc.1
        rw [gd_eq (by omega)] at a4 a5
        constructor
        · by_cases e : j = 0
          · subst e; exact a4
          · have := hp 0 j (by omega) hj (by omega); omega
        · by_cases e : j = (baseM steps values mask i).Samples.length - 1
          · subst e; exact a5
          · have := hp j ((baseM steps values mask i).Samples.length - 1) hj (by omega) (by omega); omega
      show ((rowM steps values mask i).all ++ (baseM steps values mask i).Samples).Pairwise _ ∧ ∀ x ∈ (rowM steps values mask i).all ++ (baseM steps values mask i).Samples, _
      have hlt : toM steps values mask i < toM steps values mask (i + 1) := by
        have := headS_iff.1 (may_iff.1 hm).1
        omega
      refine ⟨List.pairwise_append.2 ⟨ih1, hasc.1, fun a ha b hb' => ?_⟩, fun x hx => ?_⟩
      · have h1 := ih2 a ha; have h2 := hb b hb'; omega
      · rcases List.mem_append.1 hx with hx | hx
        · have := ih2 x hx; omega
        · have := hb x hx; omega
    · exact absurd h0 g2
end
end Go.Proofs.Ytldfnkhccaglmaa
end
section
namespace Go.Proofs.Ytldfnkhccaglmaa
theorem bit_some (mask : Int) (i : Nat) : ∃ k, k < 4 ∧ bitM mask i k = true := by
  unfold bitM
  by_cases h0 : (mask / 2 ^ (4 * i)) % 16 = 0
  · exact ⟨0, by decide, by simp [h0]⟩
  · have h : (mask / 2 ^ (4 * i)) % 16 / 2 ^ 0 % 2 = 1 ∨ (mask / 2 ^ (4 * i)) % 16 / 2 ^ 1 % 2 = 1 ∨ (mask / 2 ^ (4 * i)) % 16 / 2 ^ 2 % 2 = 1 ∨ (mask / 2 ^ (4 * i)) % 16 / 2 ^ 3 % 2 = 1 := by
      generalize mask / 2 ^ (4 * i) = m at h0 ⊢
      omega
    rcases h with h | h | h | h
    · exact ⟨0, by decide, by rw [decide_eq_true h]; rfl⟩
    · exact ⟨1, by decide, by rw [decide_eq_true h]; rfl⟩
    · exact ⟨2, by decide, by rw [decide_eq_true h]; rfl⟩
    · exact ⟨3, by decide, by rw [decide_eq_true h]; rfl⟩
theorem up_ok {s : SegD} {i : Nat} (h : s.ok) (hi : i < 1000) : ∀ {k : Nat}, k < 1000 → (upS s i k).ok
  | 0, _ => h
  | k + 1, hk => roll_ok2 (up_ok h hi (k := k) (by omega)) ⟨by omega, by omega⟩ ⟨by omega, by omega⟩
theorem tiers_ok {mask : Int} {s : SegD} {i : Nat} (h : s.ok) (hi : i < 1000) : ∀ {k : Nat}, k < 1000 → ∀ x ∈ tiersM mask s i k, x.ok
  | 0, _, x, hx => nomatch hx
  | k + 1, hk, x, hx => by
    rw [tiersM] at hx
    rcases List.mem_append.1 hx with hx | hx
    · exact tiers_ok h hi (k := k) (by omega) x hx
    · split at hx
      · obtain rfl := List.mem_singleton.1 hx
        exact up_ok h hi (by omega)
      · cases hx
section
variable (steps values : List Int) (mask : Int)
theorem row_ok (hv : ∀ v ∈ values, i64R v) : ∀ {i : Nat}, i ≤ 4 → ∀ x ∈ (rowM steps values mask i).l, x.ok
  | 0, _, x, hx => nomatch hx
  | i + 1, hi, x, hx => by
    have hx : x ∈ (rowM steps values mask i).l ++ tiersM mask (baseM steps values mask i) i 4 := hx
    have hto := rowM_to steps values mask (i := i) (by omega)
    rcases List.mem_append.1 hx with hx | hx
    · exact row_ok hv (by omega) x hx
    · exact tiers_ok (make_ok hto.1 (Int.le_trans hto.2 (by omega)) hv) (by omega) (by decide) x hx
theorem tiers_ne {i : Nat} (hi : i < 4) : 0 < (tiersM mask (baseM steps values mask i) i 4).length := by
  obtain ⟨hm, h0, _, hs, _⟩ := base_facts steps values mask hi
  obtain ⟨k, hk, hb⟩ := bit_some mask i
  exact List.length_pos_of_mem (tiers_has (mask := mask) hm h0 hs (by omega) (by decide) hk hb)
theorem row_ne {i : Nat} (hi : i ≤ 4) (h1 : 1 ≤ i) : 0 < (rowM steps values mask i).l.length := by
  obtain ⟨a, rfl⟩ : ∃ a, i = a + 1 := ⟨i - 1, by omega⟩
  have hn := tiers_ne steps values mask (i := a) (by omega)
  show 0 < ((rowM steps values mask a).l ++ tiersM mask (baseM steps values mask a) a 4).length
  rw [List.length_append]; omega
end
section
variable {steps values : List Int} {mask : Int} {ys : List Seg} {i : Nat}
theorem row_lenY (hi : i ≤ 4) (h1 : 1 ≤ i) (hys : ys.map Seg.d = (rowM steps values mask i).l) : 0 < ys.length ∧ ys.length ≤ 16 := by
  have hl : ys.length = (rowM steps values mask i).l.length := by rw [← hys, List.length_map]
  have h2 := row_ne steps values mask hi h1
  have h3 := rowM_l steps values mask i
  omega
theorem row_okY (hi : i ≤ 4) (hys : ys.map Seg.d = (rowM steps values mask i).l) (hv : ∀ v ∈ values, i64R v) : ∀ s ∈ ys, s.d.ok := fun s h =>
  row_ok steps values mask hv hi s.d (hys ▸ List.mem_map_of_mem h)
theorem row_bestY (hi : i ≤ 4) (hys : ys.map Seg.d = (rowM steps values mask i).l) : (bestP (infosOf (ds ys))).length ≤ 12 := by
  have := row_best steps values mask hi
  rw [← hys] at this; exact this
theorem range_rowY {fr to : Int} (hi : i ≤ 4) (hys : ys.map Seg.d = (rowM steps values mask i).l) (h0 : 0 ≤ fr) (h1 : fr < to) (h2 : to ≤ 1099511627776) : rangeW (ds ys) [] fr to = ((finL steps values mask i).flatMap (fun s => segW s fr to), 0) := by
  rw [← range_row steps values mask hi h0 h1 h2, ← hys]
end
end Go.Proofs.Ytldfnkhccaglmaa
end
section
namespace Go.Proofs.Ytldfnkhccaglmaa
theorem filter_sub {α : Type} {p q : α → Bool} (h : ∀ x, p x = true → q x = true) : ∀ l : List α, (l.filter p).Sublist (l.filter q)
  | [] => .slnil
  | x :: t => by
    have ih := filter_sub h t
    rw [List.filter_cons, List.filter_cons]
    by_cases hp : p x = true
    · rw [if_pos hp, if_pos (h x hp)]; exact .cons_cons _ ih
    · rw [if_neg hp]; split
      · exact .cons _ ih
      · exact ih
theorem segW_sub {s : SegD} {f t f' t' : Int} (h1 : f' ≤ f) (h2 : t ≤ t') : (segW s f t).Sublist (segW s f' t') := by
  unfold segW rawW aggW
  refine List.Sublist.append (List.Sublist.map _ (filter_sub (fun x hx => ?_) _)) (filter_sub (fun x hx => ?_) _)
  · unfold inT at hx ⊢; rw [decide_eq_true_eq] at hx ⊢; omega
  · unfold keepW at hx ⊢; rw [decide_eq_true_eq] at hx ⊢; omega
theorem flat_sub {f g : SegD → List Win} (h : ∀ s, (f s).Sublist (g s)) : ∀ l : List SegD, (l.flatMap f).Sublist (l.flatMap g)
  | [] => .slnil
  | x :: t => by rw [List.flatMap_cons, List.flatMap_cons]; exact List.Sublist.append (h x) (flat_sub h t)
theorem range_wideY {steps values : List Int} {mask : Int} {ys : List Seg} {i : Nat} {R : RowD} {fr to : Int} (hi : i ≤ 4) (hR : R = rowM steps values mask i) (hys : ys.map Seg.d = R.l) (h0 : 0 ≤ fr) (h1 : fr < to) (h2 : to ≤ 1099511627776) :
    ∃ A, (rangeW (ds ys) [] fr to).1 = A ∧ (rangeW (ds ys) [] fr to).2 = 0 ∧ A = (finL steps values mask i).flatMap (fun s => segW s fr to) := by
  subst hR; exact ⟨_, rfl, congrArg Prod.snd (range_rowY hi hys h0 h1 h2), congrArg Prod.fst (range_rowY hi hys h0 h1 h2)⟩
section
variable {A B : List Win} {k i : Nat}
end
end Go.Proofs.Ytldfnkhccaglmaa
end
section
namespace Go.Proofs.Ytldfnkhccaglmaa
section
variable (steps values : List Int)
theorem row_allok (m : Int) (hv : ∀ v ∈ values, i64R v) : ∀ {i : Nat}, i ≤ 4 → ∀ s ∈ (rowM steps values m i).all, s.ok
  | 0, _, x, hx => nomatch hx
  | i + 1, hi, x, hx => by
    have hx : x ∈ (rowM steps values m i).all ++ (mk0 steps values i (rowM steps values m i).to).Samples := hx
    have hto := rowM_to steps values m (i := i) (by omega)
    rcases List.mem_append.1 hx with hx | hx
    · exact row_allok m hv (by omega) x hx
    · exact (make_ok (nid := 10 * (i : Int)) (steps := fiveOf steps i) hto.1 (Int.le_trans hto.2 (by omega)) hv).2.2.2.2.1 x hx
end
end Go.Proofs.Ytldfnkhccaglmaa
end
section
namespace Go.Proofs.Ytldfnkhccaglmaa
def CutA : List Agg → List Sample → Prop
  | [], S => S = []
  | a :: ws, S => ∃ g fr T, S = g ++ T ∧ g ≠ [] ∧ 0 ≤ fr ∧ fr ≤ 1099511627776 ∧ a = aggL fr g ∧ CutA ws T
theorem cut_append : ∀ {a b : List Agg} {S T : List Sample}, CutA a S → CutA b T → CutA (a ++ b) (S ++ T)
  | [], _, S, _, h, hb => by obtain rfl : S = [] := h; exact hb
  | x :: a, b, S, T, ⟨g, fr, U, e, hg, f0, f1, ea, h⟩, hb => by
    subst e; exact ⟨g, fr, U ++ T, List.append_assoc .., hg, f0, f1, ea, cut_append h hb⟩
theorem cut_raw : ∀ {l : List Sample}, (∀ s ∈ l, 0 ≤ s.T ∧ s.T ≤ 1099511627776) → CutA (l.map fun s => oneA s.V s.T) l
  | [], _ => rfl
  | s :: l, h => ⟨[s], s.T, l, rfl, by simp, (h s (List.mem_cons_self ..)).1, (h s (List.mem_cons_self ..)).2, rfl, cut_raw fun x hx => h x (List.mem_cons_of_mem _ hx)⟩
theorem cut_wins {k : Int} (h0 : 0 < k) (h4 : k < 4) : ∀ (f : Nat) (l : List Sample), l.length ≤ f → (∀ s ∈ l, 0 ≤ s.T ∧ s.T ≤ 1099511627776) → CutA (wins k f l) l
  | 0, l, hf, _ => by obtain rfl := List.length_eq_zero_iff.1 (by omega : l.length = 0); rfl
  | f + 1, [], _, _ => rfl
  | f + 1, s :: l, hf, h => by
    have hs := h s (List.mem_cons_self ..)
    have hfl := floor_nn h0 h4 hs.1 hs.2
    have hp : 0 < winLen k (floorA s.T k) (s :: l) := by simp [winLen]
    simp only [List.length_cons] at hf
    refine ⟨(s :: l).take (winLen k (floorA s.T k) (s :: l)), floorA s.T k, (s :: l).drop (winLen k (floorA s.T k) (s :: l)), (List.take_append_drop ..).symm, ?_, hfl.1, by omega, rfl, cut_wins h0 h4 f _ ?_ fun x hx => h x (List.mem_of_mem_drop hx)⟩
    · intro e
      have := congrArg List.length e
      rw [List.length_take, List.length_cons, List.length_nil] at this
      omega
    · rw [List.length_drop, List.length_cons]; omega
theorem tot_cut : ∀ (ws : List Win) (P T : List Sample) (f : Int), P ≠ [] → 0 ≤ f → f ≤ 1099511627776 → CutA (ws.map Win.Agg) T → (∀ s ∈ P ++ T, smallS s) → (P ++ T).length ≤ 1000000 → totG (aggL f P) ws = (aggL f (P ++ T), 0)
  | [], P, T, f, _, _, _, h, _, _ => by obtain rfl : T = [] := h; rw [List.append_nil]; rfl
  | w :: ws, P, T, f, hP, f0, f1, ⟨g, fr, U, e, hg, g0, g1, ea, h⟩, hs, hn => by
    subst e
    have hPl : 0 < P.length := List.length_pos_iff.2 hP
    have hgl : 0 < g.length := List.length_pos_iff.2 hg
    simp only [List.length_append] at hn
    have sP : ∀ s ∈ P, smallS s := fun s h => hs s (List.mem_append_left _ h)
    have sg : ∀ s ∈ g, smallS s := fun s h => hs s (List.mem_append_right _ (List.mem_append_left _ h))
    have m1 := (all_fine f0 f1 hPl (by omega) sP).2
    have m2 := (all_fine g0 g1 hgl (by omega) sg).2
    have c1 := sumS_bound P sP; have c2 := sumS_bound g sg
    have hj : joinA (aggL f P) (aggL fr g) = (aggL f (P ++ g), 0) := by
      rw [aggL_append f fr hP hg]
      rcases joinA_may m1 m2 (by rw [aggL_count, aggL_count]; omega) with ⟨h, _⟩ | ⟨_, h⟩
      · exact h
      · exfalso; apply h; rw [aggL_sum, aggL_sum]; simp only [i64R]; omega
    have ew : w.Agg = aggL fr g := ea
    rw [totG, ew, hj, if_pos rfl]
    have := tot_cut ws (P ++ g) U f (by simp [hP]) f0 f1 h (by rw [List.append_assoc]; exact hs) (by simp only [List.length_append]; omega)
    rw [this, List.append_assoc]
theorem accL_from (f : Int) : ∀ (l : List Sample) (a : Agg), accL { a with From := f } l = { accL a l with From := f }
  | [], _ => rfl
  | s :: l, a => accL_from f l (stepA a s)
theorem aggL_re (f g : Int) {l : List Sample} (h : l ≠ []) : aggL f l = { aggL g l with From := f } := by
  cases l with
  | nil => exact absurd rfl h
  | cons s l => exact accL_from f l (oneA s.V g)
theorem tot_all {A : List Win} {S : List Sample} (h : CutA (A.map Win.Agg) S) (hS : S ≠ []) (hs : ∀ s ∈ S, smallS s) (hn : S.length ≤ 1000000) :
    ∃ h0 : 0 < A.length, (totW A).2 = 0 ∧ (allA S 0).2 = 0 ∧ (totW A).1 = ⟨(A[0]'h0).Agg.From, (allA S 0).1.Count, (allA S 0).1.Sum, (allA S 0).1.Min, (allA S 0).1.Max, (allA S 0).1.First, (allA S 0).1.Last⟩ := by
  cases A with
  | nil => exact absurd h hS
  | cons w ws =>
    obtain ⟨g, fr, U, rfl, hg, g0, g1, ea, h⟩ := h
    have hl : 0 < (g ++ U).length := List.length_pos_iff.2 hS
    have ht := tot_cut ws g U fr hg g0 g1 h hs hn
    have ha := (all_fine (fr := 0) (by decide) (by decide) hl hn hs).1
    have ew : w.Agg = aggL fr g := ea
    have e : totW (w :: ws) = (aggL fr (g ++ U), 0) := by rw [← ht, ← ew]; rfl
    refine ⟨by simp, by rw [e], by rw [ha], ?_⟩
    rw [e, ha, aggL_re fr 0 hS]
    have : w.Agg.From = fr := by rw [ew, aggL_from fr (List.length_pos_iff.2 hg)]
    show _ = (⟨w.Agg.From, _, _, _, _, _, _⟩ : Agg)
    rw [this]
/-! ### A segment -/
theorem aligns_gap {k : Int} (h0 : 0 < k) (h4 : k < 4) : ∀ {l : List Agg} {last : Int}, alignsFrom k last l = true → l.Pairwise fun a b => a.From + widthA k ≤ b.From
  | [], _, _ => List.Pairwise.nil
  | b :: l, last, h => by
    unfold alignsFrom at h
    rw [Bool.and_eq_true, Bool.and_eq_true] at h
    refine List.pairwise_cons.2 ⟨fun a ha => ?_, aligns_gap h0 h4 h.2⟩
    have h1 := aligns_low h.2 a ha
    have hb := (of_decide_eq_true h.1.2).1
    have hma := mayA_true h.1.1
    have hc : alignedA l k = true ∨ True := Or.inr trivial
    obtain ⟨e, m⟩ : a.From = floorA a.From k ∧ mayP a := aligns_at2 h.2 a ha
    simp only [mayP] at hma m
    have : k = 1 ∨ k = 2 ∨ k = 3 := by omega
    rcases this with rfl | rfl | rfl
    · rw [floor_eq (w := 5) (by rfl) (by decide) (by omega) (by omega)] at hb e
      have : widthA 1 = 5 := rfl
      omega
    · rw [floor_eq (w := 60) (by rfl) (by decide) (by omega) (by omega)] at hb e
      have : widthA 2 = 60 := rfl
      omega
    · rw [floor_eq (w := 1440) (by rfl) (by decide) (by omega) (by omega)] at hb e
      have : widthA 3 = 1440 := rfl
      omega
where
  aligns_at2 {k : Int} : ∀ {l : List Agg} {last : Int}, alignsFrom k last l = true → ∀ a ∈ l, a.From = floorA a.From k ∧ mayP a
  | [], _, _, a, h => nomatch h
  | b :: l, last, h, a, ha => by
    unfold alignsFrom at h
    rw [Bool.and_eq_true, Bool.and_eq_true] at h
    rcases List.mem_cons.1 ha with rfl | ha
    · exact ⟨(of_decide_eq_true h.1.2).1, mayA_true h.1.1⟩
    · exact aligns_at2 h.2 a ha
abbrev allW (s : SegD) : List Win := segW s 0 1099511627776
theorem filter_all {α : Type} {p : α → Bool} {l : List α} (h : ∀ x ∈ l, p x = true) : l.filter p = l := List.filter_eq_self.2 h
theorem raw_bounds {s : SegD} (h : mayS s = true) (h0 : s.Tier = 0) : s.Aggs = [] ∧ s.Samples.Pairwise (fun a b : Sample => a.T < b.T) ∧ (∀ x ∈ s.Samples, s.From ≤ x.T ∧ x.T < s.To) ∧ 0 ≤ s.From ∧ s.To ≤ 1099511627776 := by
  obtain ⟨g1, g2⟩ := may_iff.1 h
  have g1 := headS_iff.1 g1
  rcases g2 with ⟨_, g2⟩ | ⟨g2, _⟩
  · obtain ⟨a0, a1, a2, a3, a4, a5⟩ := mayRaw_iff.1 g2
    have hasc := (asc_of _ (-1) (by decide) a3).1
    refine ⟨a0, hasc.1, fun x hx => ?_, by omega, by omega⟩
    obtain ⟨j, hj, rfl⟩ := List.mem_iff_getElem.1 hx
    have hp := List.pairwise_iff_getElem.1 hasc.1
    rw [gd_eq (by omega)] at a4 a5
    constructor
    · by_cases e : j = 0
      · subst e; exact a4
      · have := hp 0 j (by omega) hj (by omega); omega
    · by_cases e : j = s.Samples.length - 1
      · subst e; exact a5
      · have := hp j (s.Samples.length - 1) hj (by omega) (by omega); omega
  · exact absurd h0 g2
theorem allW_raw {s : SegD} (h : mayS s = true) (h0 : s.Tier = 0) : allW s = s.Samples.map sampW := by
  obtain ⟨e, _, hb, f0, t1⟩ := raw_bounds h h0
  unfold allW segW rawW aggW
  rw [e, filter_all (fun x hx => by have := hb x hx; exact decide_eq_true (by omega))]
  simp
theorem allW_up {s : SegD} (h : mayS s = true) (h0 : ¬ s.Tier = 0) : allW s = s.Aggs.map (winOf s) := by
  have he : s.Samples = [] := by
    rcases (may_iff.1 h).2 with ⟨g, _⟩ | ⟨_, g⟩
    · exact absurd g h0
    · exact (mayUp_iff.1 g).1
  have hk : ∀ w ∈ s.Aggs.map (winOf s), keepW 0 1099511627776 w = true := fun w hw => by
    obtain ⟨a, ha, rfl⟩ := List.mem_map.1 hw
    have := seg_agg h ha
    refine decide_eq_true ?_
    simp only [winOf]; omega
  unfold allW segW rawW aggW
  rw [he, filter_all hk]; rfl
theorem allW_in {s : SegD} (h : mayS s = true) : ∀ w ∈ allW s, s.From ≤ w.Lo ∧ w.Hi ≤ s.To := fun w hw => by
  by_cases h0 : s.Tier = 0
  · rw [allW_raw h h0] at hw
    obtain ⟨x, hx, rfl⟩ := List.mem_map.1 hw
    have := (raw_bounds h h0).2.2.1 x hx
    simp only [sampW]; omega
  · rw [allW_up h h0] at hw
    obtain ⟨a, ha, rfl⟩ := List.mem_map.1 hw
    simp only [winOf]; omega
theorem allW_apart {s : SegD} (h : mayS s = true) : (allW s).Pairwise fun a b => a.Hi ≤ b.Lo := by
  by_cases h0 : s.Tier = 0
  · rw [allW_raw h h0]
    refine List.pairwise_map.2 ((raw_bounds h h0).2.1.imp fun {a b} hab => ?_)
    simp only [sampW]; omega
  · rw [allW_up h h0]
    rcases (may_iff.1 h).2 with ⟨g, _⟩ | ⟨_, g⟩
    · exact absurd g h0
    · have hh := headS_iff.1 (may_iff.1 h).1
      have g3 := (mayUp_iff.1 g).2.2.2.1
      have hal : alignsFrom s.Tier (-1) s.Aggs = true := by unfold alignedA at g3; rw [Bool.and_eq_true] at g3; exact g3.2
      refine List.pairwise_map.2 ((aligns_gap (by omega) (by omega) hal).imp fun {a b} hab => ?_)
      simp only [winOf]; omega
theorem allW_cut {s : SegD} {i j : Nat} (h : mayS s = true) (ht : s.Tier = 0) (hs : ∀ x ∈ s.Samples, smallS x) (hi : i < 1000) (hj : j < 4) : CutA ((allW (atT s i j)).map Win.Agg) s.Samples := by
  have hm := atT_may h ht hs hi hj
  obtain ⟨_, _, hb, f0, t1⟩ := raw_bounds h ht
  have hb2 : ∀ x ∈ s.Samples, 0 ≤ x.T ∧ x.T ≤ 1099511627776 := fun x hx => by have := hb x hx; omega
  by_cases e : j = 0
  · have e2 : atT s i j = s := by unfold atT; rw [if_pos e]
    rw [e2, allW_raw h ht, List.map_map]
    exact cut_raw hb2
  · have hr : risingA s.Samples = true ∧ s.Samples.length ≤ 64 := by
      rcases (may_iff.1 h).2 with ⟨_, g⟩ | ⟨g, _⟩
      · exact ⟨(mayRaw_iff.1 g).2.2.2.1, (mayRaw_iff.1 g).2.2.1⟩
      · exact absurd ht g
    have ht2 : ¬ (atT s i j).Tier = 0 := by unfold atT; rw [if_neg e]; show ¬ (j : Int) = 0; omega
    have ha : (atT s i j).Aggs = wins (j : Int) s.Samples.length s.Samples := by
      unfold atT; rw [if_neg e]; exact raw_wins (by omega) (by omega) hr.1 (by omega) hs
    rw [allW_up hm ht2, List.map_map, show (Win.Agg ∘ winOf (atT s i j)) = id from rfl, List.map_id, ha]
    exact cut_wins (by omega) (by omega) _ _ (Nat.le_refl _) hb2
/-! ### A row -/
theorem first_has {mask : Int} {i j : Nat} (hb : bitM mask i j = true) : ∀ {k : Nat}, j < k → ∃ q, firstM mask i k = some q
  | k + 1, h => by
    rw [firstM]
    cases e : firstM mask i k with
    | some q => exact ⟨q, rfl⟩
    | none =>
      by_cases c : j < k
      · obtain ⟨q, hq⟩ := first_has hb c
        rw [hq] at e; cases e
      · obtain rfl : j = k := by omega
        exact ⟨j, if_pos hb⟩
section
variable (steps values : List Int) (mask : Int)
theorem row_cut : ∀ {i : Nat}, i ≤ 4 → CutA (((finL steps values mask i).flatMap allW).map Win.Agg) (rowM steps values mask i).all
  | 0, _ => rfl
  | i + 1, hi => by
    have ih := row_cut (i := i) (by omega)
    obtain ⟨hm, h0, _, hs, _⟩ := base_facts steps values mask (i := i) (by omega)
    obtain ⟨k, hk, hb⟩ := bit_some mask i
    obtain ⟨q, hq⟩ := first_has hb hk
    have hf : firstL (baseM steps values mask i) mask i 4 = [atT (baseM steps values mask i) i q] := by unfold firstL; rw [hq]
    rw [finL, hf, List.flatMap_append, List.map_append]
    refine cut_append ih ?_
    simp only [List.flatMap_cons, List.flatMap_nil, List.append_nil]
    exact allW_cut hm h0 hs (by omega) (firstM_lt hq).1
theorem row_apart {i : Nat} (hi : i ≤ 4) : ((finL steps values mask i).flatMap allW).Pairwise fun a b => a.Hi ≤ b.Lo := by
  have hm : ∀ s ∈ finL steps values mask i, mayS s = true := fun s hs => row_may steps values mask hi s (fin_mem steps values mask hi s hs)
  rw [List.pairwise_flatMap]
  refine ⟨fun s hs => allW_apart (hm s hs), (fin_chain steps values mask hi).imp_of_mem fun {a b} ha hb hab x hx y hy => ?_⟩
  have h1 := allW_in (hm a ha) x hx
  have h2 := allW_in (hm b hb) y hy
  omega
theorem row_small : ∀ {i : Nat}, i ≤ 4 → ∀ s ∈ (rowM steps values mask i).all, smallS s
  | 0, _, x, hx => nomatch hx
  | i + 1, hi, x, hx => by
    have hx : x ∈ (rowM steps values mask i).all ++ (baseM steps values mask i).Samples := hx
    obtain ⟨_, _, _, hs, _⟩ := base_facts steps values mask (i := i) (by omega)
    rcases List.mem_append.1 hx with hx | hx
    · exact row_small (by omega) x hx
    · exact hs x hx
theorem row_allne {i : Nat} (hi : i ≤ 4) (h1 : 1 ≤ i) : 0 < (rowM steps values mask i).all.length := by
  obtain ⟨a, rfl⟩ : ∃ a, i = a + 1 := ⟨i - 1, by omega⟩
  show 0 < ((rowM steps values mask a).all ++ (mk0 steps values a (rowM steps values mask a).to).Samples).length
  have := (make_len (s := mk0 steps values a (rowM steps values mask a).to) (steps := steps) (i := a) rfl).1
  rw [List.length_append]; omega
end
theorem rows_all {steps values : List Int} {mask : Int} {i : Nat} {R : RowD} {A : List Win} (hi : i ≤ 4) (h1 : 1 ≤ i) (hR : R = rowM steps values mask i) (hA : A = (finL steps values mask i).flatMap (fun s => segW s 0 1099511627776)) :
    (∃ h0 : 0 < A.length, (totW A).2 = 0 ∧ (allA R.all 0).2 = 0 ∧ (totW A).1 = ⟨(A[0]'h0).Agg.From, (allA R.all 0).1.Count, (allA R.all 0).1.Sum, (allA R.all 0).1.Min, (allA R.all 0).1.Max, (allA R.all 0).1.First, (allA R.all 0).1.Last⟩) ∧
    ∀ (j : Nat) (h : j < A.length) (g : j - 1 < A.length), 0 < j → ¬ (A[j]'h).Lo < (A[j - 1]'g).Hi := by
  subst hR; subst hA
  have hn := rowM_all steps values mask hi
  have hp := row_allne steps values mask hi h1
  refine ⟨tot_all (row_cut steps values mask hi) (List.length_pos_iff.1 hp) (row_small steps values mask hi) (by omega), fun j h g hj => ?_⟩
  have := List.pairwise_iff_getElem.1 (row_apart steps values mask hi) (j - 1) j g h (by omega)
  exact fun c => Int.lt_irrefl _ (Int.lt_of_lt_of_le c this)
theorem win_oks {F : List SegD} {f t : Int} (hF : ∀ s ∈ F, s.ok) : ∀ w ∈ F.flatMap (fun s => segW s f t), w.Agg.ok := fun w hw => by
  obtain ⟨s, hs, hw⟩ := List.mem_flatMap.1 hw
  have ho := hF s hs
  rcases List.mem_append.1 hw with hw | hw
  · obtain ⟨x, hx, rfl⟩ := List.mem_map.1 hw
    have := ho.2.2.2.2.1 x (List.mem_filter.1 hx).1
    exact oneA_ok this.2 this.1
  · obtain ⟨a, ha, rfl⟩ := List.mem_map.1 (List.mem_filter.1 hw).1
    exact ho.2.2.2.2.2 a ha
theorem fin_ok {steps values : List Int} {mask : Int} {i : Nat} (hv : ∀ v ∈ values, i64R v) (hi : i ≤ 4) : ∀ s ∈ finL steps values mask i, s.ok := fun s hs => row_ok steps values mask hv hi s (fin_mem steps values mask hi s hs)
end Go.Proofs.Ytldfnkhccaglmaa
end
section
namespace Go.Proofs.Ytldfnkhccaglmaa
open Go.RowKit
section
variable {κ : Type}
def entM (enc : κ → Value) (M : List (κ × Nat)) : List MapEntry := M.map fun p => (⟨enc p.1, .bool true, p.2⟩ : MapEntry)
abbrev mapO (enc : κ → Value) (M : List (κ × Nat)) (cl : Nat) : Obj := .map (entM enc M).toArray cl
abbrev mapT (enc : κ → Value) (g : Nat) (M : List (κ × Nat)) (cl : Nat) : Item := .obj g (mapO enc M cl)
variable [DecidableEq κ]
def hasM (M : List (κ × Nat)) (x : κ) : Bool := M.any fun p => decide (p.1 = x)
def findM (x : κ) : List (κ × Nat) → Nat → Option (Nat × Value)
  | [], _ => none
  | p :: M, i => if p.1 = x then some (i, .bool true) else findM x M (i + 1)
theorem findM_some {x : κ} : ∀ {M : List (κ × Nat)} {i j : Nat} {v : Value}, findM x M i = some (j, v) → v = .bool true ∧ hasM M x = true ∧ i ≤ j ∧ ∃ p, M[j - i]? = some p ∧ p.1 = x
  | [], _, _, _, h => by simp [findM] at h
  | p :: M, i, j, v, h => by
    rw [findM] at h
    by_cases e : p.1 = x
    · rw [if_pos e] at h
      injection h with h; injection h with h1 h2
      subst h1; subst h2
      exact ⟨rfl, by simp [hasM, e], Nat.le_refl _, p, by simp, e⟩
    · rw [if_neg e] at h
      obtain ⟨h1, h2, h3, q, h4, h5⟩ := findM_some h
      refine ⟨h1, ?_, by omega, q, ?_, h5⟩
      · unfold hasM at h2 ⊢; rw [List.any_cons, h2, Bool.or_true]
      · rw [show j - i = (j - (i + 1)) + 1 by omega, List.getElem?_cons_succ]; exact h4
theorem findM_none {x : κ} : ∀ {M : List (κ × Nat)} {i : Nat}, findM x M i = none → hasM M x = false
  | [], _, _ => rfl
  | p :: M, i, h => by
    rw [findM] at h
    by_cases e : p.1 = x
    · rw [if_pos e] at h; cases h
    · rw [if_neg e] at h
      have := findM_none h
      unfold hasM at this ⊢; rw [List.any_cons, decide_eq_false e, this]; rfl
structure KeyOk (P : Program) (k : TypeId) (enc : κ → Value) : Prop where
  check : ∀ (em : Bool) (x : κ) (w : World), (Instr.checkKey em 10000 k (enc x)).run P w = .ok () w
  find : ∀ (x : κ) (M : List (κ × Nat)) (w : World), (Instr.findKey k (enc x) (entM enc M)).run P w = .ok (findM x M 0) w
  stay : ∀ (x : κ) (w : World), (Instr.keyThatStays (enc x) (enc x)).run P w = .ok (enc x) w
end
theorem getM {P : Program} {w : World} {r : Nat} {es : Array MapEntry} {cl : Nat} (hb : w.heap[r]? = some (.map es cl)) : (getObj r).run P w = .ok (.map es cl) w := by simp [getObj, Sem.run, hb]
theorem setM {P : Program} {w : World} {r : Nat} {es : Array MapEntry} {cl : Nat} (o : Obj) (hb : w.heap[r]? = some (.map es cl)) : (setObj r o).run P w = .ok () { w with heap := w.heap.setIfInBounds r o } := by simp [setObj, Sem.run, hb]
/-! ### The operations -/
section
variable {P : Program} {ρ : Env} {w w0 : World} {L : List Item} {K : Value → World → Prop}
variable {dst : Option Tmp} {ty : TypeId} {pos : String} {aft : Array Edge} {g : Option (Nat × Bool)}
theorem op_makeMap {κ : Type} {T : TypeId} (enc : κ → Value) (hst : St w0 w L) (h : ∀ g w', St w0 w' (mapT enc g [] 0 :: L) → K (.map (some g)) w') : opE P ⟨dst, .makeMap T none, ty, pos, aft, g⟩ ρ w K := by
  refine op_of (v := .map (some w.heap.size)) (w' := w.alloc (.map #[] 0)) (by simp [execOp, Instr.makeMap, newObj, Sem.run]) (h _ _ ?_)
  refine St.call (L' := [mapT enc w.heap.size [] 0]) hst ⟨(Below.refl _ _).alloc (Nat.le_refl _) _, fun i hi => ?_, List.pairwise_singleton _ _⟩
  rw [List.mem_singleton] at hi
  subst hi
  exact ⟨Nat.le_refl _, heap_alloc_new w _⟩
variable {κ : Type} [DecidableEq κ] {enc : κ → Value}
theorem op_lookupM {T k e : TypeId} {m x : Operand} {b : Nat} {M : List (κ × Nat)} {cl : Nat} {y : κ} (hK : KeyOk P k enc) (hT : P.underlying T = some (.map k e)) (hz : ∀ w, (zeroValue e).run P w = .ok (.bool false) w)
    (hb : w.heap[b]? = some (mapO enc M cl)) (hm : evE ρ m = .map (some b)) (hx : evE ρ x = enc y) (h : K (.bool (hasM M y)) w) : opE P ⟨dst, .lookup T m x false, ty, pos, aft, g⟩ ρ w K := by
  refine op_of (v := .bool (hasM M y)) (w' := w) ?_ h
  simp only [execOp, hm, hx, Instr.lookup, Sem.run_bind, run_underlying hT, Result.andThen_ok, getM hb, Sem.run_pure, hK.check, hK.find]
  cases hf : findM y M 0 with
  | none => simp [findM_none hf, hz]
  | some r =>
    obtain ⟨j, v⟩ := r
    obtain ⟨h1, h2, _⟩ := findM_some hf
    subst h1
    simp [h2]
theorem op_mapSet {T k e : TypeId} {m x v : Operand} {b : Nat} {M : List (κ × Nat)} {cl : Nat} {y : κ} (hK : KeyOk P k enc) (hT : P.underlying T = some (.map k e)) (hst : St w0 w L) (j : Nat) (hj : L[j]? = some (mapT enc b M cl))
    (hm : evE ρ m = .map (some b)) (hx : evE ρ x = enc y) (hv : evE ρ v = .bool true)
    (h : ∀ M' cl' w', St w0 w' (L.set j (mapT enc b M' cl')) → (∀ z, hasM M' z = (hasM M z || decide (y = z))) → K undef w') : opE P ⟨dst, .mapUpdate T m x v, ty, pos, aft, g⟩ ρ w K := by
  have hb : w.heap[b]? = some (mapO enc M cl) := (hst.at j hj).2
  have hlt : b < w.heap.size := (Array.getElem?_eq_some_iff.1 hb).1
  have turn : ∀ M' cl', St w0 { w with heap := w.heap.setIfInBounds b (mapO enc M' cl') } (L.set j (mapT enc b M' cl')) := fun M' cl' => by
    refine hst.turn j hj _ ⟨rfl, rfl, rfl, by simp, fun k hk hne => ?_⟩ ⟨(hst.at j hj).1, by simp [hlt]⟩ (Or.inl rfl)
    have : b ≠ k := fun e => hne (by subst e; rfl)
    simp [this]
  cases hf : findM y M 0 with
  | none =>
    have hno := findM_none hf
    refine op_skip_of (w' := { w with heap := w.heap.setIfInBounds b (mapO enc (M ++ [(y, cl)]) (cl + 1)) }) ?_ (h (M ++ [(y, cl)]) (cl + 1) _ (turn _ _) (fun z => by unfold hasM; simp [List.any_append]))
    simp only [execOp, hm, hx, hv, Instr.mapUpdate, Sem.run_bind, run_underlying hT, Result.andThen_ok, getM hb, Sem.run_pure, hK.check, hK.find, hf]
    rw [setM _ hb]
    simp [entM, mapO]
  | some r =>
    obtain ⟨i, v'⟩ := r
    obtain ⟨h1, h2, _, p, h3, h4⟩ := findM_some hf
    subst h1
    rw [Nat.sub_zero] at h3
    have he : (entM enc M)[i]? = some ⟨enc p.1, .bool true, p.2⟩ := by unfold entM; rw [List.getElem?_map, h3]; rfl
    refine op_skip_of (w' := { w with heap := w.heap.setIfInBounds b (mapO enc M cl) }) ?_ (h M cl _ (turn _ _) (fun z => by
      by_cases e : y = z
      · subst e; rw [h2]; rfl
      · rw [decide_eq_false e, Bool.or_false]))
    simp only [execOp, hm, hx, hv, Instr.mapUpdate, Sem.run_bind, run_underlying hT, Result.andThen_ok, getM hb, Sem.run_pure, hK.check, hK.find, hf]
    have hk : (((entM enc M).toArray[i]?).map (fun x => x.key)).getD (enc y) = enc y := by
      rw [List.getElem?_toArray, he]; simp [h4]
    rw [hk, hK.stay]
    simp only [Result.andThen_ok, Sem.run_bind, Sem.run_pure]
    have hmod : (entM enc M).toArray.modify i (fun e => { e with key := enc y, val := .bool true }) = (entM enc M).toArray := by
      apply Array.ext_getElem?
      intro t
      rw [Array.getElem?_modify]
      by_cases e : i = t
      · subst e
        rw [if_pos rfl, List.getElem?_toArray, he, ← h4]; rfl
      · rw [if_neg e]
    rw [hmod, setM _ hb]
    rfl
end
/-! ### Keys that are numbers, or samples -/
abbrev encI (x : Int) : Value := .int .i64 x
abbrev encS (s : Sample) : Value := .agg #[.int .i64 s.T, .int .i64 s.V]
theorem keysI {P : Program} {k : TypeId} (hk : P.underlying k = some (.int .i64)) : KeyOk P k encI := {
  check := fun em x w => by
    have : ∀ n, (Instr.checkKey em (n + 1) k (encI x)).run P w = .ok () w := fun n => by unfold Instr.checkKey; simp [run_underlying hk]
    exact this 9999
  find := fun x M w => by
    have : ∀ (M : List (Int × Nat)) (i : Nat), Instr.findNow (.int .i64) (encI x) (entM encI M) i = some (findM x M i) := fun M => by
      induction M with
      | nil => intro i; rfl
      | cons p M ih =>
        intro i
        show (match Instr.sameNow (.int .i64) (encI x) (encI p.1) with
          | some true => some (some (i, Value.bool true))
          | some false => Instr.findNow (.int .i64) (encI x) (entM encI M) (i + 1)
          | none => none) = _
        simp only [Instr.sameNow, if_true, findM]
        by_cases e : p.1 = x
        · have e2 : (x == p.1) = true := by simp [e]
          rw [e2, if_pos e]
        · have e2 : (x == p.1) = false := by simp [Ne.symm e]
          rw [e2, if_neg e]; exact ih (i + 1)
    simp [Instr.findKey, run_underlying hk, this]
  stay := fun x w => by simp [Instr.keyThatStays, Instr.sameBits] }
theorem keysS {P : Program} {k : TypeId} {f0 f1 : Field} (hk : P.underlying k = some (.struct #[f0, f1])) (h0 : f0.offset = 0 ∧ P.underlying f0.type = some (.int .i64) ∧ f0.name ≠ "_") (h1 : f1.offset = 1 ∧ P.underlying f1.type = some (.int .i64) ∧ f1.name ≠ "_")
    (he : ∀ (a b : Sample) (w : World), (Op.equalIn 10000 k (encS a) (encS b)).run P w = .ok (decide (a = b)) w) : KeyOk P k encS := {
  check := fun em x w => by
    have a0 : ∀ w, (isAgg f0.type).run P w = .ok false w := fun w => by simp [isAgg, run_underlying h0.2.1]
    have a1 : ∀ w, (isAgg f1.type).run P w = .ok false w := fun w => by simp [isAgg, run_underlying h1.2.1]
    have c0 : ∀ n (a : Int) w, (Instr.checkKey em (n + 1) f0.type (.int .i64 a)).run P w = .ok () w := fun n a w => by unfold Instr.checkKey; simp [run_underlying h0.2.1]
    have c1 : ∀ n (a : Int) w, (Instr.checkKey em (n + 1) f1.type (.int .i64 a)).run P w = .ok () w := fun n a w => by unfold Instr.checkKey; simp [run_underlying h1.2.1]
    have : ∀ n, (Instr.checkKey em (n + 1 + 1) k (encS x)).run P w = .ok () w := fun n => by
      unfold Instr.checkKey
      simp [run_underlying hk, part, a0, a1, h0.1, h1.1, h0.2.2, h1.2.2, c0, c1]
    exact this 9998
  find := fun x M w => by
    refine (run_findKey_eq (P := P) (k := k) (w := w) (by rw [hk]) _ _).trans ?_
    have : ∀ (M : List (Sample × Nat)) (i : Nat), (Instr.findAsking k (encS x) (entM encS M) i).run P w = .ok (findM x M i) w := fun M => by
      induction M with
      | nil => intro i; rfl
      | cons p M ih =>
        intro i
        show (Instr.findAsking k (encS x) (⟨encS p.1, .bool true, p.2⟩ :: entM encS M) i).run P w = _
        have h2 : (Op.equal k (encS x) (encS p.1)).run P w = .ok (decide (x = p.1)) w := he x p.1 w
        simp only [Instr.findAsking, Sem.run_bind, h2, Result.andThen_ok, findM]
        by_cases e : p.1 = x
        · rw [if_pos e, decide_eq_true e.symm]; rfl
        · rw [if_neg e, decide_eq_false (Ne.symm e)]; exact ih (i + 1)
    exact this M 0
  stay := fun x w => by simp [Instr.keyThatStays, Instr.sameBits] }
end Go.Proofs.Ytldfnkhccaglmaa
end
section
namespace Go.Proofs.Ytldfnkhccaglmaa
open Go.RowKit Go.ChangeShapes Go.WideShapes Go.ChangeAt
structure Told where
  S : Sample
  Site : Int
  View : Int
  Safe : Bool
  deriving DecidableEq
structure Grant where
  View : Int
  Site : Int
  deriving DecidableEq
instance : Inhabited Told := ⟨⟨⟨0, 0⟩, 0, 0, false⟩⟩
instance : Inhabited Grant := ⟨⟨0, 0⟩⟩
abbrev Told.ok (x : Told) : Prop := x.S.ok ∧ i64R x.Site ∧ i64R x.View
abbrev Grant.ok (x : Grant) : Prop := i64R x.View ∧ i64R x.Site
def toldE : Enc Told := ⟨5, fun x => [.int .i64 x.S.T, .int .i64 x.S.V, .int .i64 x.Site, .int .i64 x.View, .bool x.Safe], fun _ => rfl, by decide, fun _ u hu => by simp at hu; rcases hu with rfl | rfl | rfl | rfl | rfl <;> rfl⟩
def grantE : Enc Grant := ⟨2, fun x => [.int .i64 x.View, .int .i64 x.Site], fun _ => rfl, by decide, fun _ u hu => by simp at hu; rcases hu with rfl | rfl <;> rfl⟩
section
variable {P : Program}
theorem opens_grant {t : TypeId} {fs : Array Field} (ht : P.underlying t = some (.struct fs)) (hf : IntFields P 0 [.i64, .i64] fs.toList) (hC : P.cellsOf t = 2) : Opens P t grantE Grant.ok := by
  intro H enc w base spare held fuel cs x h
  have := int_cells ht hf hC h
  obtain ⟨n0, c0, rfl, hn0, h0⟩ := this.cons
  obtain ⟨n1, c1, rfl, hn1, h1⟩ := h0.cons
  obtain rfl := h1.nil
  exact ⟨⟨n0, n1⟩, rfl, i64R_of hn0, i64R_of hn1⟩
theorem opens_told {t : TypeId} {f0 f1 f2 f3 : Field} (ht : P.underlying t = some (.struct #[f0, f1, f2, f3])) (hC : P.cellsOf t = 5) (o : f0.offset = 0 ∧ f1.offset = 2 ∧ f2.offset = 3 ∧ f3.offset = 4)
    (c : P.cellsOf f0.type = 2 ∧ P.cellsOf f1.type = 1 ∧ P.cellsOf f2.type = 1 ∧ P.cellsOf f3.type = 1) (h0 : Opens P f0.type sampE Sample.ok) (h1 : P.underlying f1.type = some (.int .i64)) (h2 : P.underlying f2.type = some (.int .i64)) (h3 : P.underlying f3.type = some .bool) : Opens P t toldE Told.ok := by
  intro H enc w base spare held fuel cs x h
  have hl := struct_len ht h
  rw [hC] at hl
  obtain ⟨o0, o1, o2, o3⟩ := o
  obtain ⟨c0, c1, c2, c3⟩ := c
  obtain ⟨n, y, e0⟩ := field_at ht h (k := 0) (f := f0) rfl
  rw [c0, o0] at e0
  obtain ⟨s, es, hs⟩ := h0 H enc w base spare held n _ _ e0
  obtain ⟨n1, e1, w1⟩ := field_int ht h (k := 1) (f := f1) rfl h1 c1 (by omega)
  obtain ⟨n2, e2, w2⟩ := field_int ht h (k := 2) (f := f2) rfl h2 c2 (by omega)
  obtain ⟨m, y', e3⟩ := field_at ht h (k := 3) (f := f3) rfl
  rw [c3, o3] at e3
  obtain ⟨b, eb, _⟩ := DataW.trod_bool h3 e3
  rw [o1] at e1; rw [o2] at e2
  match cs, hl with
  | [a0, a1, a2, a3, a4], _ =>
    simp only [sampE, List.drop_zero, List.take_succ_cons, List.take_zero, List.cons.injEq, and_true] at es
    simp only [List.drop_succ_cons, List.drop_zero, List.take_succ_cons, List.take_zero, List.cons.injEq, and_true] at eb
    simp at e1 e2
    refine ⟨⟨s, n1, n2, b⟩, ?_, hs, i64R_of w1, i64R_of w2⟩
    show _ = [_, _, _, _, _]
    rw [es.1, es.2, e1, e2, eb]
theorem opens_win {t : TypeId} {f0 f1 f2 f3 : Field} (ht : P.underlying t = some (.struct #[f0, f1, f2, f3])) (hC : P.cellsOf t = 10) (o : f0.offset = 0 ∧ f1.offset = 1 ∧ f2.offset = 2 ∧ f3.offset = 3)
    (c : P.cellsOf f0.type = 1 ∧ P.cellsOf f1.type = 1 ∧ P.cellsOf f2.type = 1 ∧ P.cellsOf f3.type = 7) (h0 : P.underlying f0.type = some (.int .i64)) (h1 : P.underlying f1.type = some (.int .i64)) (h2 : P.underlying f2.type = some (.int .i64)) (h3 : Opens P f3.type aggE Agg.ok) : Opens P t winE Win.ok := by
  intro H enc w base spare held fuel cs x h
  have hl := struct_len ht h
  rw [hC] at hl
  obtain ⟨o0, o1, o2, o3⟩ := o
  obtain ⟨c0, c1, c2, c3⟩ := c
  obtain ⟨n0, e0, w0⟩ := field_int ht h (k := 0) (f := f0) rfl h0 c0 (by omega)
  obtain ⟨n1, e1, w1⟩ := field_int ht h (k := 1) (f := f1) rfl h1 c1 (by omega)
  obtain ⟨n2, e2, w2⟩ := field_int ht h (k := 2) (f := f2) rfl h2 c2 (by omega)
  obtain ⟨m, y', e3⟩ := field_at ht h (k := 3) (f := f3) rfl
  rw [c3, o3] at e3
  obtain ⟨a, ea, ha⟩ := h3 H enc w base spare held m _ _ e3
  rw [o0] at e0; rw [o1] at e1; rw [o2] at e2
  match cs, hl with
  | [a0, a1, a2, a3, a4, a5, a6, a7, a8, a9], _ =>
    simp only [aggE, List.drop_succ_cons, List.drop_zero, List.take_succ_cons, List.take_zero, List.cons.injEq, and_true] at ea
    simp at e0 e1 e2
    obtain ⟨k0, k1, k2, k3, k4, k5, k6⟩ := ea
    refine ⟨⟨n0, n1, n2, a⟩, ?_, i64R_of w0, i64R_of w1, i64R_of w2, ha⟩
    show _ = [_, _, _, _, _, _, _, _, _, _]
    rw [e0, e1, e2, k0, k1, k2, k3, k4, k5, k6]
end
/-! ### What the judge says -/
def ok1 (x : Told) : Bool := decide (0 ≤ x.Site ∧ x.Site < 2 ∧ 1 ≤ x.View ∧ 0 ≤ x.S.T ∧ x.S.T ≤ 1099511627776)
def safeAt (l : List Told) (t : Int) : Bool := l.any fun y => y.Safe && decide (y.S.T = t)
def toldTo (l : List Told) : Nat → Bool
  | 0 => true
  | n + 1 => toldTo l n && (ok1 (gd l n) && !((gd l n).Safe && safeAt (l.take n) (gd l n).S.T))
def toldJ (l : List Told) : Bool := toldTo l l.length
def saidB (l : List Told) (s : Sample) : Bool := l.any fun y => decide (y.S = s)
def contentC (told : List Told) (have_ : List Sample) : Int :=
  if risingA have_ = false then 1 else if have_.any (fun s => !saidB told s) = true then 2 else if told.any (fun x => x.Safe && !decide (x.S ∈ have_)) = true then 3 else 0
def mayW (w : Win) : Bool := ((((decide (0 < widthA w.Tier) && mayA w.Agg) && decide (w.Agg.From = floorA w.Agg.From w.Tier)) && decide (w.Agg.From ≤ w.Lo)) && decide (w.Lo < w.Hi)) && decide (w.Hi ≤ w.Agg.From + widthA w.Tier)
def apartTo (l : List Win) : Nat → Bool
  | 0 => true
  | n + 1 => apartTo l n && decide (n = 0 ∨ (gd l (n - 1)).Hi ≤ (gd l n).Lo)
def coverB (wins : List Win) (s : Sample) : Bool := wins.any fun w => inT w.Lo w.Hi s
def rightW (have_ : List Sample) (w : Win) : Bool := decide (allA (have_.filter (inT w.Lo w.Hi)) w.Agg.From = (w.Agg, 0))
def answerC (have_ : List Sample) (wins : List Win) (fr to : Int) : Int :=
  if wins.any (fun w => !mayW w) = true then 1 else if apartTo wins wins.length = false then 2 else if (have_.filter (inT fr to)).any (fun s => !coverB wins s) = true then 3 else if wins.any (fun w => !rightW have_ w) = true then 4 else 0
def badG (last : Int) (g : Grant) : Bool := decide (g.View ≤ last ∨ g.Site < 0 ∨ 2 ≤ g.Site)
def grantsG : Int → List Grant → Nat → Int
  | _, [], _ => 0
  | last, g :: l, i => if badG last g = true then (i : Int) + 1 else grantsG g.View l (i + 1)
def grantsC (l : List Grant) : Int := grantsG 0 l 0
end Go.Proofs.Ytldfnkhccaglmaa
end
section
namespace Go.Proofs.Ytldfnkhccaglmaa
theorem neg_t {b : Bool} (h : b = true) : (!b) = false := by rw [h]; rfl
theorem neg_f {b : Bool} (h : b = false) : (!b) = true := by rw [h]; rfl
theorem take_gd {α : Type} [Inhabited α] {l : List α} {i : Nat} (h : i < l.length) : l.take (i + 1) = l.take i ++ [gd l i] := by
  rw [List.take_succ_eq_append_getElem h, gd_eq h]
section
variable {l : List Told} {M M' : List (Int × Nat)} {i : Nat}
theorem safe_snoc (h : i < l.length) (t : Int) : safeAt (l.take (i + 1)) t = (safeAt (l.take i) t || ((gd l i).Safe && decide ((gd l i).S.T = t))) := by
  unfold safeAt; rw [take_gd h, List.any_append, List.any_cons, List.any_nil, Bool.or_false]
theorem safe_skip (h : i < l.length) (hM : ∀ t, hasM M t = safeAt (l.take i) t) (hs : (gd l i).Safe = false) : ∀ t, hasM M t = safeAt (l.take (i + 1)) t := fun t => by
  rw [safe_snoc h, hs, hM t]; simp
theorem safe_add (h : i < l.length) (hM : ∀ t, hasM M t = safeAt (l.take i) t) (hM' : ∀ z, hasM M' z = (hasM M z || decide ((gd l i).S.T = z))) (hs : (gd l i).Safe = true) : ∀ t, hasM M' t = safeAt (l.take (i + 1)) t := fun t => by
  rw [safe_snoc h, hs, hM' t, hM t]; simp
theorem told_step (hI : toldTo l i = true) (h : 0 ≤ (gd l i).Site ∧ (gd l i).Site < 2 ∧ 1 ≤ (gd l i).View ∧ 0 ≤ (gd l i).S.T ∧ (gd l i).S.T ≤ 1099511627776) (hc : ¬ ((gd l i).Safe = true ∧ hasM M (gd l i).S.T = true)) (hM : ∀ t, hasM M t = safeAt (l.take i) t) : toldTo l (i + 1) = true := by
  rw [toldTo, hI]
  have h1 : ok1 (gd l i) = true := decide_eq_true h
  rw [h1, ← hM]
  cases hs : (gd l i).Safe
  · rfl
  · cases hm : hasM M (gd l i).S.T
    · rfl
    · exact absurd ⟨hs, hm⟩ hc
theorem told_not : ∀ {n m : Nat}, n ≤ m → toldTo l n = false → toldTo l m = false
  | n, 0, hn, h => by obtain rfl : n = 0 := by omega
                      exact h
  | n, m + 1, hn, h => by
    by_cases e : n = m + 1
    · subst e; exact h
    · rw [toldTo, told_not (m := m) (by omega) h]; rfl
theorem told_bad (h : i < l.length) (hM : ∀ t, hasM M t = safeAt (l.take i) t) (c : (((((gd l i).Site < 0 ∨ 2 ≤ (gd l i).Site) ∨ (gd l i).View < 1) ∨ (gd l i).S.T < 0) ∨ 1099511627776 < (gd l i).S.T) ∨ ((gd l i).Safe = true ∧ hasM M (gd l i).S.T = true)) : toldJ l = false := by
  refine told_not (n := i + 1) (by omega) ?_
  rw [toldTo]
  rcases c with c | ⟨c1, c2⟩
  · have : ok1 (gd l i) = false := decide_eq_false (by omega)
    rw [this]; simp
  · rw [hM] at c2
    rw [c1, c2]; simp
theorem told_all (hI : toldTo l i = true) (hi : i = l.length) : toldJ l = true := by unfold toldJ; rw [← hi]; exact hI
end
section
variable {l : List Told} {h : List Sample} {M M' M2 M3 : List (Sample × Nat)} {i j : Nat}
theorem said_add (hi : i < l.length) (hM : ∀ s, hasM M s = saidB (l.take i) s) (hM' : ∀ z, hasM M' z = (hasM M z || decide ((gd l i).S = z))) : ∀ s, hasM M' s = saidB (l.take (i + 1)) s := fun s => by
  rw [hM' s, hM s]; unfold saidB; rw [take_gd hi, List.any_append, List.any_cons, List.any_nil, Bool.or_false]
theorem there_add (hj : j < h.length) (hH : ∀ s, hasM M2 s = decide (s ∈ h.take j)) (hM' : ∀ z, hasM M3 z = (hasM M2 z || decide (gd h j = z))) : ∀ s, hasM M3 s = decide (s ∈ h.take (j + 1)) := fun s => by
  rw [hM' s, hH s, take_gd hj, ← Bool.decide_or, decide_eq_decide, List.mem_append, List.mem_singleton]
  exact or_congr_right eq_comm
theorem none_add (hj : j < h.length) (hN : (h.take j).any (fun s => !saidB l s) = false) (hMA : ∀ s, hasM M s = saidB l s) (hs : hasM M (gd h j) = true) : (h.take (j + 1)).any (fun s => !saidB l s) = false := by
  rw [take_gd hj, List.any_append, hN, List.any_cons, List.any_nil, ← hMA, hs]; rfl
theorem content_1 (hr : risingA h = false) : contentC l h = 1 := by unfold contentC; rw [if_pos hr]
theorem content_2 (hr : risingA h = true) (hs : hasM M (gd h j) = false) (hMA : ∀ s, hasM M s = saidB l s) (hj : j < h.length) : contentC l h = 2 := by
  unfold contentC
  rw [if_neg (by rw [hr]; decide), if_pos]
  refine List.any_eq_true.2 ⟨gd h j, by rw [gd_eq hj]; exact List.getElem_mem _, ?_⟩
  rw [← hMA, hs]; rfl
theorem needs_is (hHA : ∀ s, hasM M2 s = decide (s ∈ h)) : l.any (fun (y : Told) => (y.Safe && !(hasM M2 y.S))) = l.any (fun x => x.Safe && !decide (x.S ∈ h)) := by
  congr 1; funext y; rw [hHA]
theorem content_3 (hr : risingA h = true) (hNA : h.any (fun s => !saidB l s) = false) (hHA : ∀ s, hasM M2 s = decide (s ∈ h)) (hc : l.any (fun (y : Told) => (y.Safe && !(hasM M2 y.S))) = true) : contentC l h = 3 := by
  unfold contentC
  rw [if_neg (by rw [hr]; decide), if_neg (by rw [hNA]; decide), if_pos (by rw [← needs_is hHA]; exact hc)]
theorem content_0 (hr : risingA h = true) (hNA : h.any (fun s => !saidB l s) = false) (hHA : ∀ s, hasM M2 s = decide (s ∈ h)) (hc : l.any (fun (y : Told) => (y.Safe && !(hasM M2 y.S))) = false) : contentC l h = 0 := by
  unfold contentC
  rw [if_neg (by rw [hr]; decide), if_neg (by rw [hNA]; decide), if_neg (by rw [← needs_is hHA, hc]; decide)]
end
section
variable {l : List Grant} {last : Int} {i : Nat}
theorem grants_go (h : i < l.length) (hg : last < (gd l i).View ∧ 0 ≤ (gd l i).Site ∧ (gd l i).Site < 2) : grantsG last (l.drop i) i = grantsG (gd l i).View (l.drop (i + 1)) (i + 1) := by
  have : badG last (gd l i) = false := decide_eq_false (by omega)
  rw [List.drop_eq_getElem_cons h, grantsG, ← gd_eq h, this]; rfl
theorem grants_at (h : i < l.length) (hg : (gd l i).View ≤ last ∨ (gd l i).Site < 0 ∨ 2 ≤ (gd l i).Site) : grantsG last (l.drop i) i = (i : Int) + 1 := by
  have : badG last (gd l i) = true := decide_eq_true hg
  rw [List.drop_eq_getElem_cons h, grantsG, ← gd_eq h, this]; rfl
theorem grants_end (h : i = l.length) : grantsG last (l.drop i) i = 0 := by rw [List.drop_eq_nil_of_le (by omega)]; rfl
end
theorem within_yes {l ys : List Sample} {lo hi : Int} {i : Nat} (h : i < l.length) (hI : ys = (l.take i).filter (inT lo hi)) (h0 : lo ≤ (l[i]'h).T ∧ (l[i]'h).T < hi) : ys ++ [l[i]'h] = (l.take (i + 1)).filter (inT lo hi) := by
  rw [List.take_succ_eq_append_getElem h, List.filter_append, ← hI]
  have : inT lo hi (l[i]'h) = true := decide_eq_true h0
  simp [this]
theorem within_no {l ys : List Sample} {lo hi : Int} {i : Nat} (h : i < l.length) (hI : ys = (l.take i).filter (inT lo hi)) (h0 : ¬ (lo ≤ (l[i]'h).T ∧ (l[i]'h).T < hi)) : ys = (l.take (i + 1)).filter (inT lo hi) := by
  rw [List.take_succ_eq_append_getElem h, List.filter_append, ← hI]
  have : inT lo hi (l[i]'h) = false := decide_eq_false h0
  simp [this]
section
variable {hv : List Sample} {ws : List Win} {fr to : Int} {i j q : Nat}
theorem apart_step (hI : apartTo ws i = true) (h : i = 0 ∨ (gd ws (i - 1)).Hi ≤ (gd ws i).Lo) : apartTo ws (i + 1) = true := by rw [apartTo, hI, decide_eq_true h]; rfl
theorem apart_not : ∀ {n m : Nat}, n ≤ m → apartTo ws n = false → apartTo ws m = false
  | n, 0, hn, h => by obtain rfl : n = 0 := by omega
                      exact h
  | n, m + 1, hn, h => by
    by_cases e : n = m + 1
    · subst e; exact h
    · rw [apartTo, apart_not (m := m) (by omega) h]; rfl
theorem ans_1 (h : ws.any (fun (y : Win) => !(mayW y)) = true) : answerC hv ws fr to = 1 := by unfold answerC; rw [if_pos h]
theorem ans_2 (h : ws.any (fun (y : Win) => !(mayW y)) = false) (hi : i < ws.length) (h0 : 0 < i) (h1 : (gd ws i).Lo < (gd ws (i - 1)).Hi) : answerC hv ws fr to = 2 := by
  unfold answerC
  rw [if_neg (by rw [h]; decide), if_pos]
  refine apart_not (n := i + 1) (by omega) ?_
  rw [apartTo, decide_eq_false (by omega)]; simp
theorem cover_is (s : Sample) : ws.any (fun (y : Win) => decide (y.Lo ≤ s.T ∧ s.T < y.Hi)) = coverB ws s := by
  rfl
theorem cov_step {Z : List Sample} (hj : j < Z.length) (hC : (Z.take j).any (fun s => !coverB ws s) = false) (h : ws.any (fun (y : Win) => decide (y.Lo ≤ (gd Z j).T ∧ (gd Z j).T < y.Hi)) = true) : (Z.take (j + 1)).any (fun s => !coverB ws s) = false := by
  rw [take_gd hj, List.any_append, hC, List.any_cons, List.any_nil, ← cover_is, h]; rfl
theorem ans_3 (h : ws.any (fun (y : Win) => !(mayW y)) = false) (hA : apartTo ws ws.length = true) (hj : j < (hv.filter (inT fr to)).length) (hc : ws.any (fun (y : Win) => decide (y.Lo ≤ (gd (hv.filter (inT fr to)) j).T ∧ (gd (hv.filter (inT fr to)) j).T < y.Hi)) = false) : answerC hv ws fr to = 3 := by
  unfold answerC
  rw [if_neg (by rw [h]; decide), if_neg (by rw [hA]; decide), if_pos]
  refine List.any_eq_true.2 ⟨gd (hv.filter (inT fr to)) j, by rw [gd_eq hj]; exact List.getElem_mem _, ?_⟩
  rw [← cover_is, hc]; rfl
theorem right_step (hq : q < ws.length) (hR : (ws.take q).any (fun w => !rightW hv w) = false) (h : (allA (hv.filter (inT (gd ws q).Lo (gd ws q).Hi)) (gd ws q).Agg.From).2 = 0) (h2 : (allA (hv.filter (inT (gd ws q).Lo (gd ws q).Hi)) (gd ws q).Agg.From).1 = (gd ws q).Agg) : (ws.take (q + 1)).any (fun w => !rightW hv w) = false := by
  have : rightW hv (gd ws q) = true := decide_eq_true (Prod.ext h2 h)
  rw [take_gd hq, List.any_append, hR, List.any_cons, List.any_nil, this]; rfl
theorem ans_4 (h : ws.any (fun (y : Win) => !(mayW y)) = false) (hA : apartTo ws ws.length = true) (hC : (hv.filter (inT fr to)).any (fun s => !coverB ws s) = false) (hq : q < ws.length) (hc : (¬ (allA (hv.filter (inT (gd ws q).Lo (gd ws q).Hi)) (gd ws q).Agg.From).2 = 0) ∨ (¬ (allA (hv.filter (inT (gd ws q).Lo (gd ws q).Hi)) (gd ws q).Agg.From).1 = (gd ws q).Agg)) : answerC hv ws fr to = 4 := by
  unfold answerC
  rw [if_neg (by rw [h]; decide), if_neg (by rw [hA]; decide), if_neg (by rw [hC]; decide), if_pos]
  refine List.any_eq_true.2 ⟨gd ws q, by rw [gd_eq hq]; exact List.getElem_mem _, ?_⟩
  have : rightW hv (gd ws q) = false := decide_eq_false fun e => by
    rw [e] at hc; simp at hc
  rw [this]; rfl
theorem ans_0 (h : ws.any (fun (y : Win) => !(mayW y)) = false) (hA : apartTo ws ws.length = true) (hC : (hv.filter (inT fr to)).any (fun s => !coverB ws s) = false) (hR : (ws.take q).any (fun w => !rightW hv w) = false) (hq : q = ws.length) : answerC hv ws fr to = 0 := by
  rw [List.take_of_length_le (by omega)] at hR
  unfold answerC
  rw [if_neg (by rw [h]; decide), if_neg (by rw [hA]; decide), if_neg (by rw [hC]; decide), if_neg (by rw [hR]; decide)]
theorem filt_len (l : List Sample) (p : Sample → Bool) : (l.filter p).length ≤ l.length := List.length_filter_le ..
theorem filt_ok {l : List Sample} {p : Sample → Bool} (h : ∀ s ∈ l, s.ok) : ∀ s ∈ l.filter p, s.ok := fun s hs => h s (List.mem_filter.1 hs).1
end
end Go.Proofs.Ytldfnkhccaglmaa
end
section
namespace Go.Proofs.Ytldfnkhccaglmaa
/-! ### A few -/
abbrev t23W : List Win := [sampW ⟨3, 5⟩, sampW ⟨4, 6⟩]
theorem told23_A : rangeW (ds []) [⟨3, 5⟩, ⟨4, 6⟩] 0 9 = (t23W, 0) := by decide +kernel
theorem t23_ok : ∀ w ∈ t23W, w.ok := by decide +kernel
theorem t23_ok1 : ∀ w ∈ t23W.take 1, w.ok := fun w h => t23_ok w (List.mem_of_mem_take h)
end Go.Proofs.Ytldfnkhccaglmaa
end
section
namespace Go.Proofs.Ytldfnkhccaglmaa
/-! ### Windows, and the samples that they come from -/
theorem wins_parts {k : Int} (h0 : 0 < k) (h4 : k < 4) : ∀ (f : Nat) (l : List Sample), l.length ≤ f → l.Pairwise (fun a b : Sample => a.T < b.T) → (∀ s ∈ l, 0 ≤ s.T ∧ s.T ≤ 1099511627776) →
    (∀ a ∈ wins k f l, ∃ y ∈ l, a = aggL (floorA y.T k) (l.filter fun s => decide (floorA s.T k = floorA y.T k))) ∧ (∀ x ∈ l, ∃ a ∈ wins k f l, a.From = floorA x.T k)
  | 0, l, hf, _, _ => by
    obtain rfl := List.length_eq_zero_iff.1 (by omega : l.length = 0)
    exact ⟨fun a h => (nomatch h), fun a h => (nomatch h)⟩
  | f + 1, [], _, _, _ => ⟨fun a h => (nomatch h), fun a h => (nomatch h)⟩
  | f + 1, s :: l, hf, hp, hb => by
    have hpos : 0 < winLen k (floorA s.T k) (s :: l) := by simp [winLen]
    have hwf := win_floor (k := k) (F := floorA s.T k) (s :: l)
    have hwd := win_drop k (floorA s.T k) (s :: l)
    rw [wins]
    generalize winLen k (floorA s.T k) (s :: l) = n at *
    simp only [List.length_cons] at hf
    have hsplit : (s :: l).take n ++ (s :: l).drop n = s :: l := List.take_append_drop ..
    have hbd : ∀ x ∈ (s :: l).drop n, 0 ≤ x.T ∧ x.T ≤ 1099511627776 := fun x hx => hb x (List.mem_of_mem_drop hx)
    have hpd : ((s :: l).drop n).Pairwise (fun a b : Sample => a.T < b.T) := hp.sublist (List.drop_sublist ..)
    have hs := hb s (List.mem_cons_self ..)
    have hsx : ∀ x ∈ (s :: l).drop n, s.T ≤ x.T := fun x hx => by
      rcases List.mem_cons.1 (List.mem_of_mem_drop hx) with rfl | h
      · exact Int.le_refl _
      · exact Int.le_of_lt ((List.pairwise_cons.1 hp).1 x h)
    have hgt : ∀ x ∈ (s :: l).drop n, floorA s.T k < floorA x.T k := fun x hx => by
      cases hd : (s :: l).drop n with
      | nil => rw [hd] at hx; cases hx
      | cons y r =>
        have hne := hwd y r hd
        rw [hd] at hx hpd hbd hsx
        have hy := hbd y (List.mem_cons_self ..)
        have h1 := floor_mono h0 h4 hs.1 (hsx y (List.mem_cons_self ..)) hy.2
        have h2 : floorA y.T k ≤ floorA x.T k := by
          rcases List.mem_cons.1 hx with rfl | h
          · exact Int.le_refl _
          · exact floor_mono h0 h4 hy.1 (Int.le_of_lt ((List.pairwise_cons.1 hpd).1 x h)) (hbd x (List.mem_cons_of_mem _ h)).2
        omega
    have hl2 : ((s :: l).drop n).length ≤ f := by rw [List.length_drop, List.length_cons]; omega
    obtain ⟨i1, i2⟩ := wins_parts h0 h4 f ((s :: l).drop n) hl2 hpd hbd
    have hfl : ∀ p : Sample → Bool, (s :: l).filter p = ((s :: l).take n).filter p ++ ((s :: l).drop n).filter p := fun p => by rw [← List.filter_append, hsplit]
    refine ⟨fun a ha => ?_, fun x hx => ?_⟩
    · rcases List.mem_cons.1 ha with rfl | ha
      · refine ⟨s, List.mem_cons_self .., ?_⟩
        rw [hfl, List.filter_eq_self.2 (fun x hx => decide_eq_true (hwf x hx)), List.filter_eq_nil_iff.2 (fun x hx => by have := hgt x hx; rw [decide_eq_true_eq]; omega), List.append_nil]
      · obtain ⟨y, hy, e⟩ := i1 a ha
        refine ⟨y, List.mem_of_mem_drop hy, ?_⟩
        rw [hfl, List.filter_eq_nil_iff.2 (fun x hx => by have := hgt y hy; rw [hwf x hx, decide_eq_true_eq]; omega), List.nil_append]
        exact e
    · rw [← hsplit] at hx
      rcases List.mem_append.1 hx with hx | hx
      · refine ⟨_, List.mem_cons_self .., ?_⟩
        rw [hwf x hx]
        exact aggL_from _ (by rw [List.length_take, List.length_cons]; omega)
      · obtain ⟨a, ha, e⟩ := i2 x hx
        exact ⟨a, List.mem_cons_of_mem _ ha, e⟩
theorem floor_at {x y k : Int} (h0 : 0 < k) (h4 : k < 4) (hx : 0 ≤ x ∧ x ≤ 1099511627776) (hy : 0 ≤ y ∧ y ≤ 1099511627776) : floorA x k = floorA y k ↔ floorA y k ≤ x ∧ x < floorA y k + widthA k := by
  rcases width3 h0 h4 with h | h | h <;> rw [h, floor_eq h (by decide) hx.1 hx.2, floor_eq h (by decide) hy.1 hy.2] <;> omega
def Good (S : List Sample) (w : Win) : Prop := mayW w = true ∧ S.filter (inT w.Lo w.Hi) ≠ [] ∧ w.Agg = aggL w.Agg.From (S.filter (inT w.Lo w.Hi))
theorem filt_one {l : List Sample} (hp : l.Pairwise (fun a b : Sample => a.T < b.T)) {x : Sample} (hx : x ∈ l) : l.filter (inT x.T (x.T + 1)) = [x] := by
  induction l with
  | nil => cases hx
  | cons s l ih =>
    have hc := List.pairwise_cons.1 hp
    rcases List.mem_cons.1 hx with rfl | hx
    · rw [List.filter_cons, if_pos (show inT x.T (x.T + 1) x = true from decide_eq_true (by omega)), List.filter_eq_nil_iff.2]
      intro y hy
      have := hc.1 y hy
      unfold inT; rw [decide_eq_true_eq]; omega
    · have := hc.1 x hx
      rw [List.filter_cons, if_neg (by unfold inT; rw [decide_eq_true_eq]; omega), ih hc.2 hx]
theorem mayW_is {w : Win} (h1 : 0 < widthA w.Tier) (h2 : mayP w.Agg) (h3 : w.Agg.From = floorA w.Agg.From w.Tier) (h4 : w.Agg.From ≤ w.Lo ∧ w.Lo < w.Hi ∧ w.Hi ≤ w.Agg.From + widthA w.Tier) : mayW w = true := by
  unfold mayW
  rw [decide_eq_true h1, mayA_iff.2 h2, decide_eq_true h3, decide_eq_true h4.1, decide_eq_true h4.2.1, decide_eq_true h4.2.2]; rfl
theorem mayW_is' {w : Win} (h : mayW w = true) : mayP w.Agg ∧ w.Lo < w.Hi := by
  unfold mayW at h
  simp only [Bool.and_eq_true, decide_eq_true_eq] at h
  exact ⟨mayA_iff.1 h.1.1.1.1.2, h.1.2⟩
theorem seg_good {s : SegD} {i j : Nat} (h : mayS s = true) (ht : s.Tier = 0) (hs : ∀ x ∈ s.Samples, smallS x) (hi : i < 1000) (hj : j < 4) :
    (∀ w ∈ allW (atT s i j), Good s.Samples w) ∧ ∀ x ∈ s.Samples, ∃ w ∈ allW (atT s i j), inT w.Lo w.Hi x = true := by
  have hm := atT_may h ht hs hi hj
  obtain ⟨_, hp, hb, f0, t1⟩ := raw_bounds h ht
  have hb2 : ∀ x ∈ s.Samples, 0 ≤ x.T ∧ x.T ≤ 1099511627776 := fun x hx => by have := hb x hx; omega
  have hr : risingA s.Samples = true ∧ s.Samples.length ≤ 64 := by
    rcases (may_iff.1 h).2 with ⟨_, g⟩ | ⟨g, _⟩
    · exact ⟨(mayRaw_iff.1 g).2.2.2.1, (mayRaw_iff.1 g).2.2.1⟩
    · exact absurd ht g
  by_cases e : j = 0
  · have e2 : atT s i j = s := by unfold atT; rw [if_pos e]
    rw [e2, allW_raw h ht]
    refine ⟨fun w hw => ?_, fun x hx => ⟨sampW x, List.mem_map.2 ⟨x, hx, rfl⟩, decide_eq_true (by simp only [sampW]; omega)⟩⟩
    obtain ⟨x, hx, rfl⟩ := List.mem_map.1 hw
    have h1 := filt_one hp hx
    have hx2 := hb2 x hx
    have hm1 := (all_fine (fr := x.T) hx2.1 hx2.2 (l := [x]) (by simp) (by simp) (fun y hy => by obtain rfl := List.mem_singleton.1 hy; exact hs y hx)).2
    have hw0 : widthA 0 = 1 := rfl
    refine ⟨mayW_is (w := sampW x) (show 0 < widthA 0 by decide) hm1 ?_ (by simp only [sampW]; rw [hw0]; omega), ?_, ?_⟩
    · show x.T = floorA x.T 0
      rw [floor_eq hw0 (by decide) hx2.1 hx2.2]; omega
    · show s.Samples.filter (inT x.T (x.T + 1)) ≠ []
      rw [h1]; simp
    · show oneA x.V x.T = aggL x.T (s.Samples.filter (inT x.T (x.T + 1)))
      rw [h1]; rfl
  · have ht2 : ¬ (atT s i j).Tier = 0 := by unfold atT; rw [if_neg e]; show ¬ (j : Int) = 0; omega
    have ha : (atT s i j).Aggs = wins (j : Int) s.Samples.length s.Samples := by
      unfold atT; rw [if_neg e]; exact raw_wins (by omega) (by omega) hr.1 (by omega) hs
    have hT : (atT s i j).Tier = (j : Int) ∧ (atT s i j).From = s.From ∧ (atT s i j).To = s.To := by unfold atT; rw [if_neg e]; exact ⟨rfl, rfl, rfl⟩
    obtain ⟨p1, p2⟩ := wins_parts (k := (j : Int)) (by omega) (by omega) s.Samples.length s.Samples (Nat.le_refl _) hp hb2
    rw [allW_up hm ht2, ha]
    have key : ∀ y ∈ s.Samples, ∀ x ∈ s.Samples, inT (max (floorA y.T j) s.From) (min (floorA y.T j + widthA j) s.To) x = decide (floorA x.T j = floorA y.T j) := fun y hy x hx => by
      have := floor_at (k := (j : Int)) (by omega) (by omega) (hb2 x hx) (hb2 y hy)
      have := hb x hx
      unfold inT
      rw [decide_eq_decide]; omega
    refine ⟨fun w hw => ?_, fun x hx => ?_⟩
    · obtain ⟨a, ha2, rfl⟩ := List.mem_map.1 hw
      obtain ⟨y, hy, ea⟩ := p1 a ha2
      have hyf := floor_nn (k := (j : Int)) (by omega) (by omega) (hb2 y hy).1 (hb2 y hy).2
      have hmem : y ∈ s.Samples.filter fun s => decide (floorA s.T j = floorA y.T j) := List.mem_filter.2 ⟨hy, decide_eq_true rfl⟩
      have hlen := List.length_pos_of_mem hmem
      have hfrom : a.From = floorA y.T j := by rw [ea]; exact aggL_from _ hlen
      have hfe : s.Samples.filter (inT (winOf (atT s i j) a).Lo (winOf (atT s i j) a).Hi) = s.Samples.filter fun s => decide (floorA s.T j = floorA y.T j) := by
        refine List.filter_congr fun x hx => ?_
        simp only [winOf, hT.1, hT.2.1, hT.2.2, hfrom]
        exact key y hy x hx
      have hyy := (floor_at (k := (j : Int)) (by omega) (by omega) (hb2 y hy) (hb2 y hy)).1 rfl
      have hyb := hb y hy
      have hb2y := hb2 y hy
      have hmp := (all_fine (fr := floorA y.T j) hyf.1 (by omega) hlen (Nat.le_trans (List.length_filter_le ..) (by omega)) (fun x hx => hs x (List.mem_filter.1 hx).1)).2
      rw [← ea] at hmp
      have hw3 := width3 (k := (j : Int)) (by omega) (by omega)
      refine ⟨mayW_is ?_ hmp ?_ ?_, ?_, ?_⟩
      · show 0 < widthA (atT s i j).Tier
        rw [hT.1]; omega
      · show a.From = floorA a.From (atT s i j).Tier
        rw [hT.1, hfrom]; exact hyf.2.2.symm
      · simp only [winOf, hT.1, hT.2.1, hT.2.2, hfrom]
        omega
      · rw [hfe]; exact List.ne_nil_of_mem hmem
      · rw [hfe]
        show a = aggL a.From _
        rw [hfrom]; exact ea
    · obtain ⟨a, ha2, ef⟩ := p2 x hx
      refine ⟨winOf (atT s i j) a, List.mem_map.2 ⟨a, ha2, rfl⟩, ?_⟩
      simp only [winOf, hT.1, hT.2.1, hT.2.2, ef]
      rw [key x hx x hx]; exact decide_eq_true rfl
section
variable (steps values : List Int) (mask : Int)
theorem row_good : ∀ {i : Nat}, i ≤ 4 → (∀ w ∈ (finL steps values mask i).flatMap allW, Good (rowM steps values mask i).all w) ∧ ∀ x ∈ (rowM steps values mask i).all, ∃ w ∈ (finL steps values mask i).flatMap allW, inT w.Lo w.Hi x = true
  | 0, _ => ⟨fun a h => (nomatch h), fun a h => (nomatch h)⟩
  | i + 1, hi => by
    obtain ⟨i1, i2⟩ := row_good (i := i) (by omega)
    obtain ⟨hm, h0, _, hs, hfr, hto⟩ := base_facts steps values mask (i := i) (by omega)
    obtain ⟨k, hk, hb⟩ := bit_some mask i
    obtain ⟨q, hq⟩ := first_has hb hk
    have hq4 := (firstM_lt hq).1
    have hf : firstL (baseM steps values mask i) mask i 4 = [atT (baseM steps values mask i) i q] := by unfold firstL; rw [hq]
    obtain ⟨g1, g2⟩ := seg_good hm h0 hs (show i < 1000 by omega) hq4
    have hA : (rowM steps values mask (i + 1)).all = (rowM steps values mask i).all ++ (baseM steps values mask i).Samples := rfl
    have hab := (all_bounds steps values mask (i := i) (by omega)).2
    obtain ⟨_, _, hrb, _, _⟩ := raw_bounds hm h0
    have hma := atT_may hm h0 hs (show i < 1000 by omega) hq4
    have hin := allW_in hma
    have hft : (atT (baseM steps values mask i) i q).From = toM steps values mask i := by unfold atT; split <;> exact hfr
    have hold : ∀ w ∈ (finL steps values mask i).flatMap allW, w.Hi ≤ toM steps values mask i := fun w hw => by
      obtain ⟨s, hs', hw⟩ := List.mem_flatMap.1 hw
      have a1 := allW_in (row_may steps values mask (i := i) (by omega) s (fin_mem steps values mask (by omega) s hs')) w hw
      have a2 := fin_to steps values mask (i := i) (by omega) s hs'
      omega
    have ef : (finL steps values mask (i + 1)).flatMap allW = (finL steps values mask i).flatMap allW ++ allW (atT (baseM steps values mask i) i q) := by
      rw [finL, hf, List.flatMap_append, List.flatMap_cons, List.flatMap_nil, List.append_nil]
    rw [hA, ef]
    refine ⟨fun w hw => ?_, fun x hx => ?_⟩
    · rcases List.mem_append.1 hw with hw | hw
      · obtain ⟨c1, c2, c3⟩ := i1 w hw
        have hh := hold w hw
        have e : ((rowM steps values mask i).all ++ (baseM steps values mask i).Samples).filter (inT w.Lo w.Hi) = (rowM steps values mask i).all.filter (inT w.Lo w.Hi) := by
          rw [List.filter_append, (List.filter_eq_nil_iff (l := (baseM steps values mask i).Samples)).2, List.append_nil]
          intro x hx
          have := hrb x hx
          unfold inT; rw [decide_eq_true_eq]; omega
        exact ⟨c1, by rw [e]; exact c2, by rw [e]; exact c3⟩
      · obtain ⟨c1, c2, c3⟩ := g1 w hw
        have hh := hin w hw
        have e : ((rowM steps values mask i).all ++ (baseM steps values mask i).Samples).filter (inT w.Lo w.Hi) = (baseM steps values mask i).Samples.filter (inT w.Lo w.Hi) := by
          rw [List.filter_append, (List.filter_eq_nil_iff (l := (rowM steps values mask i).all)).2, List.nil_append]
          intro x hx
          have := hab x hx
          unfold inT; rw [decide_eq_true_eq]; omega
        exact ⟨c1, by rw [e]; exact c2, by rw [e]; exact c3⟩
    · rcases List.mem_append.1 hx with hx | hx
      · obtain ⟨w, hw, e⟩ := i2 x hx
        exact ⟨w, List.mem_append_left _ hw, e⟩
      · obtain ⟨w, hw, e⟩ := g2 x hx
        exact ⟨w, List.mem_append_right _ hw, e⟩
end
theorem segW_keep {s : SegD} {f t : Int} {w : Win} (h : w ∈ allW s) (hk : keepW f t w = true) : w ∈ segW s f t := by
  have hk2 := of_decide_eq_true hk
  rcases List.mem_append.1 h with h | h
  · obtain ⟨x, hx, rfl⟩ := List.mem_map.1 h
    refine List.mem_append_left _ (List.mem_map.2 ⟨x, List.mem_filter.2 ⟨(List.mem_filter.1 hx).1, ?_⟩, rfl⟩)
    simp only [sampW] at hk2
    exact decide_eq_true (by omega)
  · exact List.mem_append_right _ (List.mem_filter.2 ⟨(List.mem_filter.1 h).1, hk⟩)
/-! ### What the judge says -/
theorem apartTo_of {ws : List Win} (h : ws.Pairwise fun a b => a.Hi ≤ b.Lo) : ∀ {n : Nat}, n ≤ ws.length → apartTo ws n = true
  | 0, _ => rfl
  | n + 1, hn => by
    refine apart_step (apartTo_of h (n := n) (by omega)) ?_
    by_cases e : n = 0
    · exact Or.inl e
    · refine Or.inr ?_
      rw [gd_eq (show n - 1 < ws.length by omega), gd_eq (show n < ws.length by omega)]
      exact List.pairwise_iff_getElem.1 h (n - 1) n (by omega) (by omega) (by omega)
theorem ans_good {hv : List Sample} {ws : List Win} {f t : Int} (hm : ∀ w ∈ ws, mayW w = true) (ha : ws.Pairwise fun a b => a.Hi ≤ b.Lo) (hc : ∀ x ∈ hv, inT f t x = true → ∃ w ∈ ws, inT w.Lo w.Hi x = true) (hr : ∀ w ∈ ws, rightW hv w = true) : answerC hv ws f t = 0 := by
  unfold answerC
  rw [if_neg (fun c => ?_), if_neg (by rw [apartTo_of ha (Nat.le_refl _)]; decide), if_neg (fun c => ?_), if_neg (fun c => ?_)]
  · obtain ⟨w, hw, e⟩ := List.any_eq_true.1 c
    rw [hr w hw] at e; cases e
  · obtain ⟨x, hx, e⟩ := List.any_eq_true.1 c
    have hx := List.mem_filter.1 hx
    obtain ⟨w, hw, e2⟩ := hc x hx.1 hx.2
    have : coverB ws x = true := List.any_eq_true.2 ⟨w, hw, e2⟩
    rw [this] at e; cases e
  · obtain ⟨w, hw, e⟩ := List.any_eq_true.1 c
    rw [hm w hw] at e; cases e
theorem ans_wrong {hv : List Sample} {ws : List Win} {f t : Int} (h : (∃ w ∈ ws, rightW hv w = false) ∨ apartTo ws ws.length = false ∨ ∃ x ∈ hv, inT f t x = true ∧ coverB ws x = false) : ¬ answerC hv ws f t = 0 := by
  unfold answerC
  split
  · decide
  split
  · decide
  split
  · decide
  split
  · decide
  rename_i h1 h2 h3 h4
  exfalso
  rcases h with ⟨w, hw, e⟩ | h | ⟨x, hx, e1, e2⟩
  · exact h4 (List.any_eq_true.2 ⟨w, hw, by rw [e]; rfl⟩)
  · exact h2 h
  · exact h3 (List.any_eq_true.2 ⟨x, List.mem_filter.2 ⟨hx, e1⟩, by rw [e2]; rfl⟩)
theorem right_good {S : List Sample} {w : Win} (hs : ∀ x ∈ S, smallS x) (hn : S.length ≤ 1000000) (hw : Good S w) : allA (S.filter (inT w.Lo w.Hi)) w.Agg.From = (w.Agg, 0) := by
  obtain ⟨h1, h2, h3⟩ := hw
  have hm := (mayW_is' h1).1
  simp only [mayP] at hm
  rw [(all_fine (fr := w.Agg.From) (by omega) (by omega) (List.length_pos_iff.2 h2) (Nat.le_trans (List.length_filter_le ..) hn) (fun x hx => hs x (List.mem_filter.1 hx).1)).1, ← h3]
section
variable {steps values : List Int} {mask : Int} {i : Nat} {R : RowD} {A : List Win} {f t : Int}
theorem rows_facts (hi : i ≤ 4) (h0 : 0 ≤ f) (h2 : t ≤ 1099511627776) (hR : R = rowM steps values mask i) (hA : A = (finL steps values mask i).flatMap (fun s => segW s f t)) :
    (∀ w ∈ A, Good R.all w) ∧ (A.Pairwise fun a b => a.Hi ≤ b.Lo) ∧ (∀ x ∈ R.all, inT f t x = true → ∃ w ∈ A, inT w.Lo w.Hi x = true) ∧ (∀ x ∈ R.all, smallS x) ∧ R.all.length ≤ 24 ∧ (∀ w ∈ A, rightW R.all w = true) ∧ (∀ w ∈ A, w ∈ (finL steps values mask i).flatMap allW) := by
  subst hR; subst hA
  have hsub : ((finL steps values mask i).flatMap (fun s => segW s f t)).Sublist ((finL steps values mask i).flatMap allW) := flat_sub (fun s => segW_sub h0 h2) _
  obtain ⟨g1, g2⟩ := row_good steps values mask hi
  have hn := rowM_all steps values mask hi
  have hs := row_small steps values mask hi
  have hg : ∀ w ∈ (finL steps values mask i).flatMap (fun s => segW s f t), Good (rowM steps values mask i).all w := fun w hw => g1 w (hsub.subset hw)
  refine ⟨hg, (row_apart steps values mask hi).sublist hsub, fun x hx hin => ?_, hs, by omega, fun w hw => ?_, fun w hw => hsub.subset hw⟩
  · obtain ⟨w, hw, e⟩ := g2 x hx
    obtain ⟨s, hs', hw⟩ := List.mem_flatMap.1 hw
    refine ⟨w, List.mem_flatMap.2 ⟨s, hs', segW_keep hw ?_⟩, e⟩
    have h1 := of_decide_eq_true e
    have h2 := of_decide_eq_true hin
    exact decide_eq_true (by omega)
  · exact decide_eq_true (right_good hs (by omega) (hg w hw))
theorem rows_right (hi : i ≤ 4) (h0 : 0 ≤ f) (h2 : t ≤ 1099511627776) (hR : R = rowM steps values mask i) (hA : A = (finL steps values mask i).flatMap (fun s => segW s f t)) : answerC R.all A f t = 0 := by
  obtain ⟨a1, a2, a3, _, _, a6, _⟩ := rows_facts hi h0 h2 hR hA
  exact ans_good (fun w hw => (a1 w hw).1) a2 a3 a6
/-! ### Answers that are turned -/
theorem turn_set {k : Nat} {w' : Win} (hi : i ≤ 4) (h0 : 0 ≤ f) (h2 : t ≤ 1099511627776) (hR : R = rowM steps values mask i) (hA : A = (finL steps values mask i).flatMap (fun s => segW s f t)) (hk : k < A.length) (e1 : w'.Lo = (A[k]'hk).Lo) (e2 : w'.Hi = (A[k]'hk).Hi) (e3 : w'.Agg.From = (A[k]'hk).Agg.From) (e4 : ¬ w'.Agg = (A[k]'hk).Agg) :
    ¬ answerC R.all (A.set k w') f t = 0 := by
  obtain ⟨a1, _, _, a4, a5, _, _⟩ := rows_facts hi h0 h2 hR hA
  refine ans_wrong (Or.inl ⟨w', List.mem_of_getElem (i := k) (by rw [List.getElem_set_self]) (h := by rw [List.length_set]; exact hk), decide_eq_false fun c => ?_⟩)
  rw [e1, e2, e3, right_good a4 (by omega) (a1 _ (List.getElem_mem hk))] at c
  exact e4 (congrArg Prod.fst c).symm
theorem turn_out {k : Nat} (hi : i ≤ 4) (hR : R = rowM steps values mask i) (hA : A = (finL steps values mask i).flatMap (fun s => segW s 0 1099511627776)) (hk : k < A.length) : ¬ answerC R.all (A.take k ++ A.drop (k + 1)) 0 1099511627776 = 0 := by
  obtain ⟨a1, a2, _, _, _, _, _⟩ := rows_facts hi (by decide) (by decide) hR hA
  have hgood := a1 _ (List.getElem_mem hk)
  obtain ⟨x, hx⟩ := List.exists_mem_of_ne_nil _ hgood.2.1
  have hx := List.mem_filter.1 hx
  have hxi := of_decide_eq_true hx.2
  have hp := List.pairwise_iff_getElem.1 a2
  have hab := (all_bounds steps values mask hi).2 x (by rw [← hR]; exact hx.1)
  have hto : 0 ≤ toM steps values mask i ∧ toM steps values mask i ≤ 2000 * (i : Int) := rowM_to steps values mask hi
  refine ans_wrong (Or.inr (Or.inr ⟨x, hx.1, decide_eq_true (by omega), List.any_eq_false.2 fun w hw c => ?_⟩))
  have hc := of_decide_eq_true c
  rcases List.mem_append.1 hw with hw | hw
  · obtain ⟨j, hj, rfl⟩ := List.mem_take_iff_getElem.1 hw
    have := hp j k (by omega) hk (by omega)
    omega
  · obtain ⟨j, hj, rfl⟩ := List.mem_drop_iff_getElem.1 hw
    have := hp k (k + 1 + j) hk (by omega) (by omega)
    omega
theorem turn_twice {k : Nat} {B : List Win} (hi : i ≤ 4) (h0 : 0 ≤ f) (h2 : t ≤ 1099511627776) (hR : R = rowM steps values mask i) (hA : A = (finL steps values mask i).flatMap (fun s => segW s f t)) (hk : k < A.length) (hB : B = (A.take (k + 1) ++ [A[k]'hk]) ++ A.drop (k + 1)) : ¬ answerC R.all B f t = 0 := by
  obtain ⟨a1, _, _, _, _, _, _⟩ := rows_facts hi h0 h2 hR hA
  have hlt := (mayW_is' (a1 _ (List.getElem_mem hk)).1).2
  refine ans_wrong (Or.inr (Or.inl ?_))
  have hl : B.length = A.length + 1 := by rw [hB]; simp; omega
  have g1 : gd B k = A[k]'hk := by
    rw [gd_eq (by omega)]
    subst hB
    rw [List.getElem_append_left (by simp; omega), List.getElem_append_left (by simp; omega), List.getElem_take]
  have g2 : gd B (k + 1) = A[k]'hk := by
    rw [gd_eq (by omega)]
    subst hB
    rw [List.getElem_append_left (by simp; omega), List.getElem_append_right (by simp; omega), List.getElem_singleton]
  refine apart_not (n := k + 1 + 1) (by omega) ?_
  rw [apartTo, decide_eq_false (by rw [show k + 1 - 1 = k by omega, g1, g2]; omega)]; simp
end
/-! ### Numbers of these windows -/
theorem accL_lastV : ∀ (l : List Sample) (a : Agg), (accL a l).Last = a.Last ∨ ∃ s ∈ l, (accL a l).Last = s.V
  | [], _ => Or.inl rfl
  | s :: l, a => by
    rcases accL_lastV l (stepA a s) with h | ⟨x, hx, h⟩
    · exact Or.inr ⟨s, List.mem_cons_self .., h⟩
    · exact Or.inr ⟨x, List.mem_cons_of_mem _ hx, h⟩
theorem aggL_lastV (f : Int) {l : List Sample} (h : l ≠ []) : ∃ s ∈ l, (aggL f l).Last = s.V := by
  cases l with
  | nil => exact absurd rfl h
  | cons s l =>
    rcases accL_lastV l (oneA s.V f) with h | ⟨x, hx, h⟩
    · exact ⟨s, List.mem_cons_self .., h⟩
    · exact ⟨x, List.mem_cons_of_mem _ hx, h⟩
theorem good_nums {S : List Sample} {w : Win} (hw : Good S w) (hs : ∀ x ∈ S, smallS x) (hn : S.length ≤ 24) : (1 ≤ w.Agg.Count ∧ w.Agg.Count ≤ 24) ∧ -1000000000 < w.Agg.Last ∧ w.Agg.Last < 1000000000 := by
  obtain ⟨h1, h2, h3⟩ := hw
  have hm := (mayW_is' h1).1
  simp only [mayP] at hm
  have hc : w.Agg.Count = ((S.filter (inT w.Lo w.Hi)).length : Int) := by rw [h3]; exact aggL_count _
  have hl := List.length_filter_le (inT w.Lo w.Hi) S
  obtain ⟨s, hs', e⟩ := aggL_lastV w.Agg.From h2
  have := hs s (List.mem_filter.1 hs').1
  rw [← h3] at e
  simp only [smallS] at this
  omega
theorem win_ok {w : Win} (h : mayW w = true) (ha : w.Agg.ok) : w.ok := by
  have hm := (mayW_is' h).1
  unfold mayW at h
  simp only [Bool.and_eq_true, decide_eq_true_eq] at h
  simp only [mayP] at hm
  have hw := width_r w.Tier
  have ht : 0 ≤ w.Tier ∧ w.Tier ≤ 3 := by
    have h0 := h.1.1.1.1.1
    unfold widthA at h0
    (repeat' split at h0) <;> omega
  refine ⟨?_, ?_, ?_, ha⟩ <;> simp only [i64R] <;> omega
section
variable {A : List Win} {k : Nat}
theorem ok_set {w : Win} (h : ∀ w ∈ A, w.ok) (hw : w.ok) : ∀ x ∈ A.set k w, x.ok := fun x hx => by
  rcases List.mem_or_eq_of_mem_set hx with hx | rfl
  · exact h x hx
  · exact hw
theorem ok_out (h : ∀ w ∈ A, w.ok) : ∀ x ∈ A.take k ++ A.drop (k + 1), x.ok := fun x hx => by
  rcases List.mem_append.1 hx with hx | hx
  · exact h x (List.mem_of_mem_take hx)
  · exact h x (List.mem_of_mem_drop hx)
theorem ok_twice (h : ∀ w ∈ A, w.ok) (hk : k < A.length) : ∀ x ∈ (A.take (k + 1) ++ [A[k]'hk]) ++ A.drop (k + 1), x.ok := fun x hx => by
  rcases List.mem_append.1 hx with hx | hx
  · rcases List.mem_append.1 hx with hx | hx
    · exact h x (List.mem_of_mem_take hx)
    · rw [List.mem_singleton.1 hx]; exact h _ (List.getElem_mem hk)
  · exact h x (List.mem_of_mem_drop hx)
end
theorem ok_count {w : Win} (h : w.ok) (h0 : 1 ≤ w.Agg.Count ∧ w.Agg.Count ≤ 24) : (⟨w.Tier, w.Lo, w.Hi, ⟨w.Agg.From, w.Agg.Count + 1, w.Agg.Sum, w.Agg.Min, w.Agg.Max, w.Agg.First, w.Agg.Last⟩⟩ : Win).ok := by
  obtain ⟨h1, h2, h3, h4, h5, h6⟩ := h
  exact ⟨h1, h2, h3, h4, (by simp only [i64R]; omega), h6⟩
theorem ok_last {w : Win} (h : w.ok) (h0 : -1000000000 < w.Agg.Last ∧ w.Agg.Last < 1000000000) : (⟨w.Tier, w.Lo, w.Hi, ⟨w.Agg.From, w.Agg.Count, w.Agg.Sum, w.Agg.Min, w.Agg.Max, w.Agg.First, w.Agg.Last + 1⟩⟩ : Win).ok := by
  obtain ⟨h1, h2, h3, h4, h5, h6, h7, h8, h9, h10⟩ := h
  exact ⟨h1, h2, h3, h4, h5, h6, h7, h8, h9, (by simp only [i64R]; omega)⟩
section
variable {steps values : List Int} {mask : Int} {i : Nat} {R : RowD} {A : List Win} {f t : Int}
theorem rows_nums (hi : i ≤ 4) (hv : ∀ v ∈ values, i64R v) (h0 : 0 ≤ f) (h2 : t ≤ 1099511627776) (hR : R = rowM steps values mask i) (hA : A = (finL steps values mask i).flatMap (fun s => segW s f t)) :
    (∀ w ∈ A, w.ok) ∧ (∀ w ∈ A, (1 ≤ w.Agg.Count ∧ w.Agg.Count ≤ 24) ∧ -1000000000 < w.Agg.Last ∧ w.Agg.Last < 1000000000) ∧ (∀ s ∈ R.all, s.ok) ∧ R.all.length ≤ 24 := by
  obtain ⟨a1, _, _, a4, a5, _, _⟩ := rows_facts hi h0 h2 hR hA
  refine ⟨fun w hw => win_ok (a1 w hw).1 ?_, fun w hw => good_nums (a1 w hw) a4 a5, by rw [hR]; exact row_allok steps values mask hv hi, a5⟩
  rw [hA] at hw
  exact win_oks (fin_ok hv hi) w hw
theorem rows_ne2 (hi : i ≤ 4) (h1 : 1 ≤ i) (hR : R = rowM steps values mask i) (hA : A = (finL steps values mask i).flatMap (fun s => segW s 0 1099511627776)) : 0 < A.length := (rows_all hi h1 hR hA).1.1
end
theorem cut_count : ∀ {a : List Agg} {S : List Sample}, CutA a S → a.length ≤ S.length
  | [], _, _ => Nat.zero_le _
  | x :: a, S, ⟨g, fr, U, e, hg, f0, f1, ea, h⟩ => by
    have := cut_count h
    have := List.length_pos_iff.2 hg
    subst e
    rw [List.length_append, List.length_cons]; omega
theorem rows_alen {steps values : List Int} {mask : Int} {i : Nat} {R : RowD} {A : List Win} (hi : i ≤ 4) (hR : R = rowM steps values mask i) (hA : A = (finL steps values mask i).flatMap (fun s => segW s 0 1099511627776)) : A.length ≤ 24 := by
  have := cut_count (row_cut steps values mask hi)
  rw [List.length_map, ← hA] at this
  have h2 := rowM_all steps values mask hi
  omega
end Go.Proofs.Ytldfnkhccaglmaa
end
section
namespace Go.Proofs.Ytldfnkhccaglmaa
open Go.RowKit
section
variable {P : Program} {ρ : Env} {w0 w : World} {K : Value → World → Prop} {L : List Item}
variable {dst : Option Tmp} {ty : TypeId} {pos : String} {aft : Array Edge} {g : Option (Nat × Bool)}
def cap3 : Value → Nat → Value
  | .slice A _ _, k => .slice A k k
  | v, _ => v
theorem op_slice3 {α : Type} {E : Enc α} {T e : TypeId} {x hi mx : Operand} {v : Value} {xs : List α} {k k' : IntKind} {m m' : Int} {w1 : World} (n : Nat) (hT : P.underlying T = some (.slice e)) (hs : ∀ w, (sizeOf e).run P w = .ok E.size w)
    (hx : evE ρ x = v) (hsl : Sl w1 E v xs) (hh : evE ρ hi = .int k m) (hmx : evE ρ mx = .int k' m') (hn : m = (n : Int)) (hn' : m' = (n : Int)) (hm : n ≤ xs.length)
    (h : K (cap3 v n) w) : opE P ⟨dst, .slice T x none (some hi) (some mx), ty, pos, aft, g⟩ ρ w K := by
  subst hn; subst hn'
  obtain ⟨A, c, rfl, h2, h3, h4⟩ := hsl
  have hle : (n : Int) ≤ (c : Int) := by omega
  refine op_of (v := .slice A n n) ?_ h
  have hA : (if n = 0 then A else Option.map (fun x => x.add 0) A) = A := by split <;> simp [Addr.add_zero']
  simp [execOp, hx, hh, hmx, Instr.sliceAt, Instr.slice, run_underlying hT, Instr.sliceBounds, run_sliceBound w k (n : Int) _ _ (Int.natCast_nonneg n) hle, run_sliceBound w k' (n : Int) _ _ (Int.natCast_nonneg n) hle, run_sliceBound w k (n : Int) _ _ (Int.natCast_nonneg n) (Int.le_refl _), hs, hA]
theorem ownsRow_txt {α : Type} {E : Enc α} {w : World} {base b2 T : Nat} {v : Value} {n : Nat} {cs : List Value} (hb : base ≤ b2) (h : w.ownsRow b2 T E.size v n cs) : (Item.txt T E.size v n cs).holds base w := by
  rcases h.2 with ⟨rfl, hn⟩ | ⟨b, cap, cur, rfl, hb', hg, hnc, hcm, hcs, htake⟩
  · refine .inl ⟨rfl, hn, ?_⟩
    have := h.1
    rw [hn, Nat.zero_mul] at this
    exact List.length_eq_zero_iff.1 this
  · exact .inr ⟨b, cap, cur, _, rfl, Nat.le_trans hb hb', hg, hnc, hcm, htake⟩
theorem op_append3 {α : Type} {E : Enc α} {T e : TypeId} {s x : Operand} {v u : Value} {xs ys : List α} {z : Value} {bytes : Nat} (k : Nat) (hst : St w0 w L) (i : Nat) (hi : L[i]? = some (rowT e E v xs)) (hT : P.underlying T = some (.slice e))
    (hinfo : (P.info? e).map (fun i => (i.zero, i.size, i.bytes)) = some (some z, E.size, bytes)) (hz : z.cells.size = E.size) (hs : evE ρ s = cap3 v k) (hk : k < xs.length) (hx : evE ρ x = u) (hsl : Sl w E u ys)
    (h63 : k + ys.length ≤ 1000000000) (hb : (k + ys.length) * bytes ≤ 140737488355328)
    (h : ∀ v' w', St w0 w' (L.set i (txtT e E v' (xs.take k ++ ys))) → K v' w') : opE P ⟨dst, .call ⟨.builtin .append, #[s, x], #[T, T]⟩, ty, pos, aft, g⟩ ρ w K := by
  obtain ⟨i0, hi0, hz0, hz1, hz2⟩ := info_parts hinfo
  have hown : w.ownsRow w0.heap.size e E.size v xs.length (xs.flatMap E.enc) := hst.at i hi
  have hslv := hst.sl i hi
  have hbs := hst.size
  rcases hown.2 with ⟨rfl, hl⟩ | ⟨b, cap, cur, rfl, hbb, hg, hnc, hcm, hcs, htake⟩
  · omega
  have htk : ((xs.take k).flatMap E.enc).length = k * E.size := by rw [E.flat, List.length_take, Nat.min_eq_left (by omega)]
  have hst3 : Sl w E (.slice (some ⟨b, 0, none⟩) k k) (xs.take k) := hslv.take k k (by omega) (Nat.le_refl _) (by omega)
  have fin : ∀ v' w', (Builtin.append_ #[T, T] ty #[.slice (some ⟨b, 0, none⟩) k k, u]).run P w = .ok v' w' → w.grownBy w' (some b) → (Item.txt e E.size v' (k + ys.length) ((xs.take k).flatMap E.enc ++ ys.flatMap E.enc)).holds w0.heap.size w' → (v'.ownBlock = some b ∨ ∀ q, v'.ownBlock = some q → w.heap.size ≤ q) →
      opE P ⟨dst, .call ⟨.builtin .append, #[s, x], #[T, T]⟩, ty, pos, aft, g⟩ ρ w K := by
    intro v' w' hr hg' hh hbk
    refine op_of (v := v') (w' := w') (by simp [execOp, resolve, invoke, builtin, hs, cap3, hx, hr]) (h _ _ ?_)
    refine hst.turn i hi (txtT e E v' (xs.take k ++ ys)) hg' ?_ hbk
    have hl : (xs.take k ++ ys).length = k + ys.length := by rw [List.length_append, List.length_take, Nat.min_eq_left (by omega)]
    rw [show txtT e E v' (xs.take k ++ ys) = Item.txt e E.size v' (k + ys.length) ((xs.take k).flatMap E.enc ++ ys.flatMap E.enc) by rw [← List.flatMap_append, ← hl]]
    exact hh
  have same : ys = [] → (Item.txt e E.size (.slice (some ⟨b, 0, none⟩) k k) (k + ys.length) ((xs.take k).flatMap E.enc ++ ys.flatMap E.enc)).holds w0.heap.size w := by
    rintro rfl
    refine .inr ⟨b, k, cur, _, by rw [List.length_nil, Nat.add_zero], hbb, hg, by simp, by omega, ?_⟩
    simp only [List.length_nil, Nat.add_zero, List.flatMap_nil, List.append_nil]
    have e1 : cur.toList.take (k * E.size) = (cur.toList.take (xs.length * E.size)).take (k * E.size) := by
      rw [List.take_take, Nat.min_eq_left (Nat.mul_le_mul_right _ (by omega))]
    rw [e1, htake, ← List.take_append_drop k xs, List.flatMap_append]
    rw [List.take_append_of_le_length (by rw [htk]; exact Nat.le_refl _), List.take_of_length_le (by rw [htk]; exact Nat.le_refl _)]
    simp
  obtain ⟨A, c, rfl, h2, h3, h4⟩ := hsl
  cases A with
  | none =>
    have hn : ys = [] := by
      rcases ys with _ | ⟨y, ys⟩
      · rfl
      · obtain ⟨b, off, hab, _⟩ := h4 (by simp)
        cases hab
    refine fin _ w ?_ (World.grownBy.refl w _) (same hn) (.inl rfl)
    subst hn
    simp [Builtin.append_, run_underlying hT, sizeOf, typeInfo, hi0, Builtin.lenOf, Builtin.firstCells, storeCells]
  | some ad =>
    have hnews : ∀ j u, (ys.flatMap E.enc)[j]? = some u → w.cell? (ad.add j) = some u := fun j u hu => by
      rcases ys with _ | ⟨y, ys⟩
      · simp at hu
      · obtain ⟨b, off, hab, hp⟩ := h4 (by simp)
        injection hab with hab
        subst hab
        rw [Addr.add_lit]
        have := Sl.flat (E := E) (w := w) (b := b) (off := off) (xs := y :: ys) (o := 0) (fun i x hx => by simpa using hp i x hx) j u hu
        simpa using this
    by_cases hy : ys = []
    · refine fin _ w ?_ (World.grownBy.refl w _) (same hy) (.inl rfl)
      have hrun := run_append_room_cells (P := P) w T ty e i0 hT hi0 b 0 k k ad ys.length c (ys.flatMap E.enc) (by rw [hz1]; exact E.flat ys) hnews (E.oneAll ys) (by subst hy; simp) (by subst hy; simp) (by subst hy; simp)
      rw [hrun]; subst hy; simp [World.setCells]
    · have hpos := List.length_pos_iff.2 hy
      have holds : ∀ j u, ((xs.take k).flatMap E.enc)[j]? = some u → w.cell? ((⟨b, 0, none⟩ : Addr).add j) = some u := fun j u hu => by
        obtain ⟨A', c', e1, _, _, h5⟩ := hst3
        injection e1 with e1 _ _
        subst e1
        have hne : xs.take k ≠ [] := by intro e; rw [e] at hu; simp at hu
        obtain ⟨b2, off2, hab, hp⟩ := h5 hne
        injection hab with hab
        injection hab with hab1 hab2
        subst hab1; subst hab2
        rw [Addr.add_lit]
        have := Sl.flat (E := E) (w := w) (b := b) (off := 0) (xs := xs.take k) (o := 0) (fun i x hx => by simpa using hp i x hx) j u hu
        simpa using this
      obtain ⟨v', w', hrun, h5, h6⟩ := run_append_arg_grows (P := P) w T ty e i0 z E.size bytes hT hi0 hz0 hz1 hz2 hz E.pos ⟨b, 0, none⟩ k k ((xs.take k).flatMap E.enc) htk holds ad ys.length c (ys.flatMap E.enc) (E.flat ys) hnews (by omega) (by unfold maxLen; omega) hb
      have hnew : ∀ q, v'.ownBlock = some q → w.heap.size ≤ q := fun q hq => (World.ownsRow.lt h5 q hq).1
      exact fin v' w' hrun ⟨h6.os, h6.tape, h6.output, h6.size, fun q hq _ => h6.block q hq (by simp)⟩ (ownsRow_txt (E := E) hbs h5) (.inr hnew)
end
end Go.Proofs.Ytldfnkhccaglmaa
end
section
namespace Go.Proofs.Ytldfnkhccaglmaa
theorem St.elt {α : Type} {E : Enc α} {Tr : TypeId} {v : Value} {xs : List α} {w0 w : World} {L : List Item} (hst : St w0 w L) (j : Nat) (hj : L[j]? = some (rowT Tr E v xs)) {b : Nat} (hb : v.ownBlock = some b) (n : Nat) (hm : n < xs.length) : Pt w b (n * E.size) (E.enc (xs[n]'hm)) := by
  have hown := hst.at j hj
  have hsl := hst.sl j hj
  rcases hown.2 with ⟨rfl, hl⟩ | ⟨b1, cap, cur, rfl, h1, hg, hnc, hcm, hcs, htake⟩
  · cases hb
  · obtain ⟨A, c, he, h2, h3, h4⟩ := hsl
    injection he with e1 e2 e3
    subst e1
    obtain ⟨b', off, e4, hp⟩ := h4 (by rintro rfl; simp at hm)
    injection e4 with e4
    injection e4 with e5 e6
    subst e5 e6
    simp only [Value.ownBlock, Option.some.injEq] at hb
    subst hb
    have hp' := hp n _ (List.getElem?_eq_getElem hm)
    rw [Nat.zero_add] at hp'
    exact hp'
end Go.Proofs.Ytldfnkhccaglmaa
end
section
namespace Go.Proofs.Ytldfnkhccaglmaa
section
variable {α : Type} [DecidableEq α] {a b : List α} {i : Nat}
end
end Go.Proofs.Ytldfnkhccaglmaa
end
