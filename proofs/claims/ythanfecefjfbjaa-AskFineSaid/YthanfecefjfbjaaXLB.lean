/- The library of this proof, part 2: Segments of tier 0 that are made of samples that rise. Windows of windows: small ones never fail; two samples that change places do not rise. Step by step or at once: windows of windows are the windows of the coarser tier. Rows of segments: that they may be, and what they are rolled up to. Rows of segments: which of them are asked. Rows of segments with all of tier 0. A row: its end; what it answers when a range is cut in two. Rows with all segments of tier 0, and others beside them. Two lists, place by place. -/
import Derived.Test.YthanfecefjfbjaaXLA
section
namespace Go.Proofs.Ythanfecefjfbjaa
def trS (fr : Int) (s : Sample) : Sample := ⟨s.T + fr, Int.tmod s.V 1000000000⟩
def trTo (l : List Sample) (fr : Int) (i : Nat) : List Sample := (l.take i).map (trS fr) ++ l.drop i
theorem trTo_len (l : List Sample) (fr : Int) (i : Nat) : (trTo l fr i).length = l.length := by
  unfold trTo; rw [List.length_append, List.length_map, List.length_take, List.length_drop]; omega
theorem trTo_get {l : List Sample} {fr : Int} {i : Nat} (h : i < l.length) : (trTo l fr i)[i]'(by rw [trTo_len]; exact h) = l[i] := by
  simp only [trTo]
  rw [List.getElem_append_right (by simp; omega)]
  simp [Nat.min_eq_left (Nat.le_of_lt h)]
theorem trTo_zero (l : List Sample) (fr : Int) : l = trTo l fr 0 := by simp [trTo]
theorem trTo_set {l : List Sample} {fr : Int} {i : Nat} (h : i < l.length) : (trTo l fr i).set i (trS fr l[i]) = trTo l fr (i + 1) := by
  have e : trTo l fr i = (l.take i).map (trS fr) ++ l[i] :: l.drop (i + 1) := by unfold trTo; rw [List.drop_eq_getElem_cons h]
  have hl : ((l.take i).map (trS fr)).length = i := by simp; omega
  rw [e, List.set_append, if_neg (by omega), hl, Nat.sub_self, List.set_cons_zero]
  unfold trTo
  rw [List.take_succ_eq_append_getElem h, List.map_append, List.append_assoc]; rfl
theorem trTo_step {l xs : List Sample} {fr : Int} {i : Nat} {a b : Sample} (h : i < l.length) (hx : xs = trTo l fr i) (hb : b = trS fr (xs[i]'(by rw [hx, trTo_len]; exact h))) : (xs.set i a).set i b = trTo l fr (i + 1) := by
  subst hx
  rw [List.set_set, hb, trTo_get h]; exact trTo_set h
theorem trTo_all {l : List Sample} {fr : Int} {i : Nat} (h : i = l.length) : trTo l fr i = l.map (trS fr) := by
  subst h; simp [trTo]
def mkL (nid : Int) (steps values : List Int) : List Sample := riseL (nid :: steps) values (riseN (nid :: steps) 40)
def makeS (nid fr : Int) (steps values : List Int) : SegD :=
  ⟨1 + nid % 18446744073709551616 % 1000, 0, fr, (gd ((mkL nid steps values).map (trS fr)) ((mkL nid steps values).length - 1)).T + 1 + nid % 18446744073709551616 % 7, (mkL nid steps values).map (trS fr), []⟩
theorem mkN (nid : Int) (steps : List Int) : 1 ≤ riseN (nid :: steps) 40 ∧ riseN (nid :: steps) 40 ≤ 40 ∧ riseN (nid :: steps) 40 ≤ steps.length + 1 := by
  unfold riseN; rw [List.length_cons]; omega
theorem mkL_len (nid : Int) (steps values : List Int) : (mkL nid steps values).length = riseN (nid :: steps) 40 := rise_length ..
theorem mkL_ok {nid : Int} {steps values : List Int} (hv : ∀ v ∈ values, i64R v) : ∀ s ∈ mkL nid steps values, s.ok :=
  rise_ok (riseN_le _ _) (by have := mkN nid steps; omega) hv
theorem mkL_T {nid : Int} {steps values : List Int} : ∀ s ∈ mkL nid steps values, 1 ≤ s.T ∧ s.T ≤ 1600 := by
  intro s hs
  obtain ⟨j, hj, rfl⟩ := List.getElem_of_mem hs
  have hn := mkN nid steps
  rw [mkL_len] at hj
  have h1 := tAt_r (steps := nid :: steps) (i := j + 1) (by rw [List.length_cons]; omega)
  have e : (mkL nid steps values)[j] = (⟨tAt (nid :: steps) (j + 1), vAt values j⟩ : Sample) := rise_get ..
  rw [e]; simp only []; omega
theorem getElem_eq {l m : List Sample} {i : Nat} {h : i < l.length} (e : l = m) (h' : i < m.length) : l[i] = m[i] := by subst e; rfl
theorem made_T {l xs : List Sample} {fr : Int} {i : Nat} (hT : ∀ s ∈ l, 1 ≤ s.T ∧ s.T ≤ 1600) (hx : xs = l.map (trS fr)) (h : i < xs.length) : fr + 1 ≤ (xs[i]'h).T ∧ (xs[i]'h).T ≤ fr + 1600 := by
  subst hx
  rw [List.getElem_map]
  have := hT _ (List.getElem_mem (show i < l.length by simpa using h))
  simp only [trS]; omega
theorem make_is {nid fr a b : Int} {steps values : List Int} {xs : List Sample} {n : Nat} {h : n < xs.length} (hx : xs = (mkL nid steps values).map (trS fr)) (hl : (mkL nid steps values).length = riseN (nid :: steps) 40) (hn : n = xs.length - 1) (ha : a = 1 + nid % 18446744073709551616 % 1000) (hb : b = nid % 18446744073709551616 % 7) : (⟨a, 0, fr, (xs[n]'h).T + 1 + b, xs, []⟩ : SegD) = makeS nid fr steps values := by
  subst ha; subst hb; subst hn
  unfold makeS
  have e : (mkL nid steps values).length = xs.length := by rw [hx, List.length_map]
  rw [e, ← hx, gd_eq h]
/-! ### Bits -/
theorem ofInt64 (a : Int) : (BitVec.ofInt 64 a).toNat = (a % 18446744073709551616).toNat := by
  rw [BitVec.toNat_ofInt]; rfl
theorem and15 (a : Int) : bits .and .i64 a 15 = a % 16 := by
  show IntKind.i64.wrap ((BitVec.ofInt 64 a &&& BitVec.ofInt 64 15).toNat : Int) = _
  rw [BitVec.toNat_and, ofInt64, ofInt64]
  have h : (a % 18446744073709551616).toNat &&& 15 = (a % 18446744073709551616).toNat % 16 := Nat.and_two_pow_sub_one_eq_mod _ 4
  have e : ((15 : Int) % 18446744073709551616).toNat = 15 := by decide
  rw [e, h, IntKind.wrap_i64]; omega
theorem and1 (a : Int) : bits .and .i64 a 1 = a % 2 := by
  show IntKind.i64.wrap ((BitVec.ofInt 64 a &&& BitVec.ofInt 64 1).toNat : Int) = _
  rw [BitVec.toNat_and, ofInt64, ofInt64]
  have e : ((1 : Int) % 18446744073709551616).toNat = 1 := by decide
  rw [e, Nat.and_one_is_mod, IntKind.wrap_i64]; omega
/-! ### Rows that stay as they are -/
theorem St.slm {α : Type} {E : Enc α} {w0 w : World} {L fr : List Item} (h : St w0 w L) (n : Nat) {T : Nat} {v : Value} {xs : List α} (hn : L.drop n = fr) (hm : rowT T E v xs ∈ fr) : Sl w E v xs := by
  subst hn; exact ownsRow_sl (h.all _ (List.mem_of_mem_drop hm))
def Frz (a b : Nat) (fr : List Item) (l : List Seg) : Prop := ∀ s ∈ l, rowT a sampE s.sv.1 s.d.Samples ∈ fr ∧ rowT b aggE s.av.1 s.d.Aggs ∈ fr
theorem Frz.nil {a b : Nat} {fr : List Item} : Frz a b fr [] := fun s h => nomatch h
theorem Frz.mono {a b : Nat} {fr fr' : List Item} {l : List Seg} (h : Frz a b fr l) (hs : ∀ x ∈ fr, x ∈ fr') : Frz a b fr' l := fun s hm => ⟨hs _ (h s hm).1, hs _ (h s hm).2⟩
theorem Frz.sub {a b : Nat} {fr : List Item} {l l' : List Seg} (h : Frz a b fr l) (hs : ∀ x ∈ l', x ∈ l) : Frz a b fr l' := fun s hm => h s (hs s hm)
theorem Frz.cons {a b : Nat} {fr : List Item} {l : List Seg} {s : Seg} (h : Frz a b fr l) (h1 : rowT a sampE s.sv.1 s.d.Samples ∈ fr) (h2 : rowT b aggE s.av.1 s.d.Aggs ∈ fr) : Frz a b fr (s :: l) := fun x hm => by
  rcases List.mem_cons.1 hm with rfl | hm
  · exact ⟨h1, h2⟩
  · exact h x hm
theorem Frz.segs {a b : Nat} {w0 w : World} {L fr : List Item} {l : List Seg} (h : Frz a b fr l) (hst : St w0 w L) (n : Nat) (hn : L.drop n = fr) : SegsIn w l := fun s hm => ⟨hst.slm n hn (h s hm).1, hst.slm n hn (h s hm).2⟩
/-! ### Rows of segments -/
def fiveOf (steps : List Int) (i : Nat) : List Int := (steps.drop (5 * i)).take 5
def mk0 (steps values : List Int) (i : Nat) (from_ : Int) : SegD := makeS (10 * (i : Int)) from_ (fiveOf steps i) values
def upS (s : SegD) (i : Nat) : Nat → SegD
  | 0 => s
  | k + 1 => (rollS (upS s i k) (10 * (i : Int) + (k : Int) + 2) ((k : Int) + 1)).1
def bitM (mask : Int) (i k : Nat) : Bool := decide ((mask / 2 ^ (4 * i)) % 16 / 2 ^ k % 2 = 1) || (decide ((mask / 2 ^ (4 * i)) % 16 = 0) && decide (k = 0))
def tiersM (mask : Int) (s : SegD) (i : Nat) : Nat → List SegD
  | 0 => []
  | k + 1 => tiersM mask s i k ++ (if bitM mask i k = true then [upS s i k] else [])
structure RowD where
  l : List SegD
  all : List Sample
  to : Int
def rowM (steps values : List Int) (mask : Int) : Nat → RowD
  | 0 => ⟨[], [], 0⟩
  | i + 1 => let p := rowM steps values mask i; let s := mk0 steps values i p.to; ⟨p.l ++ tiersM mask s i 4, p.all ++ s.Samples, (upS s i 3).To⟩
theorem five_snoc {steps : List Int} {i j : Nat} (h : 5 * i + j < steps.length) (hj : j < 5) : (steps.drop (5 * i)).take j ++ [steps[5 * i + j]] = (steps.drop (5 * i)).take (j + 1) := by
  rw [List.take_succ_eq_append_getElem (by rw [List.length_drop]; omega), List.getElem_drop]
theorem five_same {steps : List Int} {i j : Nat} (h : ¬ 5 * i + j < steps.length) : (steps.drop (5 * i)).take j = (steps.drop (5 * i)).take (j + 1) := by
  rw [List.take_of_length_le (by rw [List.length_drop]; omega), List.take_of_length_le (by rw [List.length_drop]; omega)]
theorem roll_to (s : SegD) (id k : Int) : (rollS s id k).1.To = s.To ∨ (rollS s id k).1.To = 0 := by
  unfold rollS rollT
  repeat' split
  all_goals first | exact Or.inl rfl | exact Or.inr rfl
theorem up_to (s : SegD) (i : Nat) : ∀ k, (upS s i k).To = s.To ∨ (upS s i k).To = 0
  | 0 => Or.inl rfl
  | k + 1 => by
    rcases roll_to (upS s i k) (10 * (i : Int) + (k : Int) + 2) ((k : Int) + 1) with h | h
    · rcases up_to s i k with h2 | h2
      · exact Or.inl (h.trans h2)
      · exact Or.inr (h.trans h2)
    · exact Or.inr h
theorem make_to {nid fr : Int} {steps values : List Int} : fr + 2 ≤ (makeS nid fr steps values).To ∧ (makeS nid fr steps values).To ≤ fr + 1610 := by
  have hn := mkN nid steps
  have hl := mkL_len nid steps values
  have h := made_T (fr := fr) (mkL_T (nid := nid) (steps := steps) (values := values)) rfl (i := (mkL nid steps values).length - 1) (by rw [List.length_map]; omega)
  rw [← gd_eq] at h
  simp only [makeS]; omega
theorem five_len (steps : List Int) (i : Nat) : (fiveOf steps i).length ≤ 5 := by unfold fiveOf; rw [List.length_take]; omega
theorem five_ok {steps : List Int} {i : Nat} (hs : ∀ v ∈ steps, i64R v) : ∀ v ∈ fiveOf steps i, i64R v := fun v h => hs v (List.mem_of_mem_drop (List.mem_of_mem_take h))
theorem make_len {nid fr : Int} {steps values : List Int} {i : Nat} {s : SegD} (h : s = makeS nid fr (fiveOf steps i) values) : 1 ≤ s.Samples.length ∧ s.Samples.length ≤ 6 := by
  have hn := mkN nid (fiveOf steps i)
  have h5 := five_len steps i
  rw [h]; simp only [makeS, List.length_map, mkL_len]; omega
theorem tiers_len (mask : Int) (s : SegD) (i : Nat) : ∀ k, (tiersM mask s i k).length ≤ k
  | 0 => Nat.le_refl _
  | k + 1 => by
    have := tiers_len mask s i k
    rw [tiersM, List.length_append]
    split <;> simp <;> omega
theorem rowM_l (steps values : List Int) (mask : Int) : ∀ i, (rowM steps values mask i).l.length ≤ 4 * i
  | 0 => Nat.le_refl _
  | i + 1 => by
    have := rowM_l steps values mask i
    have h2 := tiers_len mask (mk0 steps values i (rowM steps values mask i).to) i 4
    simp only [rowM, List.length_append]; omega
theorem rowM_all (steps values : List Int) (mask : Int) : ∀ {i : Nat}, i ≤ 4 → (rowM steps values mask i).all.length ≤ 6 * i
  | 0, _ => Nat.le_refl _
  | i + 1, h => by
    have := rowM_all steps values mask (i := i) (by omega)
    have h2 := make_len (s := mk0 steps values i (rowM steps values mask i).to) rfl
    simp only [rowM, List.length_append]; omega
theorem rowM_to (steps values : List Int) (mask : Int) : ∀ {i : Nat}, i ≤ 4 → 0 ≤ (rowM steps values mask i).to ∧ (rowM steps values mask i).to ≤ 2000 * (i : Int)
  | 0, _ => by simp [rowM]
  | i + 1, h => by
    have := rowM_to steps values mask (i := i) (by omega)
    have h2 := make_to (nid := 10 * (i : Int)) (fr := (rowM steps values mask i).to) (steps := fiveOf steps i) (values := values)
    have h3 := up_to (mk0 steps values i (rowM steps values mask i).to) i 3
    show 0 ≤ (upS (mk0 steps values i (rowM steps values mask i).to) i 3).To ∧ (upS (mk0 steps values i (rowM steps values mask i).to) i 3).To ≤ _
    simp only [mk0] at h3 ⊢
    omega
theorem row_zl {steps values : List Int} {mask : Int} {zs : List Seg} {s : SegD} {i k : Nat} (h : zs.map Seg.d = (rowM steps values mask i).l ++ tiersM mask s i k) : zs.length ≤ 4 * i + k := by
  have := congrArg List.length h
  rw [List.length_map, List.length_append] at this
  have h1 := rowM_l steps values mask i
  have h2 := tiers_len mask s i k
  omega
theorem tiers_yes {P : List SegD} {mask : Int} {zs : List Seg} {s : SegD} {sg : Seg} {i k : Nat} (h : zs.map Seg.d = P ++ tiersM mask s i k) (hsg : sg.d = upS s i (min k 3)) (hk : k < 4) (hb : bitM mask i k = true) : (zs ++ [sg]).map Seg.d = P ++ tiersM mask s i (k + 1) := by
  rw [show min k 3 = k by omega] at hsg
  rw [List.map_append, h, tiersM, if_pos hb, ← hsg, List.append_assoc]; rfl
theorem tiers_no {P : List SegD} {mask : Int} {zs : List Seg} {s : SegD} {i k : Nat} (h : zs.map Seg.d = P ++ tiersM mask s i k) (hb : bitM mask i k = false) : zs.map Seg.d = P ++ tiersM mask s i (k + 1) := by
  rw [h, tiersM, if_neg (by rw [hb]; decide), List.append_nil]
theorem up_step {s : SegD} {sg r : Seg} {i k : Nat} (hsg : sg.d = upS s i (min k 3)) (hd : r.d = (rollS (gd [sg] 0).d (10 * (i : Int) + (k : Int) + 2) ((k : Int) + 1)).1) (hk : k < 3) : r.d = upS s i (min (k + 1) 3) := by
  rw [show min k 3 = k by omega] at hsg
  rw [show min (k + 1) 3 = k + 1 by omega, hd]
  show (rollS sg.d _ _).1 = _
  rw [hsg]; rfl
theorem up_same {s : SegD} {sg : Seg} {i k : Nat} (hsg : sg.d = upS s i (min k 3)) (hk : ¬ k < 3) : sg.d = upS s i (min (k + 1) 3) := by
  rw [hsg, show min (k + 1) 3 = min k 3 by omega]
theorem make_ok {nid fr : Int} {steps values : List Int} (h0 : 0 ≤ fr) (h1 : fr ≤ 1000000000) (hv : ∀ v ∈ values, i64R v) : (makeS nid fr steps values).ok := by
  have ht := make_to (nid := nid) (fr := fr) (steps := steps) (values := values)
  refine ⟨?_, by simp [makeS, i64R], ?_, ?_, ?_, fun x h => nomatch h⟩
  · simp only [makeS, i64R]; omega
  · simp only [makeS, i64R]; omega
  · simp only [i64R]; omega
  · intro x hx
    simp only [makeS, List.mem_map] at hx
    obtain ⟨y, hy, rfl⟩ := hx
    have h2 := mkL_T y hy
    have h3 := (mkL_ok (nid := nid) (steps := steps) hv y hy).2
    refine ⟨?_, ?_⟩
    · simp only [trS]; omega
    · simp only [trS]
      have := tmod_small y.V
      omega
theorem zs_in {zs : List Seg} {sg : Seg} : ∀ x ∈ zs ++ [sg], x ∈ sg :: zs := fun x h => by
  rcases List.mem_append.1 h with h | h
  · exact List.mem_cons_of_mem _ h
  · obtain rfl := List.mem_singleton.1 h; exact List.mem_cons_self ..
theorem zs_in2 {zs : List Seg} {sg : Seg} : ∀ x ∈ sg :: (zs ++ [sg]), x ∈ sg :: zs := fun x h => by
  rcases List.mem_cons.1 h with rfl | h
  · exact List.mem_cons_self ..
  · exact zs_in x h
theorem row_next {steps values : List Int} {mask : Int} {zs : List Seg} {i k : Nat} (h : zs.map Seg.d = (rowM steps values mask i).l ++ tiersM mask (mk0 steps values i (rowM steps values mask i).to) i k) (hk : k = 4) : zs.map Seg.d = (rowM steps values mask (i + 1)).l := by
  subst hk; exact h
theorem downL_ok {k : Int} : ∀ (l out : List Agg), (∀ a ∈ l, a.ok) → (∀ a ∈ out, a.ok) → ∀ a ∈ (downL k l out).1, a.ok
  | [], out, _, ho => ho
  | a :: l, out, hl, ho => by
    have hak := atK_ok (k := k) (hl a (List.mem_cons_self ..))
    have hl' := fun x hx => hl x (List.mem_cons_of_mem _ hx)
    rw [downL]
    split
    · exact downL_ok l _ hl' (snoc_okA ho hak)
    · rename_i x hx
      split
      · split
        · refine downL_ok l _ hl' fun y hy => ?_
          rcases List.mem_or_eq_of_mem_set hy with h | rfl
          · exact ho y h
          · exact joinA_ok (ho x (List.mem_of_getLast? hx)) hak
        · exact nil_okA
      · exact downL_ok l _ hl' (snoc_okA ho hak)
theorem downA_ok {l : List Agg} {k : Int} (hl : ∀ s ∈ l, s.ok) : ∀ a ∈ (downA l k).1, a.ok := by
  unfold downA
  split
  · exact downL_ok _ _ hl nil_okA
  · exact nil_okA
theorem rollT_ok {s : SegD} {id k : Int} {r : List Agg × Int} (h : s.ok) (hi : i64R id) (hk : i64R k) (hr : ∀ a ∈ r.1, a.ok) : (rollT s id k r).1.ok := by
  have hz : zeroS.ok := by decide
  unfold rollT
  split
  · exact hz
  split
  · exact hz
  · exact ⟨hi, hk, h.2.2.1, h.2.2.2.1, (by intro x hx; cases hx), hr⟩
theorem roll_ok2 {s : SegD} {id k : Int} (h : s.ok) (hi : i64R id) (hk : i64R k) : (rollS s id k).1.ok := by
  have hz : zeroS.ok := by decide
  unfold rollS
  split
  · exact hz
  split
  · refine rollT_ok h hi hk ?_
    split
    · exact rawA_ok h.2.2.2.2.1
    · exact downA_ok h.2.2.2.2.2
  · exact hz
theorem roll_okD {sg : Seg} {id k : Int} (h : sg.d.ok) (hi0 : -9223372036854775808 ≤ id) (hi1 : id ≤ 9223372036854775807) (hk0 : -9223372036854775808 ≤ k) (hk1 : k ≤ 9223372036854775807) : (rollS (gd [sg] 0).d id k).1.ok := roll_ok2 (s := sg.d) h ⟨hi0, hi1⟩ ⟨hk0, hk1⟩
end Go.Proofs.Ythanfecefjfbjaa
end
section
namespace Go.Proofs.Ythanfecefjfbjaa
abbrev Fine (a : Agg) : Prop := mayP a ∧ Wn a
theorem fine_J {a b : Agg} (ha : Fine a) (hb : Fine b) (h : a.Count + b.Count ≤ 1000000) : joinA a b = (J a b, 0) ∧ Fine (J a b) := by
  have h1 := J_may ha.1 hb.1 (by omega)
  obtain ⟨_, a1, a2, a3⟩ := ha
  obtain ⟨_, b1, b2, b3⟩ := hb
  rcases joinA_may (a := a) (b := b) (by assumption) (by assumption) (by omega) with ⟨h2, _⟩ | ⟨_, h2⟩
  · refine ⟨h2, h1, ?_⟩
    simp only [Wn, J]; omega
  · exfalso; simp only [i64R] at h2; omega
theorem fine_at {a : Agg} {k : Int} (h0 : 0 < k) (h4 : k < 4) (h : Fine a) : Fine (atK a k) := by
  have hf := floor_nn (t := a.From) h0 h4 (by have := h.1; omega) (by have := h.1; omega)
  obtain ⟨⟨c1, c2, c3, c4, c5⟩, hw⟩ := h
  exact ⟨⟨c1, c2, hf.1, by simp only [atK]; omega, c5⟩, hw⟩
theorem len_pos_of_cnt {A : List Agg} (h : 0 < cntA A) : 0 < A.length := by
  cases A with
  | nil => simp [cntA] at h
  | cons a A => simp
end Go.Proofs.Ythanfecefjfbjaa
end
section
namespace Go.Proofs.Ythanfecefjfbjaa
theorem atK_agg (fr k : Int) {l : List Sample} (h : 0 < l.length) : atK (aggL fr l) k = aggL (floorA fr k) l := by
  have key : ∀ (l : List Sample) (a b : Agg), a.Count = b.Count → a.Sum = b.Sum → a.Min = b.Min → a.Max = b.Max → a.First = b.First → a.Last = b.Last →
      (accL a l).Count = (accL b l).Count ∧ (accL a l).Sum = (accL b l).Sum ∧ (accL a l).Min = (accL b l).Min ∧ (accL a l).Max = (accL b l).Max ∧ (accL a l).First = (accL b l).First ∧ (accL a l).Last = (accL b l).Last := by
    intro l
    induction l with
    | nil => intro a b h1 h2 h3 h4 h5 h6; exact ⟨h1, h2, h3, h4, h5, h6⟩
    | cons s l ih =>
      intro a b h1 h2 h3 h4 h5 h6
      rw [accL, accL]
      exact ih _ _ (by simp only [stepA]; omega) (by simp only [stepA]; omega) (by simp only [stepA]; omega) (by simp only [stepA]; omega) h5 rfl
  cases l with
  | nil => simp at h
  | cons s l =>
    obtain ⟨h1, h2, h3, h4, h5, h6⟩ := key l (oneA s.V fr) (oneA s.V (floorA fr k)) rfl rfl rfl rfl rfl rfl
    have f1 := (accL_facts l (oneA s.V fr)).1
    have f2 := (accL_facts l (oneA s.V (floorA fr k))).1
    rw [agg_iff]
    simp only [atK, aggL]
    exact ⟨by rw [f1, f2], h1, h2, h3, h4, h5, h6⟩
theorem J_at (a b : Agg) (k : Int) : J a (atK b k) = J a b := rfl
theorem winLen_all {k F : Int} : ∀ (p l : List Sample), (∀ s ∈ p, floorA s.T k = F) → (∀ s r, l = s :: r → ¬ floorA s.T k = F) → winLen k F (p ++ l) = p.length
  | [], [], _, _ => rfl
  | [], s :: r, _, hl => by rw [List.nil_append, winLen, if_neg (hl s r rfl)]; rfl
  | s :: p, l, hp, hl => by
    rw [List.cons_append, winLen, if_pos (hp s (List.mem_cons_self ..)), winLen_all p l (fun x hx => hp x (List.mem_cons_of_mem _ hx)) hl]; rfl
theorem win_floor {k F : Int} : ∀ (l : List Sample), ∀ s ∈ l.take (winLen k F l), floorA s.T k = F
  | [], s, h => by simp at h
  | x :: l, s, h => by
    rw [winLen] at h
    split at h
    · rename_i hx
      rw [List.take_succ_cons] at h
      rcases List.mem_cons.1 h with rfl | h
      · exact hx
      · exact win_floor l s h
    · simp at h
theorem wins_cut {k F : Int} {f : Nat} {p l : List Sample} (hp : 0 < p.length) (hf : (p ++ l).length ≤ f) (hF : ∀ s ∈ p, floorA s.T k = F) (hl : ∀ s r, l = s :: r → ¬ floorA s.T k = F) : wins k f (p ++ l) = aggL F p :: wins k (f - 1) l := by
  cases p with
  | nil => simp at hp
  | cons s p =>
    cases f with
    | zero => simp at hf
    | succ f =>
      have e := hF s (List.mem_cons_self ..)
      have hw := winLen_all (s :: p) l hF hl
      rw [List.cons_append] at hw ⊢
      rw [wins, e, hw]
      simp
abbrev Up (k k' : Int) : Prop := ∀ t, 0 ≤ t → t ≤ 1099511627776 → floorA (floorA t k) k' = floorA t k'
theorem up_w {k k' : Int} (h : (k = 1 ∧ k' = 2) ∨ (k = 2 ∧ k' = 3)) : Up k k' := by
  intro t h0 h1
  rcases h with ⟨rfl, rfl⟩ | ⟨rfl, rfl⟩
  · rw [floor_eq (t := t) (k := 1) (w := 5) rfl (by decide) h0 h1, floor_eq (t := t) (k := 2) (w := 60) rfl (by decide) h0 h1, floor_eq (t := t - t % 5) (k := 2) (w := 60) rfl (by decide) (by omega) (by omega)]; omega
  · rw [floor_eq (t := t) (k := 2) (w := 60) rfl (by decide) h0 h1, floor_eq (t := t) (k := 3) (w := 1440) rfl (by decide) h0 h1, floor_eq (t := t - t % 60) (k := 3) (w := 1440) rfl (by decide) (by omega) (by omega)]; omega
theorem fine_agg {fr : Int} {p : List Sample} (f0 : 0 ≤ fr) (f1 : fr ≤ 1099511627776) (h : 0 < p.length) (hn : p.length ≤ 1000000) (hs : ∀ s ∈ p, smallS s) : Fine (aggL fr p) := by
  refine ⟨(all_fine f0 f1 h hn hs).2, ?_⟩
  have hb := sumS_bound p hs
  unfold Wn
  rw [aggL_count, aggL_sum]
  omega
theorem down_wins {k k' : Int} (h0 : 0 < k) (h4 : k < 4) (h0' : 0 < k') (h4' : k' < 4) (hup : Up k k') : ∀ (f : Nat) (l p : List Sample) (F : Int) (out : List Agg) (g : Nat), l.length ≤ f → (p ++ l).length ≤ g → (p ++ l).length ≤ 1000000 → 0 < p.length →
    (∀ s ∈ p, floorA s.T k' = F) → (∀ s ∈ p ++ l, 0 ≤ s.T ∧ s.T ≤ 1099511627776) → (∀ s ∈ p ++ l, smallS s) → downL k' (wins k f l) (out ++ [aggL F p]) = (out ++ wins k' g (p ++ l), 0)
  | 0, l, p, F, out, g, hf, hg, hn, hp, hF, hT, hs => by
    obtain rfl := List.length_eq_zero_iff.1 (by omega : l.length = 0)
    rw [wins_cut hp hg hF (by intro s r h; cases h)]
    have : wins k' (g - 1) [] = [] := by cases g - 1 <;> rfl
    rw [this]; rfl
  | f + 1, [], p, F, out, g, hf, hg, hn, hp, hF, hT, hs => by
    rw [wins_cut hp hg hF (by intro s r h; cases h)]
    have : wins k' (g - 1) [] = [] := by cases g - 1 <;> rfl
    rw [this]; rfl
  | f + 1, s :: l, p, F, out, g, hf, hg, hn, hp, hF, hT, hs => by
    have hsT := hT s (List.mem_append_right _ (List.mem_cons_self ..))
    have hfl := floor_nn h0 h4 hsT.1 hsT.2
    have hpn : 0 < winLen k (floorA s.T k) (s :: l) := by simp [winLen]
    have hle := winLen_le k (floorA s.T k) (s :: l)
    have hwf := win_floor (k := k) (F := floorA s.T k) (s :: l)
    rw [wins]
    generalize winLen k (floorA s.T k) (s :: l) = n at *
    have e := List.take_append_drop n (s :: l)
    have e1 : ((s :: l).take n).length = n := by rw [List.length_take]; omega
    have e2 : ((s :: l).drop n).length = (s :: l).length - n := List.length_drop
    have hl1 : (p ++ s :: l).length = p.length + (s :: l).length := List.length_append
    have hG : floorA (floorA s.T k) k' = floorA s.T k' := hup s.T hsT.1 hsT.2
    have hwG : ∀ x ∈ (s :: l).take n, floorA x.T k' = floorA s.T k' := by
      intro x hx
      have hxT := hT x (List.mem_append_right _ (List.mem_of_mem_take hx))
      rw [← hup x.T hxT.1 hxT.2, hwf x hx, hG]
    have hgt : (out ++ [aggL F p]).getLast? = some (aggL F p) := by simp
    have hFp : F = floorA (p[0]'hp).T k' := (hF _ (List.getElem_mem hp)).symm
    have hp0 := hT _ (List.mem_append_left _ (List.getElem_mem hp))
    have hFr := floor_nn h0' h4' hp0.1 hp0.2
    rw [downL, hgt]
    simp only []
    rw [aggL_from F hp, aggL_from (floorA s.T k) (l := (s :: l).take n) (by omega), hG]
    by_cases hc : F = floorA s.T k'
    · rw [if_pos hc]
      have hfa : Fine (aggL F p) := fine_agg (by omega) (by omega) hp (by omega) fun x hx => hs x (List.mem_append_left _ hx)
      have hfb : Fine (aggL (floorA s.T k) ((s :: l).take n)) := fine_agg hfl.1 (by omega) (by omega) (by omega) fun x hx => hs x (List.mem_append_right _ (List.mem_of_mem_take hx))
      have hfb' := fine_at h0' h4' hfb
      have c1 : (aggL F p).Count = (p.length : Int) := aggL_count F
      have c2 : (atK (aggL (floorA s.T k) ((s :: l).take n)) k').Count = (n : Int) := by
        show (aggL (floorA s.T k) ((s :: l).take n)).Count = _
        rw [aggL_count, e1]
      obtain ⟨j1, _⟩ := fine_J hfa hfb' (by rw [c1, c2]; omega)
      rw [j1, if_pos rfl]
      simp only []
      have hset : (out ++ [aggL F p]).set ((out ++ [aggL F p]).length - 1) (J (aggL F p) (atK (aggL (floorA s.T k) ((s :: l).take n)) k')) = out ++ [aggL F (p ++ (s :: l).take n)] := by
        rw [J_at, ← aggL_append F (floorA s.T k) (by intro h; rw [h] at hp; simp at hp) (by intro h; rw [h] at e1; simp at e1; omega)]
        simp
      rw [hset, down_wins h0 h4 h0' h4' hup f ((s :: l).drop n) (p ++ (s :: l).take n) F out g (by rw [e2]; simp only [List.length_cons] at hf ⊢; omega) (by rw [List.append_assoc, e]; exact hg) (by rw [List.append_assoc, e]; exact hn) (by rw [List.length_append]; omega)
        (fun x hx => (List.mem_append.1 hx).elim (fun h => hF x h) (fun h => by rw [hwG x h, hc])) (by rw [List.append_assoc, e]; exact hT) (by rw [List.append_assoc, e]; exact hs), List.append_assoc, e]
    · rw [if_neg hc, atK_agg _ _ (by omega), hG]
      rw [down_wins h0 h4 h0' h4' hup f ((s :: l).drop n) ((s :: l).take n) (floorA s.T k') (out ++ [aggL F p]) (g - 1) (by rw [e2]; simp only [List.length_cons] at hf ⊢; omega) (by rw [e]; omega) (by rw [e]; omega) (by omega) hwG
        (by rw [e]; exact fun x hx => hT x (List.mem_append_right _ hx)) (by rw [e]; exact fun x hx => hs x (List.mem_append_right _ hx)), e]
      rw [wins_cut hp hg hF (by intro y r h; simp only [List.cons.injEq] at h; rw [← h.1]; exact fun q => hc q.symm), List.append_assoc]; rfl
theorem steps_once {l : List Sample} {k k' : Int} (hk : (k = 1 ∧ k' = 2) ∨ (k = 2 ∧ k' = 3)) (hr : risingA l = true) (hn : l.length ≤ 1000000) (hs : ∀ s ∈ l, smallS s) : downA (rawA l k).1 k' = rawA l k' ∧ (rawA l k').2 = 0 := by
  have ha := asc_of l (-1) (by omega) hr
  have r1 := raw_rising (k := k) (by omega) (by omega) hr hn hs
  have r2 := raw_rising (k := k') (by omega) (by omega) hr hn hs
  refine ⟨?_, r2.1⟩
  have hc : coarseA k = true := by simp only [coarseA, decide_eq_true_eq]; omega
  have hc' : coarseA k' = true := by simp only [coarseA, decide_eq_true_eq]; omega
  have hkk : k' - 1 = k := by omega
  obtain ⟨i1, _⟩ := wins_all (k := k) (by omega) (by omega) l.length l (-1) (Nat.le_refl _) hn ha.1 hs (fun s h => by have := floor_nn (t := s.T) (k := k) (by omega) (by omega) (ha.1.2 s h).1 (ha.1.2 s h).2; omega)
  obtain ⟨i2, _⟩ := wins_all (k := k') (by omega) (by omega) l.length l (-1) (Nat.le_refl _) hn ha.1 hs (fun s h => by have := floor_nn (t := s.T) (k := k') (by omega) (by omega) (ha.1.2 s h).1 (ha.1.2 s h).2; omega)
  have e1 : rawA l k = (wins k l.length l, 0) := by unfold rawA; rw [if_pos ⟨hr, hc⟩, i1]; rfl
  have e2 : rawA l k' = (wins k' l.length l, 0) := by unfold rawA; rw [if_pos ⟨hr, hc'⟩, i2]; rfl
  have hal := r1.2.1
  rw [e1] at hal ⊢
  rw [e2]
  unfold downA
  rw [hkk, if_pos ⟨by omega, hal, hc'⟩]
  cases l with
  | nil => rfl
  | cons s l =>
    have hsT := ha.1.2 s (List.mem_cons_self ..)
    have hfl := floor_nn (k := k) (by omega) (by omega) hsT.1 hsT.2
    have hup := up_w hk
    have hpn : 0 < winLen k (floorA s.T k) (s :: l) := by simp [winLen]
    have hle := winLen_le k (floorA s.T k) (s :: l)
    have hwf := win_floor (k := k) (F := floorA s.T k) (s :: l)
    simp only [List.length_cons] at hle hn ⊢
    rw [wins]
    generalize winLen k (floorA s.T k) (s :: l) = n at *
    have e := List.take_append_drop n (s :: l)
    have el : ((s :: l).take n).length = n := by rw [List.length_take]; simp only [List.length_cons]; omega
    have ed : ((s :: l).drop n).length = (s :: l).length - n := List.length_drop
    simp only [List.length_cons] at ed
    have hG : floorA (floorA s.T k) k' = floorA s.T k' := hup s.T hsT.1 hsT.2
    have hwG : ∀ x ∈ (s :: l).take n, floorA x.T k' = floorA s.T k' := by
      intro x hx
      have hxT := ha.1.2 x (List.mem_of_mem_take hx)
      rw [← hup x.T hxT.1 hxT.2, hwf x hx, hG]
    have hd := down_wins (k := k) (k' := k') (by omega) (by omega) (by omega) (by omega) hup l.length ((s :: l).drop n) ((s :: l).take n) (floorA s.T k') [] (l.length + 1) (by omega) (by rw [e]; simp) (by rw [e]; simp only [List.length_cons]; omega) (by omega) hwG (by rw [e]; exact ha.1.2) (by rw [e]; exact hs)
    rw [e] at hd
    rw [downL]
    simp only [List.getLast?_nil]
    rw [atK_agg _ _ (by omega), hG]
    simpa using hd
end Go.Proofs.Ythanfecefjfbjaa
end
section
namespace Go.Proofs.Ythanfecefjfbjaa
theorem mk_risingL {nid fr : Int} {steps values : List Int} (h0 : 0 ≤ fr) (h1 : fr ≤ 1000000000) : risingA ((mkL nid steps values).map (trS fr)) = true := by
  have hn := mkN nid steps
  have hl := mkL_len nid steps values
  have hg : ∀ j (h : j < ((mkL nid steps values).map (trS fr)).length), (((mkL nid steps values).map (trS fr))[j]'h).T = tAt (nid :: steps) (j + 1) + fr := fun j h => by
    rw [List.getElem_map]
    have : (mkL nid steps values)[j]'(by simpa using h) = (⟨tAt (nid :: steps) (j + 1), vAt values j⟩ : Sample) := rise_get ..
    rw [this]; rfl
  refine rises_of _ _ (fun j h => ?_) (fun i j hi h => ?_)
  · have e := hg j h
    rw [List.length_map, hl] at h
    have h2 := tAt_r (steps := nid :: steps) (i := j + 1) (by rw [List.length_cons]; omega)
    omega
  · rw [hg, hg]
    rw [List.length_map, hl] at h
    have := tAt_lt (steps := nid :: steps) (i := i + 1) (j := j + 1) (by omega) (by rw [List.length_cons]; omega)
    omega
theorem mk_rising {nid fr : Int} {steps values : List Int} (h0 : 0 ≤ fr) (h1 : fr ≤ 1000000000) : risingA (makeS nid fr steps values).Samples = true := mk_risingL h0 h1
theorem mk_small {nid fr : Int} {steps values : List Int} : ∀ s ∈ (makeS nid fr steps values).Samples, smallS s := by
  intro s hs
  simp only [makeS, List.mem_map] at hs
  obtain ⟨y, _, rfl⟩ := hs
  have := tmod_small y.V
  simp only [smallS, trS]; omega
theorem wins_from {k : Int} : ∀ (f : Nat) (l : List Sample), ∀ a ∈ wins k f l, ∃ s ∈ l, a.From = floorA s.T k
  | 0, _, a, h => nomatch h
  | f + 1, [], a, h => nomatch h
  | f + 1, s :: l, a, h => by
    rw [wins] at h
    rcases List.mem_cons.1 h with rfl | h
    · have hp := win_pos (k := k) (l := s :: l) (by simp)
      simp only [List.getElem_cons_zero] at hp
      exact ⟨s, List.mem_cons_self .., aggL_from _ (by rw [List.length_take, List.length_cons]; omega)⟩
    · obtain ⟨x, hx, e⟩ := wins_from f _ a h
      exact ⟨x, List.mem_of_mem_drop hx, e⟩
theorem raw_wins {l : List Sample} {k : Int} (h0 : 0 < k) (h4 : k < 4) (hr : risingA l = true) (hn : l.length ≤ 1000000) (hs : ∀ s ∈ l, smallS s) : (rawA l k).1 = wins k l.length l := by
  have ha := asc_of l (-1) (by omega) hr
  obtain ⟨i1, _⟩ := wins_all h0 h4 l.length l (-1) (Nat.le_refl _) hn ha.1 hs (fun s h => by have := floor_nn h0 h4 (ha.1.2 s h).1 (ha.1.2 s h).2; omega)
  have hc : coarseA k = true := by simp only [coarseA, decide_eq_true_eq]; omega
  unfold rawA
  rw [if_pos ⟨hr, hc⟩, i1]; simp
theorem raw_from {l : List Sample} {k : Int} (h0 : 0 < k) (h4 : k < 4) (hr : risingA l = true) (hn : l.length ≤ 1000000) (hs : ∀ s ∈ l, smallS s) : ∀ a ∈ (rawA l k).1, ∃ s ∈ l, a.From = floorA s.T k := by
  rw [raw_wins h0 h4 hr hn hs]; exact wins_from _ _
theorem make_may {nid fr : Int} {steps values : List Int} (h0 : 0 ≤ fr) (h1 : fr ≤ 1000000000) : mayS (makeS nid fr steps values) = true := by
  have ht := make_to (nid := nid) (fr := fr) (steps := steps) (values := values)
  have hl := mkL_len nid steps values
  have hn := mkN nid steps
  have hlen : (makeS nid fr steps values).Samples.length = riseN (nid :: steps) 40 := by simp only [makeS, List.length_map, hl]
  have hT : ∀ i (h : i < (makeS nid fr steps values).Samples.length), fr + 1 ≤ (gd (makeS nid fr steps values).Samples i).T ∧ (gd (makeS nid fr steps values).Samples i).T ≤ fr + 1600 := fun i h => by
    rw [gd_eq h]; exact made_T (mkL_T (nid := nid) (steps := steps) (values := values)) rfl h
  refine may_iff.2 ⟨headS_yes ?_, Or.inl ⟨rfl, mayRaw_iff.2 ⟨rfl, by omega, by omega, mk_rising h0 h1, ?_, ?_⟩⟩⟩
  · have e1 : (makeS nid fr steps values).Id = 1 + nid % 18446744073709551616 % 1000 := rfl
    have e2 : (makeS nid fr steps values).Tier = 0 := rfl
    have e3 : (makeS nid fr steps values).From = fr := rfl
    omega
  · have := hT 0 (by omega)
    show fr ≤ _; omega
  · have e : (makeS nid fr steps values).To = (gd (makeS nid fr steps values).Samples ((mkL nid steps values).length - 1)).T + 1 + nid % 18446744073709551616 % 7 := rfl
    rw [hlen, e, hl]; omega
def atT (s : SegD) (i k : Nat) : SegD := if k = 0 then s else ⟨10 * (i : Int) + (k : Int) + 1, (k : Int), s.From, s.To, [], (rawA s.Samples (k : Int)).1⟩
theorem atT_may {s : SegD} {i k : Nat} (h : mayS s = true) (ht : s.Tier = 0) (hs : ∀ x ∈ s.Samples, smallS x) (hi : i < 1000) (hk : k < 4) : mayS (atT s i k) = true := by
  unfold atT
  split
  · exact h
  rename_i h0
  obtain ⟨g1, g2⟩ := may_iff.1 h
  have g1 := headS_iff.1 g1
  rcases g2 with ⟨_, g2⟩ | ⟨g2, _⟩
  · obtain ⟨_, a1, a2, a3, a4, a5⟩ := mayRaw_iff.1 g2
    have hr := raw_rising (l := s.Samples) (k := (k : Int)) (by omega) (by omega) a3 (by omega) hs
    have hf := raw_from (l := s.Samples) (k := (k : Int)) (by omega) (by omega) a3 (by omega) hs
    have hlen := rawA_len s.Samples (k : Int)
    have hpos : 0 < (rawA s.Samples (k : Int)).1.length := len_pos_of_cnt (by unfold cntA; rw [hr.2.2.1]; omega)
    have hasc := (asc_of s.Samples (-1) (by decide) a3).1
    have hb : ∀ x ∈ s.Samples, s.From ≤ x.T ∧ x.T < s.To := fun x hx => by
      obtain ⟨j, hj, rfl⟩ := List.mem_iff_getElem.1 hx
      have hp := List.pairwise_iff_getElem.1 hasc.1
      rw [gd_eq (by omega)] at a4 a5
      constructor
      · by_cases e : j = 0
        · subst e; exact a4
        · have := hp 0 j (by omega) hj (by omega); omega
      · by_cases e : j = s.Samples.length - 1
        · subst e; exact a5
        · have := hp j (s.Samples.length - 1) hj (by omega) (by omega); omega
    refine may_iff.2 ⟨headS_yes (by simp only []; omega), Or.inr ⟨by simp only []; omega, mayUp_iff.2 ⟨rfl, hpos, by simp only []; omega, hr.2.1, ?_, ?_⟩⟩⟩
    · simp only []
      rw [gd_eq hpos]
      obtain ⟨x, hx, e⟩ := hf _ (List.getElem_mem hpos)
      rw [e]
      have := hb x hx
      exact floor_mono (by omega) (by omega) (by omega) this.1 (by omega)
    · simp only []
      rw [gd_eq (by omega)]
      obtain ⟨x, hx, e⟩ := hf _ (List.getElem_mem (show (rawA s.Samples (k : Int)).1.length - 1 < (rawA s.Samples (k : Int)).1.length by omega))
      rw [e]
      have := hb x hx
      have := floor_nn (t := x.T) (k := (k : Int)) (by omega) (by omega) (by omega) (by omega)
      omega
  · exact absurd ht g2
theorem up_is {s : SegD} {i : Nat} (h : mayS s = true) (ht : s.Tier = 0) (hs : ∀ x ∈ s.Samples, smallS x) (hi : i < 1000) : ∀ {k : Nat}, k < 4 → upS s i k = atT s i k
  | 0, _ => rfl
  | k + 1, hk => by
    have ih := up_is h ht hs hi (k := k) (by omega)
    have hm := atT_may h ht hs hi (k := k) (by omega)
    obtain ⟨_, g2⟩ := may_iff.1 h
    rcases g2 with ⟨_, g2⟩ | ⟨g2, _⟩
    · obtain ⟨_, a1, a2, a3, _, _⟩ := mayRaw_iff.1 g2
      have hr := raw_rising (l := s.Samples) (k := ((k + 1 : Nat) : Int)) (by omega) (by omega) a3 (by omega) hs
      have hlen := rawA_len s.Samples ((k + 1 : Nat) : Int)
      have htk : (atT s i k).Tier = ((k : Int) + 1) - 1 := by
        unfold atT; split
        · rw [ht]; omega
        · simp only []; omega
      have hx : (if (k : Int) + 1 = 1 then rawA (atT s i k).Samples 1 else downA (atT s i k).Aggs ((k : Int) + 1)) = rawA s.Samples ((k + 1 : Nat) : Int) := by
        by_cases e : k = 0
        · subst e; rfl
        · rw [if_neg (by omega)]
          unfold atT; rw [if_neg e]
          have := (steps_once (l := s.Samples) (k := (k : Int)) (k' := ((k + 1 : Nat) : Int)) (by omega) a3 (by omega) hs).1
          exact this
      have hft : (atT s i k).From = s.From ∧ (atT s i k).To = s.To := by unfold atT; split <;> exact ⟨rfl, rfl⟩
      show (rollS (upS s i k) _ _).1 = _
      rw [ih]
      unfold rollS rollT
      rw [if_neg (by omega), if_pos ⟨hm, htk⟩, hx, if_neg (fun c => c hr.1), if_neg (by omega), hft.1, hft.2]
      unfold atT
      rw [if_neg (by omega)]
      congr 1 <;> first | rfl | omega
    · exact absurd ht g2
end Go.Proofs.Ythanfecefjfbjaa
end
section
namespace Go.Proofs.Ythanfecefjfbjaa
theorem step_new {best : List Info} {i : Info} (h : ∀ x ∈ best, ¬ (x.From = i.From ∧ x.To = i.To)) : stepP best i = best ++ [i] := by
  unfold stepP
  rw [if_pos]
  by_cases c : idxI (fun y => decide (y.From = i.From ∧ y.To = i.To)) best < 0
  · exact c
  · obtain ⟨hk, hp⟩ := idx_some c
    exact absurd (of_decide_eq_true hp) (h _ (List.getElem_mem hk))
theorem step_keep {best : List Info} {i : Info} (h : ∃ x ∈ best, x.From = i.From ∧ x.To = i.To) (hf : ∀ x ∈ best, x.From = i.From ∧ x.To = i.To → fineI i x = false) : stepP best i = best := by
  obtain ⟨x, hx, he⟩ := h
  unfold stepP
  by_cases c : idxI (fun y => decide (y.From = i.From ∧ y.To = i.To)) best < 0
  · have := idx_none_iff c x hx
    rw [decide_eq_true he] at this; cases this
  · obtain ⟨hk, hp⟩ := idx_some c
    rw [if_neg c, if_neg]
    rw [gd_eq hk, hf _ (List.getElem_mem hk) (of_decide_eq_true hp)]; decide
theorem best_append (l r : List Info) : bestP (l ++ r) = r.foldl stepP (bestP l) := by unfold bestP; rw [List.foldl_append]
def firstM (mask : Int) (i : Nat) : Nat → Option Nat
  | 0 => none
  | k + 1 => match firstM mask i k with
    | some j => some j
    | none => if bitM mask i k = true then some k else none
theorem firstM_lt {mask : Int} {i : Nat} : ∀ {k j : Nat}, firstM mask i k = some j → j < k ∧ bitM mask i j = true
  | 0, j, h => by simp [firstM] at h
  | k + 1, j, h => by
    rw [firstM] at h
    cases e : firstM mask i k with
    | some x => rw [e] at h; obtain rfl := Option.some.inj h; have := firstM_lt e; exact ⟨by omega, this.2⟩
    | none =>
      rw [e] at h
      simp only [] at h
      split at h
      · obtain rfl := Option.some.inj h; exact ⟨by omega, by assumption⟩
      · cases h
abbrev firstL (s : SegD) (mask : Int) (i k : Nat) : List SegD := match firstM mask i k with
  | some j => [atT s i j]
  | none => []
theorem atT_info {s : SegD} {i k : Nat} (hid : s.Id = 10 * (i : Int) + 1) (ht : s.Tier = 0) : infoOf (atT s i k) = ⟨10 * (i : Int) + (k : Int) + 1, (k : Int), s.From, s.To, 0⟩ := by
  unfold atT infoOf
  split
  · rename_i h; subst h; rw [hid, ht]; simp
  · rfl
theorem tiers_best {s : SegD} {mask : Int} {i : Nat} {B : List Info} (h : mayS s = true) (ht : s.Tier = 0) (hid : s.Id = 10 * (i : Int) + 1) (hs : ∀ x ∈ s.Samples, smallS x) (hi : i < 1000) (hB : ∀ x ∈ B, ¬ (x.From = s.From ∧ x.To = s.To)) :
    ∀ {k : Nat}, k ≤ 4 → (infosOf (tiersM mask s i k)).foldl stepP B = B ++ infosOf (firstL s mask i k)
  | 0, _ => by simp [tiersM, infosOf, firstL, firstM]
  | k + 1, hk => by
    have ih := tiers_best (mask := mask) h ht hid hs hi hB (k := k) (by omega)
    have hu := up_is h ht hs hi (k := k) (by omega)
    rw [tiersM]
    unfold infosOf at ih ⊢
    rw [List.map_append, List.foldl_append, ih]
    by_cases hb : bitM mask i k = true
    · rw [if_pos hb, hu]
      simp only [List.map_cons, List.map_nil, List.foldl_cons, List.foldl_nil, firstL, firstM]
      have hin := atT_info (i := i) (k := k) hid ht
      cases e : firstM mask i k with
      | none =>
        simp only [if_pos hb, List.map_nil, List.append_nil, List.map_cons]
        exact step_new (by rw [hin]; exact hB)
      | some j =>
        have hj := (firstM_lt e).1
        have hjn := atT_info (i := i) (k := j) hid ht
        simp only [List.map_cons, List.map_nil]
        refine step_keep ⟨infoOf (atT s i j), List.mem_append_right _ (List.mem_singleton.2 rfl), by rw [hin, hjn]; exact ⟨rfl, rfl⟩⟩ fun x hx he => ?_
        rcases List.mem_append.1 hx with hx | hx
        · rw [hin] at he; exact absurd he (hB x hx)
        · obtain rfl := List.mem_singleton.1 hx
          rw [hin, hjn]
          refine Bool.eq_false_iff.2 fun c => ?_
          have := fineI_iff.1 c
          simp only [] at this
          omega
    · rw [if_neg hb]
      simp only [List.map_nil, List.foldl_nil, firstL, firstM]
      cases e : firstM mask i k with
      | none => simp only [if_neg hb]
      | some j => rfl
/-! ### Rows -/
section
variable (steps values : List Int) (mask : Int)
abbrev toM (i : Nat) : Int := (rowM steps values mask i).to
abbrev baseM (i : Nat) : SegD := mk0 steps values i (toM steps values mask i)
theorem base_facts {i : Nat} (hi : i < 4) : mayS (baseM steps values mask i) = true ∧ (baseM steps values mask i).Tier = 0 ∧ (baseM steps values mask i).Id = 10 * (i : Int) + 1 ∧ (∀ x ∈ (baseM steps values mask i).Samples, smallS x) ∧ (baseM steps values mask i).From = toM steps values mask i ∧ (baseM steps values mask i).To = toM steps values mask (i + 1) := by
  have ht : 0 ≤ toM steps values mask i ∧ toM steps values mask i ≤ 2000 * (i : Int) := rowM_to steps values mask (i := i) (by omega)
  have hm : mayS (baseM steps values mask i) = true := make_may ht.1 (by omega)
  refine ⟨hm, rfl, ?_, mk_small, rfl, ?_⟩
  · show 1 + (10 * (i : Int)) % 18446744073709551616 % 1000 = _
    rw [Int.emod_eq_of_lt (a := 10 * (i : Int)) (by omega) (by omega), Int.emod_eq_of_lt (by omega) (by omega)]; omega
  · have hu := up_is (i := i) hm rfl mk_small (by omega) (k := 3) (by omega)
    show _ = (upS (baseM steps values mask i) i 3).To
    rw [hu]; rfl
def finL : Nat → List SegD
  | 0 => []
  | i + 1 => finL i ++ firstL (baseM steps values mask i) mask i 4
theorem fin_to : ∀ {i : Nat}, i ≤ 4 → ∀ x ∈ finL steps values mask i, x.From < x.To ∧ x.To ≤ toM steps values mask i
  | 0, _, x, h => nomatch h
  | i + 1, hi, x, h => by
    obtain ⟨hm, h0, hid, hs, hf, ht⟩ := base_facts steps values mask (i := i) (by omega)
    have hlt : toM steps values mask i < toM steps values mask (i + 1) := by
      have := headS_iff.1 (may_iff.1 hm).1
      omega
    rw [finL] at h
    rcases List.mem_append.1 h with h | h
    · have := fin_to (i := i) (by omega) x h; omega
    · have hx : x.From = toM steps values mask i ∧ x.To = toM steps values mask (i + 1) := by
        unfold firstL at h
        split at h
        · obtain rfl := List.mem_singleton.1 h
          unfold atT; split
          · exact ⟨hf, ht⟩
          · exact ⟨hf, ht⟩
        · cases h
      omega
theorem best_row : ∀ {i : Nat}, i ≤ 4 → bestP (infosOf (rowM steps values mask i).l) = infosOf (finL steps values mask i)
  | 0, _ => rfl
  | i + 1, hi => by
    obtain ⟨hm, h0, hid, hs, hf, ht⟩ := base_facts steps values mask (i := i) (by omega)
    have ih := best_row (i := i) (by omega)
    have hB : ∀ x ∈ infosOf (finL steps values mask i), ¬ (x.From = (baseM steps values mask i).From ∧ x.To = (baseM steps values mask i).To) := fun x hx => by
      obtain ⟨y, hy, rfl⟩ := List.mem_map.1 hx
      have := fin_to steps values mask (i := i) (by omega) y hy
      rw [hf]
      simp only [infoOf]; omega
    have := tiers_best (mask := mask) hm h0 hid hs (by omega) hB (k := 4) (Nat.le_refl _)
    show bestP (infosOf ((rowM steps values mask i).l ++ tiersM mask (baseM steps values mask i) i 4)) = _
    unfold infosOf at this ih ⊢
    rw [List.map_append, best_append, ih, this, finL, List.map_append]
theorem firstL_span {i : Nat} (hi : i < 4) : ∀ x ∈ firstL (baseM steps values mask i) mask i 4, x.From = toM steps values mask i ∧ x.To = toM steps values mask (i + 1) := fun x h => by
  obtain ⟨hm, h0, hid, hs, hf, ht⟩ := base_facts steps values mask (i := i) hi
  unfold firstL at h
  split at h
  · obtain rfl := List.mem_singleton.1 h
    unfold atT; split
    · exact ⟨hf, ht⟩
    · exact ⟨hf, ht⟩
  · cases h
theorem fin_chain : ∀ {i : Nat}, i ≤ 4 → (finL steps values mask i).Pairwise fun a b => a.To ≤ b.From
  | 0, _ => List.Pairwise.nil
  | i + 1, hi => by
    rw [finL]
    refine List.pairwise_append.2 ⟨fin_chain (by omega), ?_, fun a ha b hb => ?_⟩
    · unfold firstL; split
      · exact List.pairwise_singleton _ _
      · exact List.Pairwise.nil
    · have h1 := fin_to steps values mask (i := i) (by omega) a ha
      have h2 := firstL_span steps values mask (i := i) (by omega) b hb
      omega
theorem fin_sorted {i : Nat} (hi : i ≤ 4) : SortedF (infosOf (finL steps values mask i)) := by
  have hp := fin_chain steps values mask hi
  have ht := fin_to steps values mask hi
  unfold SortedF infosOf
  refine List.pairwise_map.2 (hp.imp_of_mem fun {a b} ha hb hab => ?_)
  have h1 := ht a ha
  refine Bool.eq_false_iff.2 fun c => ?_
  have := aheadF_iff.1 c
  simp only [infoOf] at this
  omega
theorem pick_row {i : Nat} (hi : i ≤ 4) : pickI (infosOf (rowM steps values mask i).l) = (finL steps values mask i).map SegD.Id := by
  unfold pickI
  rw [← pick_of (q := infosOf (finL steps values mask i)) (by rw [best_row steps values mask hi]) (fin_sorted steps values mask hi)]
  unfold infosOf; rw [List.map_map]; rfl
theorem tiers_mem {s : SegD} {i : Nat} (h : mayS s = true) (ht : s.Tier = 0) (hs : ∀ x ∈ s.Samples, smallS x) (hi : i < 1000) : ∀ {k : Nat}, k ≤ 4 → ∀ x ∈ tiersM mask s i k, ∃ j, j < k ∧ x = atT s i j
  | 0, _, x, hx => nomatch hx
  | k + 1, hk, x, hx => by
    rw [tiersM] at hx
    rcases List.mem_append.1 hx with hx | hx
    · obtain ⟨j, hj, e⟩ := tiers_mem h ht hs hi (k := k) (by omega) x hx
      exact ⟨j, by omega, e⟩
    · split at hx
      · obtain rfl := List.mem_singleton.1 hx
        exact ⟨k, by omega, up_is h ht hs hi (by omega)⟩
      · cases hx
theorem tiers_has {s : SegD} {i j : Nat} (h : mayS s = true) (ht : s.Tier = 0) (hs : ∀ x ∈ s.Samples, smallS x) (hi : i < 1000) : ∀ {k : Nat}, k ≤ 4 → j < k → bitM mask i j = true → atT s i j ∈ tiersM mask s i k
  | 0, _, hj, _ => by omega
  | k + 1, hk, hj, hb => by
    rw [tiersM]
    by_cases e : j = k
    · subst e
      rw [if_pos hb, up_is h ht hs hi (by omega)]
      exact List.mem_append_right _ (List.mem_singleton.2 rfl)
    · exact List.mem_append_left _ (tiers_has h ht hs hi (by omega) (by omega) hb)
theorem row_mem : ∀ {i : Nat}, i ≤ 4 → ∀ x ∈ (rowM steps values mask i).l, ∃ a j, a < i ∧ j < 4 ∧ x = atT (baseM steps values mask a) a j
  | 0, _, x, hx => nomatch hx
  | i + 1, hi, x, hx => by
    obtain ⟨hm, h0, hid, hs, _⟩ := base_facts steps values mask (i := i) (by omega)
    have hx : x ∈ (rowM steps values mask i).l ++ tiersM mask (baseM steps values mask i) i 4 := hx
    rcases List.mem_append.1 hx with hx | hx
    · obtain ⟨a, j, ha, hj, e⟩ := row_mem (i := i) (by omega) x hx
      exact ⟨a, j, by omega, hj, e⟩
    · obtain ⟨j, hj, e⟩ := tiers_mem mask hm h0 hs (by omega) (Nat.le_refl 4) x hx
      exact ⟨i, j, by omega, hj, e⟩
theorem at_id {a j : Nat} (ha : a < 4) : (atT (baseM steps values mask a) a j).Id = 10 * (a : Int) + (j : Int) + 1 := by
  obtain ⟨_, h0, hid, _⟩ := base_facts steps values mask (i := a) ha
  exact congrArg Info.Id (atT_info (i := a) (k := j) hid h0)
theorem row_ids {i : Nat} (hi : i ≤ 4) : ∀ x ∈ (rowM steps values mask i).l, ∀ y ∈ (rowM steps values mask i).l, x.Id = y.Id → x = y := fun x hx y hy e => by
  obtain ⟨a, j, ha, hj, rfl⟩ := row_mem steps values mask hi x hx
  obtain ⟨b, k, hb, hk, rfl⟩ := row_mem steps values mask hi y hy
  rw [at_id steps values mask (by omega), at_id steps values mask (by omega)] at e
  obtain rfl : a = b := by omega
  obtain rfl : j = k := by omega
  rfl
theorem find_row {i : Nat} (hi : i ≤ 4) : ∀ x ∈ (rowM steps values mask i).l, findD (rowM steps values mask i).l x.Id = x := fun x hx => by
  unfold findD
  cases e : (rowM steps values mask i).l.find? (fun s => decide (s.Id = x.Id)) with
  | none => have := List.find?_eq_none.1 e x hx; simp at this
  | some y =>
    have h1 := List.mem_of_find?_eq_some e
    have h2 : y.Id = x.Id := by simpa using List.find?_some e
    exact row_ids steps values mask hi y h1 x hx h2
theorem fin_mem : ∀ {i : Nat}, i ≤ 4 → ∀ x ∈ finL steps values mask i, x ∈ (rowM steps values mask i).l
  | 0, _, x, hx => nomatch hx
  | i + 1, hi, x, hx => by
    obtain ⟨hm, h0, hid, hs, _⟩ := base_facts steps values mask (i := i) (by omega)
    show x ∈ (rowM steps values mask i).l ++ tiersM mask (baseM steps values mask i) i 4
    rw [finL] at hx
    rcases List.mem_append.1 hx with hx | hx
    · exact List.mem_append_left _ (fin_mem (by omega) x hx)
    · refine List.mem_append_right _ ?_
      unfold firstL at hx
      split at hx
      · rename_i j e
        obtain rfl := List.mem_singleton.1 hx
        have := firstM_lt e
        exact tiers_has mask hm h0 hs (by omega) (Nat.le_refl 4) this.1 this.2
      · cases hx
theorem pickS_row {i : Nat} (hi : i ≤ 4) : pickS (rowM steps values mask i).l = finL steps values mask i := by
  unfold pickS
  rw [pick_row steps values mask hi, List.map_map]
  conv => rhs; rw [← List.map_id (finL steps values mask i)]
  refine List.map_congr_left fun x hx => ?_
  exact find_row steps values mask hi x (fin_mem steps values mask hi x hx)
theorem tiers_up {i : Nat} (hi : i < 4) : ∀ {k : Nat}, k ≤ 4 → (tiersM mask (baseM steps values mask i) i k).Pairwise fun a b => a.Id < b.Id
  | 0, _ => List.Pairwise.nil
  | k + 1, hk => by
    obtain ⟨hm, h0, hid, hs, _⟩ := base_facts steps values mask (i := i) hi
    rw [tiersM]
    refine List.pairwise_append.2 ⟨tiers_up hi (by omega), by split <;> first | exact List.pairwise_singleton _ _ | exact List.Pairwise.nil, fun a ha b hb => ?_⟩
    obtain ⟨j, hj, rfl⟩ := tiers_mem mask hm h0 hs (by omega) (show k ≤ 4 by omega) a ha
    split at hb
    · obtain rfl := List.mem_singleton.1 hb
      rw [up_is hm h0 hs (by omega) (by omega), at_id steps values mask hi, at_id steps values mask hi]; omega
    · cases hb
theorem row_up : ∀ {i : Nat}, i ≤ 4 → (rowM steps values mask i).l.Pairwise fun a b => a.Id < b.Id
  | 0, _ => List.Pairwise.nil
  | i + 1, hi => by
    obtain ⟨hm, h0, hid, hs, _⟩ := base_facts steps values mask (i := i) (by omega)
    refine List.pairwise_append.2 ⟨row_up (by omega), tiers_up steps values mask (by omega) (Nat.le_refl 4), fun a ha b hb => ?_⟩
    obtain ⟨x, j, hx, hj, rfl⟩ := row_mem steps values mask (i := i) (by omega) a ha
    obtain ⟨k, hk, rfl⟩ := tiers_mem mask hm h0 hs (by omega) (Nat.le_refl 4) b hb
    rw [at_id steps values mask (by omega), at_id steps values mask (by omega)]; omega
theorem row_may {i : Nat} (hi : i ≤ 4) : ∀ x ∈ (rowM steps values mask i).l, mayS x = true := fun x hx => by
  obtain ⟨a, j, ha, hj, rfl⟩ := row_mem steps values mask hi x hx
  obtain ⟨hm, h0, hid, hs, _⟩ := base_facts steps values mask (i := a) (by omega)
  exact atT_may hm h0 hs (by omega) hj
end
theorem okTo_of {l : List SegD} (hm : ∀ x ∈ l, mayS x = true) (hp : l.Pairwise fun a b => a.Id < b.Id) : ∀ {n : Nat}, n ≤ l.length → okTo l n = true
  | 0, _ => rfl
  | n + 1, hn => by
    refine okTo_step (okTo_of hm hp (by omega)) (by rw [gd_eq (by omega)]; exact hm _ (List.getElem_mem _)) ?_
    refine List.any_eq_false.2 fun y hy => ?_
    obtain ⟨z, hz, rfl⟩ := List.mem_map.1 hy
    obtain ⟨j, hj, rfl⟩ := List.mem_iff_getElem.1 hz
    have hg : gd l n = l[n]'(by omega) := gd_eq (by omega)
    rw [List.getElem_take, hg]
    have hjn : j < n := by rw [List.length_take] at hj; omega
    have := List.pairwise_iff_getElem.1 hp j n (by omega) (by omega) hjn
    intro c
    have c : (l[j]'(by omega)).Id = (l[n]'(by omega)).Id := of_decide_eq_true c
    omega
theorem chain_of : ∀ {l : List SegD} {last : Int}, (∀ x ∈ l, last ≤ x.From) → l.Pairwise (fun a b => a.To ≤ b.From) → chainS last l = true
  | [], _, _, _ => rfl
  | s :: r, last, h, hp => by
    have hp := List.pairwise_cons.1 hp
    show (decide (last ≤ s.From) && chainS s.To r) = true
    rw [decide_eq_true (h s (List.mem_cons_self ..)), chain_of hp.1 hp.2]; rfl
section
variable (steps values : List Int) (mask : Int)
theorem fin_from {i : Nat} (hi : i ≤ 4) : ∀ x ∈ finL steps values mask i, 0 ≤ x.From := fun x hx => by
  have := row_may steps values mask hi x (fin_mem steps values mask hi x hx)
  exact (headS_iff.1 (may_iff.1 this).1).2.2.2.2.1
theorem row_okC {i : Nat} (hi : i ≤ 4) : okTo (rowM steps values mask i).l (rowM steps values mask i).l.length = true ∧ chainS 0 (pickS (rowM steps values mask i).l) = true := by
  refine ⟨okTo_of (row_may steps values mask hi) (row_up steps values mask hi) (Nat.le_refl _), ?_⟩
  rw [pickS_row steps values mask hi]
  exact chain_of (fin_from steps values mask hi) (fin_chain steps values mask hi)
theorem row_okR {i : Nat} (hi : i ≤ 4) : okR (rowM steps values mask i).l [] = true := by
  obtain ⟨h1, h2⟩ := row_okC steps values mask hi
  rw [okR_is h1 h2]; rfl
theorem range_row {i : Nat} {fr to : Int} (hi : i ≤ 4) (h0 : 0 ≤ fr) (h1 : fr < to) (h2 : to ≤ 1099511627776) : rangeW (rowM steps values mask i).l [] fr to = ((finL steps values mask i).flatMap (fun s => segW s fr to), 0) := by
  rw [range_yes (row_okR steps values mask hi) (by omega), pickS_row steps values mask hi]
  have : rawW [] fr to = [] := rfl
  rw [this, List.append_nil]
theorem row_best {i : Nat} (hi : i ≤ 4) : (bestP (infosOf (rowM steps values mask i).l)).length ≤ 12 := by
  rw [best_row steps values mask hi]
  unfold infosOf; rw [List.length_map]
  have : ∀ {n : Nat}, (finL steps values mask n).length ≤ n := by
    intro n
    induction n with
    | zero => exact Nat.le_refl _
    | succ n ih =>
      rw [finL, List.length_append]
      have : (firstL (baseM steps values mask n) mask n 4).length ≤ 1 := by unfold firstL; split <;> simp
      omega
  have := this (n := i)
  omega
end
end Go.Proofs.Ythanfecefjfbjaa
end
section
namespace Go.Proofs.Ythanfecefjfbjaa
theorem first0 {mask : Int} {i : Nat} (h : bitM mask i 0 = true) : firstM mask i 4 = some 0 := by
  have h1 : firstM mask i 1 = some 0 := by rw [firstM, firstM]; simp only [if_pos h]
  have h2 : firstM mask i 2 = some 0 := by rw [firstM, h1]
  have h3 : firstM mask i 3 = some 0 := by rw [firstM, h2]
  rw [firstM, h3]
theorem rawW_append (a b : List Sample) (fr to : Int) : rawW (a ++ b) fr to = rawW a fr to ++ rawW b fr to := by unfold rawW; rw [List.filter_append, List.map_append]
section
variable (steps values : List Int) (mask : Int)
theorem fin_raw {fr to : Int} : ∀ {i : Nat}, (∀ a, a < i → bitM mask a 0 = true) → (finL steps values mask i).flatMap (fun s => segW s fr to) = rawW (rowM steps values mask i).all fr to
  | 0, _ => rfl
  | i + 1, h => by
    have ih := fin_raw (fr := fr) (to := to) (i := i) (fun a ha => h a (by omega))
    have hf : firstL (baseM steps values mask i) mask i 4 = [baseM steps values mask i] := by unfold firstL; rw [first0 (h i (by omega))]; rfl
    rw [finL, hf, List.flatMap_append, ih]
    show _ = rawW ((rowM steps values mask i).all ++ (baseM steps values mask i).Samples) fr to
    rw [rawW_append]
    congr 1
    simp only [List.flatMap_cons, List.flatMap_nil, List.append_nil]
    show rawW _ fr to ++ aggW _ [] fr to = _
    simp [aggW]
theorem range_raw {i : Nat} {fr to : Int} (hi : i ≤ 4) (hb : ∀ a, a < i → bitM mask a 0 = true) (h0 : 0 ≤ fr) (h1 : fr < to) (h2 : to ≤ 1099511627776) : rangeW (rowM steps values mask i).l [] fr to = (rawW (rowM steps values mask i).all fr to, 0) := by
  rw [range_row steps values mask hi h0 h1 h2, fin_raw steps values mask hb]
end
end Go.Proofs.Ythanfecefjfbjaa
end
section
namespace Go.Proofs.Ythanfecefjfbjaa
theorem bit_some (mask : Int) (i : Nat) : ∃ k, k < 4 ∧ bitM mask i k = true := by
  unfold bitM
  by_cases h0 : (mask / 2 ^ (4 * i)) % 16 = 0
  · exact ⟨0, by decide, by simp [h0]⟩
  · have h : (mask / 2 ^ (4 * i)) % 16 / 2 ^ 0 % 2 = 1 ∨ (mask / 2 ^ (4 * i)) % 16 / 2 ^ 1 % 2 = 1 ∨ (mask / 2 ^ (4 * i)) % 16 / 2 ^ 2 % 2 = 1 ∨ (mask / 2 ^ (4 * i)) % 16 / 2 ^ 3 % 2 = 1 := by
      generalize mask / 2 ^ (4 * i) = m at h0 ⊢
      omega
    rcases h with h | h | h | h
    · exact ⟨0, by decide, by rw [decide_eq_true h]; rfl⟩
    · exact ⟨1, by decide, by rw [decide_eq_true h]; rfl⟩
    · exact ⟨2, by decide, by rw [decide_eq_true h]; rfl⟩
    · exact ⟨3, by decide, by rw [decide_eq_true h]; rfl⟩
theorem bit4369 : ∀ {i : Nat}, i < 4 → bitM 4369 i 0 = true := fun {i} h => by
  have := (by decide : ∀ i : Fin 4, bitM 4369 i.1 0 = true) ⟨i, h⟩
  exact this
theorem up_ok {s : SegD} {i : Nat} (h : s.ok) (hi : i < 1000) : ∀ {k : Nat}, k < 1000 → (upS s i k).ok
  | 0, _ => h
  | k + 1, hk => roll_ok2 (up_ok h hi (k := k) (by omega)) ⟨by omega, by omega⟩ ⟨by omega, by omega⟩
theorem tiers_ok {mask : Int} {s : SegD} {i : Nat} (h : s.ok) (hi : i < 1000) : ∀ {k : Nat}, k < 1000 → ∀ x ∈ tiersM mask s i k, x.ok
  | 0, _, x, hx => nomatch hx
  | k + 1, hk, x, hx => by
    rw [tiersM] at hx
    rcases List.mem_append.1 hx with hx | hx
    · exact tiers_ok h hi (k := k) (by omega) x hx
    · split at hx
      · obtain rfl := List.mem_singleton.1 hx
        exact up_ok h hi (by omega)
      · cases hx
section
variable (steps values : List Int) (mask : Int)
theorem row_ok (hv : ∀ v ∈ values, i64R v) : ∀ {i : Nat}, i ≤ 4 → ∀ x ∈ (rowM steps values mask i).l, x.ok
  | 0, _, x, hx => nomatch hx
  | i + 1, hi, x, hx => by
    have hx : x ∈ (rowM steps values mask i).l ++ tiersM mask (baseM steps values mask i) i 4 := hx
    have hto := rowM_to steps values mask (i := i) (by omega)
    rcases List.mem_append.1 hx with hx | hx
    · exact row_ok hv (by omega) x hx
    · exact tiers_ok (make_ok hto.1 (Int.le_trans hto.2 (by omega)) hv) (by omega) (by decide) x hx
theorem tiers_ne {i : Nat} (hi : i < 4) : 0 < (tiersM mask (baseM steps values mask i) i 4).length := by
  obtain ⟨hm, h0, _, hs, _⟩ := base_facts steps values mask hi
  obtain ⟨k, hk, hb⟩ := bit_some mask i
  exact List.length_pos_of_mem (tiers_has (mask := mask) hm h0 hs (by omega) (by decide) hk hb)
theorem row_ne {i : Nat} (hi : i ≤ 4) (h1 : 1 ≤ i) : 0 < (rowM steps values mask i).l.length := by
  obtain ⟨a, rfl⟩ : ∃ a, i = a + 1 := ⟨i - 1, by omega⟩
  have hn := tiers_ne steps values mask (i := a) (by omega)
  show 0 < ((rowM steps values mask a).l ++ tiersM mask (baseM steps values mask a) a 4).length
  rw [List.length_append]; omega
end
section
variable {steps values : List Int} {mask : Int} {ys : List Seg} {i : Nat}
theorem row_lenY (hi : i ≤ 4) (h1 : 1 ≤ i) (hys : ys.map Seg.d = (rowM steps values mask i).l) : 0 < ys.length ∧ ys.length ≤ 16 := by
  have hl : ys.length = (rowM steps values mask i).l.length := by rw [← hys, List.length_map]
  have h2 := row_ne steps values mask hi h1
  have h3 := rowM_l steps values mask i
  omega
theorem row_okY (hi : i ≤ 4) (hys : ys.map Seg.d = (rowM steps values mask i).l) (hv : ∀ v ∈ values, i64R v) : ∀ s ∈ ys, s.d.ok := fun s h =>
  row_ok steps values mask hv hi s.d (hys ▸ List.mem_map_of_mem h)
theorem row_bestY (hi : i ≤ 4) (hys : ys.map Seg.d = (rowM steps values mask i).l) : (bestP (infosOf (ds ys))).length ≤ 12 := by
  have := row_best steps values mask hi
  rw [← hys] at this; exact this
theorem range_rawY {fr to : Int} (hi : i ≤ 4) (hb : ∀ a, a < 4 → bitM mask a 0 = true) (hys : ys.map Seg.d = (rowM steps values mask i).l) (h0 : 0 ≤ fr) (h1 : fr < to) (h2 : to ≤ 1099511627776) : rangeW (ds ys) [] fr to = (rawW (rowM steps values mask i).all fr to, 0) := by
  rw [← range_raw steps values mask hi (fun a ha => hb a (by omega)) h0 h1 h2, ← hys]
end
theorem range_cutY {steps values : List Int} {mask : Int} {ys : List Seg} {i : Nat} {R : RowD} {fr to : Int} (hi : i ≤ 4) (hb : ∀ a, a < 4 → bitM mask a 0 = true) (hR : R = rowM steps values mask i) (hys : ys.map Seg.d = R.l) (h0 : 0 ≤ fr) (h1 : fr < to) (h2 : to ≤ 1099511627776) :
    ∃ A, (rangeW (ds ys) [] fr to).1 = A ∧ (rangeW (ds ys) [] fr to).2 = 0 ∧ A = rawW R.all fr to := by
  subst hR; exact ⟨_, rfl, congrArg Prod.snd (range_rawY hi hb hys h0 h1 h2), congrArg Prod.fst (range_rawY hi hb hys h0 h1 h2)⟩
end Go.Proofs.Ythanfecefjfbjaa
end
section
namespace Go.Proofs.Ythanfecefjfbjaa
theorem or_bit {N : Nat} {i : Nat} (h : N.testBit (4 * i) = true) (hi : i < 4) : (N / 2 ^ (4 * i)) % 2 = 1 := by
  rw [Nat.testBit_eq_decide_div_mod_eq] at h
  exact of_decide_eq_true h
theorem or4369 (a : Int) : ∃ mm, bits .or .i64 a 4369 = mm ∧ -9223372036854775808 ≤ mm ∧ mm ≤ 9223372036854775807 ∧ ∀ i, i < 4 → bitM mm i 0 = true := by
  have e : bits .or .i64 a 4369 = IntKind.i64.wrap (((a % 18446744073709551616).toNat ||| 4369 : Nat) : Int) := by
    show IntKind.i64.wrap ((BitVec.ofInt 64 a ||| BitVec.ofInt 64 4369).toNat : Int) = _
    have e : ((4369 : Int) % 18446744073709551616).toNat = 4369 := by decide
    rw [BitVec.toNat_or, ofInt64, ofInt64, e]
  obtain ⟨N, hN⟩ : ∃ N, N = (a % 18446744073709551616).toNat ||| 4369 := ⟨_, rfl⟩
  have hlt : N < 18446744073709551616 := by
    have h1 : (a % 18446744073709551616).toNat < 2 ^ 64 := by have e : (2 : Nat) ^ 64 = 18446744073709551616 := by decide
                                                              omega
    have := Nat.or_lt_two_pow h1 (show 4369 < 2 ^ 64 by decide)
    have e : (2 : Nat) ^ 64 = 18446744073709551616 := by decide
    omega
  have hb : ∀ i, i < 4 → (N / 2 ^ (4 * i)) % 2 = 1 := fun i hi => by
    refine or_bit ?_ hi
    rw [hN, Nat.testBit_or]
    have : (4369 : Nat).testBit (4 * i) = true := (by decide : ∀ i : Fin 4, (4369 : Nat).testBit (4 * i.1) = true) ⟨i, hi⟩
    rw [this, Bool.or_true]
  rw [e, ← hN]
  clear hN e
  refine ⟨_, rfl, ?_, ?_, fun i hi => ?_⟩
  · rw [IntKind.wrap_i64]; omega
  · rw [IntKind.wrap_i64]; omega
  · have h := hb i hi
    have hs : (IntKind.i64.wrap (N : Int) / 2 ^ (4 * i)) % 16 / 2 ^ 0 % 2 = 1 := by
      rw [IntKind.wrap_i64]
      match i, hi with
      | 0, _ => simp only [Nat.mul_zero, Nat.pow_zero, Int.pow_zero] at h ⊢; omega
      | 1, _ => simp only [Nat.mul_one] at h ⊢; omega
      | 2, _ => simp only [Nat.reduceMul] at h ⊢; omega
      | 3, _ => simp only [Nat.reduceMul] at h ⊢; omega
    unfold bitM; rw [decide_eq_true hs]; rfl
section
variable (steps values : List Int)
theorem row_same (m m' : Int) : ∀ {i : Nat}, i ≤ 4 → (rowM steps values m i).all = (rowM steps values m' i).all ∧ (rowM steps values m i).to = (rowM steps values m' i).to
  | 0, _ => ⟨rfl, rfl⟩
  | i + 1, hi => by
    obtain ⟨h1, h2⟩ := row_same m m' (i := i) (by omega)
    constructor
    · show (rowM steps values m i).all ++ (mk0 steps values i (rowM steps values m i).to).Samples = (rowM steps values m' i).all ++ (mk0 steps values i (rowM steps values m' i).to).Samples
      rw [h1, h2]
    · show (upS (mk0 steps values i (rowM steps values m i).to) i 3).To = (upS (mk0 steps values i (rowM steps values m' i).to) i 3).To
      rw [h2]
theorem row_all (m m' : Int) {i : Nat} (hi : i ≤ 4) : (rowM steps values m i).all = (rowM steps values m' i).all := (row_same steps values m m' hi).1
theorem row_allok (m : Int) (hv : ∀ v ∈ values, i64R v) : ∀ {i : Nat}, i ≤ 4 → ∀ s ∈ (rowM steps values m i).all, s.ok
  | 0, _, x, hx => nomatch hx
  | i + 1, hi, x, hx => by
    have hx : x ∈ (rowM steps values m i).all ++ (mk0 steps values i (rowM steps values m i).to).Samples := hx
    have hto := rowM_to steps values m (i := i) (by omega)
    rcases List.mem_append.1 hx with hx | hx
    · exact row_allok m hv (by omega) x hx
    · exact (make_ok (nid := 10 * (i : Int)) (steps := fiveOf steps i) hto.1 (Int.le_trans hto.2 (by omega)) hv).2.2.2.2.1 x hx
end
end Go.Proofs.Ythanfecefjfbjaa
end
section
namespace Go.Proofs.Ythanfecefjfbjaa
section
variable {α : Type} [DecidableEq α] {a b : List α} {i : Nat}
theorem same_len (h : ¬ ((a.length : Int) = (b.length : Int))) : false = decide (a = b) := (decide_eq_false fun e => h (by rw [e])).symm
theorem same_no (h : i < a.length) (h' : i < b.length) (hne : ¬ a[i] = b[i]) : false = decide (a = b) := (decide_eq_false fun e => hne (by subst e; rfl)).symm
theorem same_end (hi : i = a.length) (hl : (a.length : Int) = (b.length : Int)) (he : a.take i = b.take i) : true = decide (a = b) :=
  (decide_eq_true (by rw [List.take_of_length_le (by omega), List.take_of_length_le (by omega)] at he; exact he)).symm
end
theorem same_step {α : Type} {a b : List α} {i : Nat} (he : a.take i = b.take i) (h : i < a.length) (h' : i < b.length) (heq : a[i] = b[i]) : a.take (i + 1) = b.take (i + 1) := by
  rw [List.take_succ_eq_append_getElem h, List.take_succ_eq_append_getElem h', he, heq]
end Go.Proofs.Ythanfecefjfbjaa
end
