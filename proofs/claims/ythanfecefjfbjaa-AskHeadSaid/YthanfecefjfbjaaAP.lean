/- Of notes of one span the finest: by steps, in order. -/
import Derived.Test.YthanfecefjfbjaaAO
import Derived.Test.YthanfecefjfbjaaOX
import Derived.Test.YthanfecefjfbjaaLZ
namespace Go.Proofs.Ythanfecefjfbjaa
instance : Inhabited Info := ⟨⟨0, 0, 0, 0, 0⟩⟩
/-- Of the same span. -/
def spanI (i x : Info) : Bool := decide (x.From = i.From ∧ x.To = i.To)
theorem spanI_iff {i x : Info} : spanI i x = true ↔ x.From = i.From ∧ x.To = i.To := decide_eq_true_iff
/-- Finer. -/
def fineI (i b : Info) : Bool := decide (i.Tier < b.Tier ∨ (i.Tier = b.Tier ∧ i.Id < b.Id))
theorem fineI_iff {i b : Info} : fineI i b = true ↔ (i.Tier < b.Tier ∨ (i.Tier = b.Tier ∧ i.Id < b.Id)) := decide_eq_true_iff
theorem fine_or {i b : Info} : orI [cmpI i.Tier b.Tier, cmpI i.Id b.Id] < 0 ↔ fineI i b = true := by
  rw [fineI_iff]; simp only [orI, cmpI]
  repeat' split
  all_goals omega
theorem fine_yes {i b : Info} (h : orI [cmpI i.Tier b.Tier, cmpI i.Id b.Id] < 0) : fineI i b = true := fine_or.1 h
theorem fine_no {i b : Info} (h : ¬ orI [cmpI i.Tier b.Tier, cmpI i.Id b.Id] < 0) : fineI i b = false := by
  cases e : fineI i b with
  | false => rfl
  | true => exact absurd (fine_or.2 e) h
def stepP (best : List Info) (i : Info) : List Info :=
  if idxI (fun y => decide (y.From = i.From ∧ y.To = i.To)) best < 0 then best ++ [i]
  else if fineI i (gd best (idxI (fun y => decide (y.From = i.From ∧ y.To = i.To)) best).toNat) = true then best.set (idxI (fun y => decide (y.From = i.From ∧ y.To = i.To)) best).toNat i else best
def bestP (l : List Info) : List Info := l.foldl stepP []
theorem bestP_succ {l : List Info} {n : Nat} (h : n < l.length) : bestP (l.take (n + 1)) = stepP (bestP (l.take n)) (l[n]'h) := by
  unfold bestP; rw [List.take_succ_eq_append_getElem h, List.foldl_append]; rfl
theorem idx_r (p : Info → Bool) (l : List Info) : -1 ≤ idxI p l ∧ (idxI p l < (l.length : Int)) := by
  unfold idxI
  cases h : l.findIdx? p with
  | none => simp only []; omega
  | some i =>
    obtain ⟨h1, _⟩ := List.findIdx?_eq_some_iff_getElem.1 h
    simp only []; omega
section
variable {l ys : List Info} {n : Nat}
theorem best_new (h : n < l.length) (e : ys = bestP (l.take n)) (h0 : idxI (fun y => decide (y.From = (l[n]'h).From ∧ y.To = (l[n]'h).To)) ys < 0) : ys ++ [l[n]'h] = bestP (l.take (n + 1)) := by
  rw [bestP_succ h, ← e]; unfold stepP; rw [if_pos h0]
theorem best_set (h : n < l.length) (e : ys = bestP (l.take n)) (h0 : ¬ idxI (fun y => decide (y.From = (l[n]'h).From ∧ y.To = (l[n]'h).To)) ys < 0) (hk : (idxI (fun y => decide (y.From = (l[n]'h).From ∧ y.To = (l[n]'h).To)) ys).toNat < ys.length)
    (h1 : fineI (l[n]'h) (ys[(idxI (fun y => decide (y.From = (l[n]'h).From ∧ y.To = (l[n]'h).To)) ys).toNat]'hk) = true) : ys.set (idxI (fun y => decide (y.From = (l[n]'h).From ∧ y.To = (l[n]'h).To)) ys).toNat (l[n]'h) = bestP (l.take (n + 1)) := by
  rw [bestP_succ h, ← e]; unfold stepP; rw [if_neg h0, gd_eq hk, if_pos h1]
theorem best_old (h : n < l.length) (e : ys = bestP (l.take n)) (h0 : ¬ idxI (fun y => decide (y.From = (l[n]'h).From ∧ y.To = (l[n]'h).To)) ys < 0) (hk : (idxI (fun y => decide (y.From = (l[n]'h).From ∧ y.To = (l[n]'h).To)) ys).toNat < ys.length)
    (h1 : fineI (l[n]'h) (ys[(idxI (fun y => decide (y.From = (l[n]'h).From ∧ y.To = (l[n]'h).To)) ys).toNat]'hk) = false) : ys = bestP (l.take (n + 1)) := by
  rw [bestP_succ h, ← e]; unfold stepP; rw [if_neg h0, gd_eq hk, if_neg (by rw [h1]; decide)]
end
theorem step_len (best : List Info) (i : Info) : (stepP best i).length ≤ best.length + 1 := by
  unfold stepP; split
  · simp
  · split <;> simp
theorem best_len : ∀ {l : List Info} {n : Nat}, n ≤ l.length → (bestP (l.take n)).length ≤ n
  | l, 0, _ => by simp [bestP]
  | l, n + 1, h => by
    rw [bestP_succ (by omega)]
    exact Nat.le_trans (step_len _ _) (by have := best_len (l := l) (n := n) (by omega); omega)
/-! ### In order -/
def seatF (x : Info) (l : List Info) : Nat → Nat
  | 0 => 0
  | n + 1 => match l[n]? with
    | some y => if aheadF x y = true then seatF x l n else n + 1
    | none => n + 1
def insF (l : List Info) (x : Info) : List Info := l.take (seatF x l l.length) ++ (x :: l.drop (seatF x l l.length))
theorem seatF_le (x : Info) (l : List Info) : ∀ n, seatF x l n ≤ n
  | 0 => Nat.le_refl 0
  | n + 1 => by
    rw [seatF]
    split
    · split
      · exact Nat.le_succ_of_le (seatF_le x l n)
      · exact Nat.le_refl _
    · exact Nat.le_refl _
theorem seatF_back (x : Info) (l : List Info) : ∀ n, n ≤ l.length → ∀ j (h : j < l.length), seatF x l n ≤ j → j < n → aheadF x (l[j]'h) = true
  | 0, _, j, _, _, hj => by omega
  | n + 1, hn, j, h, hs, hj => by
    rw [seatF, List.getElem?_eq_getElem (by omega)] at hs
    simp only [] at hs
    split at hs
    · rename_i ha
      by_cases e : j = n
      · subst e; exact ha
      · exact seatF_back x l n (by omega) j h hs (by omega)
    · omega
theorem seatF_stop (x : Info) (l : List Info) : ∀ n, n ≤ l.length → 0 < seatF x l n → ∃ h : seatF x l n - 1 < l.length, aheadF x (l[seatF x l n - 1]'h) = false
  | 0, _, h => by simp [seatF] at h
  | n + 1, hn, h => by
    rw [seatF, List.getElem?_eq_getElem (by omega)] at h ⊢
    simp only [] at h ⊢
    split
    · rename_i ha
      rw [if_pos ha] at h
      exact seatF_stop x l n (by omega) h
    · rename_i ha
      exact ⟨by omega, by simpa using ha⟩
theorem insF_perm (l : List Info) (x : Info) : (insF l x).Perm (x :: l) := by
  unfold insF
  exact (List.perm_middle).trans (by rw [List.take_append_drop])
theorem insF_sorted {l : List Info} {x : Info} (h : SortedF l) : SortedF (insF l x) := by
  have hle := seatF_le x l l.length
  have hb := seatF_back x l l.length (Nat.le_refl _)
  have hs := seatF_stop x l l.length (Nat.le_refl _)
  unfold insF
  generalize seatF x l l.length = n at *
  have hg : ∀ (i j : Nat) (hi : i < l.length) (hj : j < l.length), i < j → leF (l[i]'hi) (l[j]'hj) := fun i j hi hj hij => List.pairwise_iff_getElem.1 h i j hi hj hij
  refine List.pairwise_append.2 ⟨h.sublist (List.take_sublist ..), List.pairwise_cons.2 ⟨?_, h.sublist (List.drop_sublist ..)⟩, ?_⟩
  · intro y hy
    obtain ⟨j, hj, rfl⟩ := List.mem_iff_getElem.1 hy
    rw [List.getElem_drop]
    rw [List.length_drop] at hj
    exact aheadF_le (hb (n + j) (by omega) (by omega) (by omega))
  · intro y hy z hz
    obtain ⟨i, hi, rfl⟩ := List.mem_iff_getElem.1 hy
    rw [List.length_take] at hi
    rw [List.getElem_take]
    rcases List.mem_cons.1 hz with rfl | hz
    · obtain ⟨h1, h2⟩ := hs (by omega)
      by_cases e : i = n - 1
      · subst e; exact h2
      · exact leF_trans (hg i (n - 1) (by omega) h1 (by omega)) h2
    · obtain ⟨j, hj, rfl⟩ := List.mem_iff_getElem.1 hz
      rw [List.getElem_drop]
      rw [List.length_drop] at hj
      exact hg i (n + j) (by omega) (by omega) (by omega)
def sortF (l : List Info) : List Info := l.foldl insF []
theorem fold_insF : ∀ (l acc : List Info), SortedF acc → SortedF (l.foldl insF acc) ∧ (l.foldl insF acc).Perm (l ++ acc)
  | [], acc, h => ⟨h, List.Perm.refl _⟩
  | x :: l, acc, h => by
    obtain ⟨h1, h2⟩ := fold_insF l (insF acc x) (insF_sorted h)
    refine ⟨h1, h2.trans ?_⟩
    exact ((insF_perm acc x).append_left l).trans List.perm_middle
theorem sortF_sorted (l : List Info) : SortedF (sortF l) := (fold_insF l [] List.Pairwise.nil).1
theorem sortF_perm (l : List Info) : (sortF l).Perm l := by have := (fold_insF l [] List.Pairwise.nil).2; rwa [List.append_nil] at this
/-- No two of one span. -/
def SpansU (l : List Info) : Prop := l.Pairwise fun a b => ¬ (a.From = b.From ∧ a.To = b.To)
theorem spansU_perm {l r : List Info} (h : l.Perm r) (hu : SpansU l) : SpansU r := (h.pairwise_iff (fun {a b} hab ⟨e1, e2⟩ => hab ⟨e1.symm, e2.symm⟩)).1 hu
theorem sortF_unique : ∀ {l r : List Info}, l.Perm r → SortedF l → SortedF r → SpansU l → l = r
  | [], r, hp, _, _, _ => (List.nil_perm.1 hp).symm
  | a :: l, [], hp, _, _, _ => by have := hp.length_eq; simp at this
  | a :: l, b :: r, hp, h1, h2, hu => by
    have e : a = b := by
      rcases List.mem_cons.1 (hp.mem_iff.1 (List.mem_cons_self ..)) with e | e
      · exact e
      · rcases List.mem_cons.1 (hp.mem_iff.2 (List.mem_cons_self ..)) with e' | e'
        · exact e'.symm
        · have h3 := leF_iff.1 (List.rel_of_pairwise_cons h1 e')
          have h4 := leF_iff.1 (List.rel_of_pairwise_cons h2 e)
          exact absurd ⟨by omega, by omega⟩ (List.rel_of_pairwise_cons hu e')
    subst e
    rw [sortF_unique (List.Perm.cons_inv hp) h1.of_cons h2.of_cons hu.of_cons]
/-- The best of each span, in order; their ids. -/
def pickB (l : List Info) : List Info := sortF (bestP l)
def pickI (l : List Info) : List Int := (pickB l).map Info.Id
/-- What the best of spans are: each is of the notes, each span has one, none of its span is finer. -/
def BestOf (l b : List Info) : Prop := SpansU b ∧ (∀ x ∈ b, x ∈ l ∧ ∀ y ∈ l, spanI x y = true → fineI y x = false) ∧ ∀ y ∈ l, ∃ x ∈ b, spanI x y = true
theorem bestOf_nil : BestOf [] [] := ⟨List.Pairwise.nil, by simp, by simp⟩
theorem idx_none_iff {p : Info → Bool} {l : List Info} (h : idxI p l < 0) : ∀ x ∈ l, p x = false := by
  have h1 : decide (0 ≤ idxI p l) = false := decide_eq_false (by omega)
  rw [idx_any] at h1
  intro x hx
  have := List.any_eq_false.1 h1 x hx
  simpa using this
theorem idx_some {p : Info → Bool} {l : List Info} (h : ¬ idxI p l < 0) : ∃ hk : (idxI p l).toNat < l.length, p (l[(idxI p l).toNat]'hk) = true := by
  unfold idxI at h ⊢
  cases e : l.findIdx? p with
  | none => rw [e] at h; simp at h
  | some i =>
    obtain ⟨h1, h2, _⟩ := List.findIdx?_eq_some_iff_getElem.1 e
    simp only [Int.toNat_natCast]
    exact ⟨h1, h2⟩
theorem bestOf_step {l b : List Info} {i : Info} (h : BestOf l b) : BestOf (l ++ [i]) (stepP b i) := by
  obtain ⟨hu, hb, hc⟩ := h
  unfold stepP
  by_cases h0 : idxI (fun y => decide (y.From = i.From ∧ y.To = i.To)) b < 0
  · rw [if_pos h0]
    have hn := idx_none_iff h0
    refine ⟨List.pairwise_append.2 ⟨hu, List.pairwise_singleton _ _, fun x hx y hy => ?_⟩, fun x hx => ?_, fun y hy => ?_⟩
    · obtain rfl := List.mem_singleton.1 hy
      have := of_decide_eq_false (hn x hx); exact this
    · rcases List.mem_append.1 hx with hxb | hx
      · obtain ⟨h1, h2⟩ := hb x hxb
        refine ⟨List.mem_append_left _ h1, fun y hy hs => ?_⟩
        rcases List.mem_append.1 hy with hy | hy
        · exact h2 y hy hs
        · obtain rfl := List.mem_singleton.1 hy
          have h3 := of_decide_eq_false (hn x hxb)
          have h4 := spanI_iff.1 hs
          exact absurd ⟨h4.1.symm, h4.2.symm⟩ h3
      · obtain rfl := List.mem_singleton.1 hx
        refine ⟨List.mem_append_right _ (List.mem_singleton.2 rfl), fun y hy hs => ?_⟩
        rcases List.mem_append.1 hy with hy | hy
        · obtain ⟨z, hz, hzs⟩ := hc y hy
          have h3 := of_decide_eq_false (hn z hz)
          have h4 := spanI_iff.1 hs
          have h5 := spanI_iff.1 hzs
          exact absurd ⟨by omega, by omega⟩ h3
        · obtain rfl := List.mem_singleton.1 hy
          cases e : fineI y y with
          | false => rfl
          | true => have := fineI_iff.1 e; omega
    · rcases List.mem_append.1 hy with hy | hy
      · obtain ⟨x, hx, hs⟩ := hc y hy
        exact ⟨x, List.mem_append_left _ hx, hs⟩
      · obtain rfl := List.mem_singleton.1 hy
        exact ⟨y, List.mem_append_right _ (List.mem_singleton.2 rfl), decide_eq_true ⟨rfl, rfl⟩⟩
  · rw [if_neg h0]
    obtain ⟨hk, hp⟩ := idx_some h0
    generalize (idxI (fun y => decide (y.From = i.From ∧ y.To = i.To)) b).toNat = k at hk hp ⊢
    have hp := of_decide_eq_true hp
    rw [gd_eq hk]
    cases hf : fineI i (b[k]'hk) with
    | true =>
      rw [if_pos rfl]
      have hbk := hb _ (List.getElem_mem hk)
      have far : ∀ x ∈ b.set k i, x = i ∨ (x ∈ b ∧ ¬ (x.From = i.From ∧ x.To = i.To)) := fun x hx => by
        obtain ⟨j, hj, rfl⟩ := List.mem_iff_getElem.1 hx
        rw [List.length_set] at hj
        rw [List.getElem_set]
        split
        · exact Or.inl rfl
        · rename_i hne
          refine Or.inr ⟨List.getElem_mem hj, fun ⟨e1, e2⟩ => ?_⟩
          have hg := List.pairwise_iff_getElem.1 hu
          rcases Nat.lt_or_ge j k with hjk | hjk
          · exact hg j k hj hk hjk ⟨by omega, by omega⟩
          · exact hg k j hk hj (by omega) ⟨by omega, by omega⟩
      refine ⟨?_, fun x hx => ?_, fun y hy => ?_⟩
      · rw [SpansU, List.pairwise_iff_getElem]
        intro x y hx hy hxy ⟨e1, e2⟩
        rw [List.length_set] at hx hy
        have hg := List.pairwise_iff_getElem.1 hu
        rw [List.getElem_set, List.getElem_set] at e1 e2
        by_cases c1 : k = x
        · subst c1
          rw [if_pos rfl, if_neg (by omega)] at e1 e2
          exact hg k y hk hy hxy ⟨by omega, by omega⟩
        · by_cases c2 : k = y
          · subst c2
            rw [if_neg c1, if_pos rfl] at e1 e2
            exact hg x k hx hk hxy ⟨by omega, by omega⟩
          · rw [if_neg c1, if_neg c2] at e1 e2
            exact hg x y hx hy hxy ⟨e1, e2⟩
      · rcases far x hx with rfl | ⟨hx1, hx2⟩
        · refine ⟨List.mem_append_right _ (List.mem_singleton.2 rfl), fun y hy hs => ?_⟩
          rcases List.mem_append.1 hy with hy | hy
          · have h4 := spanI_iff.1 hs
            have h5 := hbk.2 y hy (decide_eq_true ⟨by omega, by omega⟩)
            have h6 := fineI_iff.1 hf
            cases e : fineI y x with
            | false => rfl
            | true =>
              have h7 := fineI_iff.1 e
              have h8 : fineI y (b[k]'hk) = true := fineI_iff.2 (by omega)
              rw [h8] at h5; cases h5
          · obtain rfl := List.mem_singleton.1 hy
            cases e : fineI y y with
            | false => rfl
            | true => have := fineI_iff.1 e; omega
        · obtain ⟨h1, h2⟩ := hb x hx1
          refine ⟨List.mem_append_left _ h1, fun y hy hs => ?_⟩
          rcases List.mem_append.1 hy with hy | hy
          · exact h2 y hy hs
          · obtain rfl := List.mem_singleton.1 hy
            have h4 := spanI_iff.1 hs
            exact absurd ⟨h4.1.symm, h4.2.symm⟩ hx2
      · have hi : i ∈ b.set k i := List.mem_iff_getElem.2 ⟨k, by rw [List.length_set]; exact hk, by rw [List.getElem_set, if_pos rfl]⟩
        rcases List.mem_append.1 hy with hy | hy
        · obtain ⟨x, hx, hs⟩ := hc y hy
          obtain ⟨j, hj, rfl⟩ := List.mem_iff_getElem.1 hx
          by_cases c : j = k
          · subst c
            have h4 := spanI_iff.1 hs
            exact ⟨i, hi, decide_eq_true ⟨by omega, by omega⟩⟩
          · exact ⟨b[j], List.mem_iff_getElem.2 ⟨j, by rw [List.length_set]; exact hj, by rw [List.getElem_set, if_neg (fun e => c e.symm)]⟩, hs⟩
        · obtain rfl := List.mem_singleton.1 hy
          exact ⟨y, hi, decide_eq_true ⟨rfl, rfl⟩⟩
    | false =>
      rw [if_neg (by decide)]
      have hbk := hb _ (List.getElem_mem hk)
      refine ⟨hu, fun x hx => ?_, fun y hy => ?_⟩
      · obtain ⟨h1, h2⟩ := hb x hx
        refine ⟨List.mem_append_left _ h1, fun y hy hs => ?_⟩
        rcases List.mem_append.1 hy with hy | hy
        · exact h2 y hy hs
        · obtain rfl := List.mem_singleton.1 hy
          have h4 := spanI_iff.1 hs
          obtain ⟨j, hj, rfl⟩ := List.mem_iff_getElem.1 hx
          have hg := List.pairwise_iff_getElem.1 hu
          by_cases c : j = k
          · subst c; exact hf
          · rcases Nat.lt_or_ge j k with hjk | hjk
            · exact absurd ⟨by omega, by omega⟩ (hg j k hj hk hjk)
            · exact absurd ⟨by omega, by omega⟩ (hg k j hk hj (by omega))
      · rcases List.mem_append.1 hy with hy | hy
        · exact hc y hy
        · obtain rfl := List.mem_singleton.1 hy
          exact ⟨_, List.getElem_mem hk, decide_eq_true ⟨hp.1.symm, hp.2.symm⟩⟩
theorem bestOf_take {l : List Info} : ∀ {n : Nat}, n ≤ l.length → BestOf (l.take n) (bestP (l.take n))
  | 0, _ => bestOf_nil
  | n + 1, h => by rw [bestP_succ (by omega), List.take_succ_eq_append_getElem (by omega)]; exact bestOf_step (bestOf_take (by omega))
theorem bestOf (l : List Info) : BestOf l (bestP l) := by have := bestOf_take (l := l) (Nat.le_refl _); rwa [List.take_length] at this
/-- Whatever way the best are sorted, they come to the same. -/
theorem pick_of {l q : List Info} (hp : q.Perm (bestP l)) (hs : SortedF q) : q = pickB l :=
  sortF_unique (hp.trans (sortF_perm _).symm) hs (sortF_sorted _) (spansU_perm hp.symm (bestOf l).1)
theorem pick_all {l ys q : List Info} {j : Nat} (hy : ys = bestP l) (hp : q.Perm ys) (hs : SortedF q) (hj : j = q.length) : (q.take j).map Info.Id = pickI l := by
  rw [List.take_of_length_le (by omega)]; unfold pickI; rw [pick_of (hy ▸ hp) hs]
theorem pickB_len (l : List Info) : (pickB l).length ≤ l.length := by
  rw [pickB, (sortF_perm _).length_eq]; have := best_len (l := l) (n := l.length) (Nat.le_refl _); rwa [List.take_length] at this
theorem pickI_len (l : List Info) : (pickI l).length ≤ l.length := by unfold pickI; rw [List.length_map]; exact pickB_len l
theorem ids_snocF {q : List Info} {i : Nat} (h : i < q.length) : (q.take (i + 1)).map Info.Id = (q.take i).map Info.Id ++ [(q[i]'h).Id] := by rw [List.take_succ_eq_append_getElem h, List.map_append]; rfl
theorem turnF_sorted {l r : List Info} {n : Nat} (hT : TurnF l r 0 n) (hS : SrtR r 0 n) (hn : n = l.length) : r.Perm l ∧ SortedF r := ⟨hT.2.1, srt_all (by rw [hT.1, ← hn]; exact hS)⟩
end Go.Proofs.Ythanfecefjfbjaa
