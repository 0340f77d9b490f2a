/- The windows of samples that rise: none fails, and what they hold. -/
import Derived.Test.YtpamjfbdgaamoaaU
import Derived.Test.YtpamjfbdgaamoaaI
namespace Go.Proofs.Ytpamjfbdgaamoaa
abbrev Asc (l : List Sample) : Prop := List.Pairwise (fun a b : Sample => a.T < b.T) l ∧ ∀ s ∈ l, 0 ≤ s.T ∧ s.T ≤ 1099511627776
theorem asc_of : ∀ (l : List Sample) (last : Int), -1 ≤ last → risesFrom last l = true → Asc l ∧ ∀ s ∈ l, last < s.T
  | [], _, _, _ => ⟨⟨List.Pairwise.nil, by simp⟩, by simp⟩
  | s :: l, last, hl, h => by
    rw [risesFrom, Bool.and_eq_true, decide_eq_true_eq] at h
    obtain ⟨⟨h1, h2⟩, h3⟩ := h
    obtain ⟨⟨h4, h5⟩, h6⟩ := asc_of l s.T (by omega) h3
    refine ⟨⟨List.Pairwise.cons h6 h4, ?_⟩, ?_⟩
    · intro x hx
      rcases List.mem_cons.1 hx with rfl | hx
      · omega
      · exact h5 x hx
    · intro x hx
      rcases List.mem_cons.1 hx with rfl | hx
      · exact h1
      · have := h6 x hx; omega
theorem width3 {k : Int} (h0 : 0 < k) (h4 : k < 4) : widthA k = 5 ∨ widthA k = 60 ∨ widthA k = 1440 := by
  have : k = 1 ∨ k = 2 ∨ k = 3 := by omega
  rcases this with rfl | rfl | rfl
  · exact Or.inl rfl
  · exact Or.inr (Or.inl rfl)
  · exact Or.inr (Or.inr rfl)
theorem floor_mono {t u k : Int} (h0 : 0 < k) (h4 : k < 4) (ht : 0 ≤ t) (htu : t ≤ u) (hu : u ≤ 1099511627776) : floorA t k ≤ floorA u k := by
  rcases width3 h0 h4 with h | h | h <;> rw [floor_eq h (by decide) ht (by omega), floor_eq h (by decide) (by omega) hu] <;> omega
theorem floor_nn {t k : Int} (h0 : 0 < k) (h4 : k < 4) (ht : 0 ≤ t) (hu : t ≤ 1099511627776) : 0 ≤ floorA t k ∧ floorA t k ≤ t ∧ floorA (floorA t k) k = floorA t k := by
  rcases width3 h0 h4 with h | h | h <;> rw [floor_eq h (by decide) ht hu, floor_eq h (by decide) (by omega) (by omega)] <;> omega
theorem winLen_le (k fr : Int) : ∀ l : List Sample, winLen k fr l ≤ l.length
  | [] => Nat.le_refl _
  | s :: l => by
    have := winLen_le k fr l
    rw [winLen]; split
    · simp only [List.length_cons]; omega
    · exact Nat.zero_le _
theorem win_drop (k fr : Int) : ∀ (l : List Sample) (s : Sample) (r : List Sample), l.drop (winLen k fr l) = s :: r → ¬ floorA s.T k = fr
  | [], s, r, h => by simp [winLen] at h
  | x :: l, s, r, h => by
    rw [winLen] at h
    split at h
    · exact win_drop k fr l s r (by simpa using h)
    · rename_i hx
      simp only [List.drop_zero, List.cons.injEq] at h
      rw [← h.1]; exact hx
theorem sumS_append (a b : List Sample) : sumS (a ++ b) = sumS a + sumS b := by simp [sumS]
theorem aggL_count (fr : Int) {l : List Sample} : (aggL fr l).Count = (l.length : Int) := by
  cases l with
  | nil => rfl
  | cons s l => simp only [aggL, accL_count, List.length_cons]; omega
theorem aggL_sum (fr : Int) {l : List Sample} : (aggL fr l).Sum = sumS l := by
  cases l with
  | nil => rfl
  | cons s l =>
    have := (accL_facts l (oneA s.V fr)).2.2.1
    simp only [aggL]; rw [this]; simp [sumS]
theorem aggL_from (fr : Int) {l : List Sample} (h : 0 < l.length) : (aggL fr l).From = fr := by
  cases l with
  | nil => simp at h
  | cons s l => exact (accL_facts l (oneA s.V fr)).1
def wins (k : Int) : Nat → List Sample → List Agg
  | 0, _ => []
  | _ + 1, [] => []
  | f + 1, s :: l => aggL (floorA s.T k) ((s :: l).take (winLen k (floorA s.T k) (s :: l))) :: wins k f ((s :: l).drop (winLen k (floorA s.T k) (s :: l)))
theorem wins_all {k : Int} (h0 : 0 < k) (h4 : k < 4) : ∀ (f : Nat) (l : List Sample) (last : Int), l.length ≤ f → l.length ≤ 1000000 → Asc l → (∀ s ∈ l, smallS s) → (∀ s ∈ l, last < floorA s.T k) →
    (∀ out, rawL k f l out = (out ++ wins k f l, 0)) ∧ alignsFrom k last (wins k f l) = true ∧ ((wins k f l).map Agg.Count).sum = (l.length : Int) ∧ ((wins k f l).map Agg.Sum).sum = sumS l
  | 0, l, last, hf, _, _, _, _ => by
    obtain rfl := List.length_eq_zero_iff.1 (by omega : l.length = 0)
    exact ⟨fun out => by simp [rawL, wins], rfl, rfl, rfl⟩
  | f + 1, [], last, _, _, _, _, _ => ⟨fun out => by simp [rawL, wins], rfl, rfl, rfl⟩
  | f + 1, s :: l, last, hf, hn, ha, hs, hl => by
    have hs0 := ha.2 s (List.mem_cons_self ..)
    have hfl := floor_nn h0 h4 hs0.1 hs0.2
    have hp : 0 < winLen k (floorA s.T k) (s :: l) := by simp [winLen]
    have hle := winLen_le k (floorA s.T k) (s :: l)
    have hd := win_drop k (floorA s.T k) (s :: l)
    generalize hw : winLen k (floorA s.T k) (s :: l) = n at *
    have e1 : ((s :: l).take n).length = n := by rw [List.length_take]; omega
    have e2 : ((s :: l).drop n).length = (s :: l).length - n := List.length_drop
    have hfine := all_fine (fr := floorA s.T k) hfl.1 (by omega) (l := (s :: l).take n) (by omega) (by omega) (fun x hx => hs x (List.mem_of_mem_take hx))
    have hdrop : ∀ x ∈ (s :: l).drop n, floorA s.T k < floorA x.T k := by
      have hpw : List.Pairwise (fun a b : Sample => a.T < b.T) ((s :: l).drop n) := ha.1.sublist (List.drop_sublist ..)
      have hb : ∀ x ∈ (s :: l).drop n, 0 ≤ x.T ∧ x.T ≤ 1099511627776 := fun x hx => ha.2 x (List.mem_of_mem_drop hx)
      have hge : ∀ x ∈ (s :: l).drop n, s.T ≤ x.T := by
        intro x hx
        rcases List.mem_cons.1 (List.mem_of_mem_drop hx) with rfl | h
        · exact Int.le_refl _
        · exact Int.le_of_lt (List.rel_of_pairwise_cons ha.1 h)
      cases hq : (s :: l).drop n with
      | nil => intro x hx; cases hx
      | cons y r =>
        rw [hq] at hpw hb hge
        have hy := hd y r hq
        have hy1 := hb y (List.mem_cons_self ..)
        have hm := floor_mono h0 h4 hs0.1 (hge y (List.mem_cons_self ..)) hy1.2
        intro x hx
        rcases List.mem_cons.1 hx with rfl | hx
        · omega
        · have h1 := List.rel_of_pairwise_cons hpw hx
          have h2 := floor_mono h0 h4 hy1.1 (Int.le_of_lt h1) (hb x (List.mem_cons_of_mem _ hx)).2
          omega
    obtain ⟨i1, i2, i3, i4⟩ := wins_all h0 h4 f ((s :: l).drop n) (floorA s.T k) (by rw [e2]; simp only [List.length_cons] at hf ⊢; omega) (by omega) ⟨ha.1.sublist (List.drop_sublist ..), fun x hx => ha.2 x (List.mem_of_mem_drop hx)⟩ (fun x hx => hs x (List.mem_of_mem_drop hx)) hdrop
    have ew : wins k (f + 1) (s :: l) = aggL (floorA s.T k) ((s :: l).take n) :: wins k f ((s :: l).drop n) := by rw [wins, hw]
    rw [ew]
    refine ⟨fun out => ?_, ?_, ?_, ?_⟩
    · rw [rawL, hw, hfine.1, if_pos rfl, i1, List.append_assoc]; rfl
    · have ef := aggL_from (floorA s.T k) (l := (s :: l).take n) (by omega)
      rw [alignsFrom, mayA_iff.2 hfine.2, ef, decide_eq_true ⟨hfl.2.2.symm, hl s (List.mem_cons_self ..)⟩, i2]; rfl
    · simp only [List.map_cons, List.sum_cons, i3, aggL_count]; omega
    · simp only [List.map_cons, List.sum_cons, i4, aggL_sum]
      rw [← sumS_append, List.take_append_drop]
theorem raw_rising {l : List Sample} {k : Int} (h0 : 0 < k) (h4 : k < 4) (hr : risingA l = true) (hn : l.length ≤ 1000000) (hs : ∀ s ∈ l, smallS s) :
    (rawA l k).2 = 0 ∧ alignedA (rawA l k).1 k = true ∧ ((rawA l k).1.map Agg.Count).sum = (l.length : Int) ∧ ((rawA l k).1.map Agg.Sum).sum = sumS l := by
  have ha := asc_of l (-1) (by omega) hr
  obtain ⟨i1, i2, i3, i4⟩ := wins_all h0 h4 l.length l (-1) (Nat.le_refl _) hn ha.1 hs (fun s h => by have := floor_nn h0 h4 (ha.1.2 s h).1 (ha.1.2 s h).2; omega)
  have hc : coarseA k = true := by simp only [coarseA, decide_eq_true_eq]; omega
  unfold rawA
  rw [if_pos ⟨hr, hc⟩, i1]
  refine ⟨rfl, ?_, ?_, ?_⟩
  · unfold alignedA; rw [hc]; simpa using i2
  · simpa using i3
  · simpa using i4
theorem rises_congr : ∀ (l r : List Sample) (last : Int), l.map Sample.T = r.map Sample.T → risesFrom last l = risesFrom last r
  | [], [], _, _ => rfl
  | [], _ :: _, _, h => by simp at h
  | _ :: _, [], _, h => by simp at h
  | s :: l, u :: r, last, h => by
    simp only [List.map_cons, List.cons.injEq] at h
    rw [risesFrom, risesFrom, h.1, rises_congr l r u.T h.2]
theorem mapT_set {xs : List Sample} {i : Nat} (h : i < xs.length) (v : Int) : (xs.set i (⟨(xs[i]'h).T, v⟩ : Sample)).map Sample.T = xs.map Sample.T := by
  rw [List.map_set]
  have e : (xs.map Sample.T)[i]'(by simpa using h) = (xs[i]'h).T := List.getElem_map ..
  simp only []
  rw [← e, List.set_getElem_self]
end Go.Proofs.Ytpamjfbdgaamoaa
