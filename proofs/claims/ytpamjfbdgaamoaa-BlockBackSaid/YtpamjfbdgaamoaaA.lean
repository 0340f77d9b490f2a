/- Sums over windows, by parts. -/
import Derived.Test.YtpamjfbdgaamoaaQ
namespace Go.Proofs.Ytpamjfbdgaamoaa
def cntA (A : List Agg) : Int := (A.map Agg.Count).sum
def smA (A : List Agg) : Int := (A.map Agg.Sum).sum
abbrev Wn (a : Agg) : Prop := 1 ≤ a.Count ∧ -(1000000000 * a.Count) ≤ a.Sum ∧ a.Sum ≤ 1000000000 * a.Count
theorem cnt_succ {A : List Agg} {j : Nat} (h : j < A.length) : cntA (A.take (j + 1)) = cntA (A.take j) + (A[j]'h).Count := by
  unfold cntA; rw [List.take_succ_eq_append_getElem h]; simp only [List.map_append, List.sum_append, List.map_cons, List.map_nil, List.sum_cons, List.sum_nil, Int.add_zero]
theorem sm_succ {A : List Agg} {j : Nat} (h : j < A.length) : smA (A.take (j + 1)) = smA (A.take j) + (A[j]'h).Sum := by
  unfold smA; rw [List.take_succ_eq_append_getElem h]; simp only [List.map_append, List.sum_append, List.map_cons, List.map_nil, List.sum_cons, List.sum_nil, Int.add_zero]
theorem cnt_nn : ∀ {A : List Agg}, (∀ a ∈ A, Wn a) → 0 ≤ cntA A
  | [], _ => Int.le_refl _
  | a :: A, h => by
    have h1 := cnt_nn (A := A) fun x hx => h x (List.mem_cons_of_mem _ hx)
    have h2 := h a (List.mem_cons_self ..)
    simp only [cntA, List.map_cons, List.sum_cons] at h1 ⊢; omega
theorem len_cnt : ∀ {A : List Agg}, (∀ a ∈ A, Wn a) → (A.length : Int) ≤ cntA A
  | [], _ => Int.le_refl _
  | a :: A, h => by
    have h1 := len_cnt (A := A) fun x hx => h x (List.mem_cons_of_mem _ hx)
    have h2 := h a (List.mem_cons_self ..)
    simp only [cntA, List.map_cons, List.sum_cons, List.length_cons] at h1 ⊢; omega
theorem part_bounds {A : List Agg} (h : ∀ a ∈ A, Wn a) : ∀ {j : Nat}, j ≤ A.length → 0 ≤ cntA (A.take j) ∧ cntA (A.take j) ≤ cntA A ∧ -(1000000000 * cntA (A.take j)) ≤ smA (A.take j) ∧ smA (A.take j) ≤ 1000000000 * cntA (A.take j) := by
  intro j
  have htot : cntA (A.take j) ≤ cntA A := by
    have e : cntA A = cntA (A.take j) + cntA (A.drop j) := by
      unfold cntA; rw [← List.sum_append, ← List.map_append, List.take_append_drop]
    have := cnt_nn (A := A.drop j) fun x hx => h x (List.mem_of_mem_drop hx)
    omega
  induction j with
  | zero => intro _; simp only [List.take_zero] at htot ⊢; exact ⟨Int.le_refl _, htot, by decide, by decide⟩
  | succ j ih =>
    intro hj
    have e1 := cnt_succ (A := A) (j := j) (by omega)
    have e2 := sm_succ (A := A) (j := j) (by omega)
    have hw := h A[j] (List.getElem_mem _)
    have h1 := ih (by omega) (by omega)
    omega
theorem sumS_bound : ∀ (l : List Sample), (∀ s ∈ l, smallS s) → -(1000000000 * (l.length : Int)) ≤ sumS l ∧ sumS l ≤ 1000000000 * (l.length : Int)
  | [], _ => by simp [sumS]
  | s :: l, h => by
    have h1 := sumS_bound l fun x hx => h x (List.mem_cons_of_mem _ hx)
    have h2 := h s (List.mem_cons_self ..)
    unfold smallS at h2
    simp only [sumS, List.map_cons, List.sum_cons, List.length_cons] at h1 ⊢; omega
theorem wins_wn {k : Int} : ∀ (f : Nat) (l : List Sample), (∀ s ∈ l, smallS s) → ∀ a ∈ wins k f l, Wn a
  | 0, l, _, a, ha => by simp [wins] at ha
  | f + 1, [], _, a, ha => by simp [wins] at ha
  | f + 1, s :: l, hs, a, ha => by
    rw [wins] at ha
    rcases List.mem_cons.1 ha with rfl | ha
    · have hb := sumS_bound ((s :: l).take (winLen k (floorA s.T k) (s :: l))) fun x hx => hs x (List.mem_of_mem_take hx)
      have hp : 0 < winLen k (floorA s.T k) (s :: l) := by simp [winLen]
      have hle : ((s :: l).take (winLen k (floorA s.T k) (s :: l))).length = min (winLen k (floorA s.T k) (s :: l)) (s :: l).length := List.length_take
      have hl : 0 < (s :: l).length := by simp
      unfold Wn
      rw [aggL_count, aggL_sum]
      omega
    · exact wins_wn f _ (fun x hx => hs x (List.mem_of_mem_drop hx)) a ha
theorem raw_wn {l : List Sample} {k : Int} (h0 : 0 < k) (h4 : k < 4) (hr : risingA l = true) (hn : l.length ≤ 1000000) (hs : ∀ s ∈ l, smallS s) : ∀ a ∈ (rawA l k).1, Wn a := by
  have ha := asc_of l (-1) (by omega) hr
  obtain ⟨i1, _⟩ := wins_all h0 h4 l.length l (-1) (Nat.le_refl _) hn ha.1 hs (fun s h => by have := floor_nn h0 h4 (ha.1.2 s h).1 (ha.1.2 s h).2; omega)
  have hc : coarseA k = true := by simp only [coarseA, decide_eq_true_eq]; omega
  unfold rawA
  rw [if_pos ⟨hr, hc⟩, i1]
  simpa using wins_wn (k := k) l.length l hs
theorem rawL_ok {k : Int} : ∀ (f : Nat) (l : List Sample) (out : List Agg), (∀ s ∈ l, s.ok) → (∀ a ∈ out, a.ok) → ∀ a ∈ (rawL k f l out).1, a.ok
  | 0, l, out, _, ho => ho
  | f + 1, [], out, _, ho => ho
  | f + 1, s :: l, out, hl, ho => by
    rw [rawL]
    split
    · refine rawL_ok f _ _ (fun x hx => hl x (List.mem_of_mem_drop hx)) (snoc_okA ho (allA_ok ?_ fun x hx => hl x (List.mem_of_mem_take hx)))
      have := floorA_r s.T k
      exact ⟨by omega, by omega⟩
    · exact nil_okA
theorem rawA_ok {l : List Sample} {k : Int} (hl : ∀ s ∈ l, s.ok) : ∀ a ∈ (rawA l k).1, a.ok := by
  unfold rawA
  split
  · exact rawL_ok _ _ _ hl nil_okA
  · exact nil_okA
theorem riseN_le2 (steps : List Int) (most : Int) : riseN steps most ≤ most.toNat := Nat.min_le_right ..
end Go.Proofs.Ytpamjfbdgaamoaa
