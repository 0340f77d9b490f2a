/- Samples whose times rise, as they are made. -/
import Derived.Test.YthanfecefjfbjaaH
namespace Go.Proofs.Ythanfecefjfbjaa
def tAt (steps : List Int) (i : Nat) : Int := ((steps.take i).map fun s => 1 + s % 18446744073709551616 % 40).sum
def vAt (values : List Int) (j : Nat) : Int := match values[j]? with | some v => v | none => (j : Int)
def riseL (steps values : List Int) (n : Nat) : List Sample := (List.range n).map fun j => (⟨tAt steps (j + 1), vAt values j⟩ : Sample)
def riseN (steps : List Int) (most : Int) : Nat := min steps.length most.toNat
theorem tAt_succ {steps : List Int} {i : Nat} (h : i < steps.length) : tAt steps (i + 1) = tAt steps i + (1 + (steps[i]'h) % 18446744073709551616 % 40) := by
  unfold tAt
  rw [List.take_succ_eq_append_getElem h]
  simp only [List.map_append, List.sum_append, List.map_cons, List.map_nil, List.sum_cons, List.sum_nil, Int.add_zero]
theorem tAt_r {steps : List Int} : ∀ {i : Nat}, i ≤ steps.length → (i : Int) ≤ tAt steps i ∧ tAt steps i ≤ 40 * (i : Int)
  | 0, _ => by simp [tAt]
  | i + 1, h => by
    have h1 := tAt_r (steps := steps) (i := i) (by omega)
    rw [tAt_succ (steps := steps) (i := i) (by omega)]
    omega
theorem vAt_some {values : List Int} {j : Nat} (h : j < values.length) : vAt values j = values[j] := by
  unfold vAt; rw [List.getElem?_eq_getElem h]
theorem vAt_none {values : List Int} {j : Nat} (h : values.length ≤ j) : vAt values j = (j : Int) := by
  unfold vAt; rw [List.getElem?_eq_none h]
theorem rise_snoc {steps values : List Int} {i : Nat} {t v : Int} (ht : t = tAt steps (i + 1)) (hv : v = vAt values i) : riseL steps values i ++ [(⟨t, v⟩ : Sample)] = riseL steps values (i + 1) := by
  subst ht; subst hv
  unfold riseL
  rw [List.range_succ, List.map_append]; rfl
theorem rise_length (steps values : List Int) (n : Nat) : (riseL steps values n).length = n := by simp [riseL]
theorem rise_get (steps values : List Int) (n j : Nat) (h : j < (riseL steps values n).length) : (riseL steps values n)[j] = (⟨tAt steps (j + 1), vAt values j⟩ : Sample) := by simp [riseL]
theorem riseN_le (steps : List Int) (most : Int) : riseN steps most ≤ steps.length := Nat.min_le_left ..
theorem riseN_end {steps : List Int} {most : Int} {i : Nat} (hi : i ≤ steps.length) (hm : i ≤ most.toNat) (h : ¬ (i < steps.length) ∨ ¬ ((i : Int) < most)) : riseN steps most = i := by
  unfold riseN; omega
theorem rise_ok {steps values : List Int} {n : Nat} (hn : n ≤ steps.length) (hb : n ≤ 1000000) (hv : ∀ v ∈ values, i64R v) : ∀ s ∈ riseL steps values n, s.ok := by
  intro s hs
  obtain ⟨j, hj, rfl⟩ := List.getElem_of_mem hs
  rw [rise_get]
  rw [rise_length] at hj
  have h1 := tAt_r (steps := steps) (i := j + 1) (by omega)
  refine ⟨⟨by simp only []; omega, by simp only []; omega⟩, ?_⟩
  simp only []
  rcases Nat.lt_or_ge j values.length with h | h
  · rw [vAt_some h]; exact hv _ (List.getElem_mem h)
  · rw [vAt_none h]; omega
/-- Times that rise, by places. -/
theorem rises_of : ∀ (l : List Sample) (last : Int), (∀ j (h : j < l.length), last < l[j].T ∧ l[j].T ≤ 1099511627776) → (∀ i j (hi : i < j) (h : j < l.length), (l[i]'(by omega)).T < l[j].T) → risesFrom last l = true
  | [], _, _, _ => rfl
  | s :: l, last, h1, h2 => by
    have h0 := h1 0 (by simp)
    simp only [List.getElem_cons_zero] at h0
    rw [risesFrom, decide_eq_true h0, Bool.true_and]
    refine rises_of l s.T (fun j h => ?_) (fun i j hi h => ?_)
    · have a := h2 0 (j + 1) (by omega) (by simp; omega)
      have b := h1 (j + 1) (by simp; omega)
      simp only [List.getElem_cons_zero, List.getElem_cons_succ] at a b
      exact ⟨a, b.2⟩
    · have a := h2 (i + 1) (j + 1) (by omega) (by simp; omega)
      simpa only [List.getElem_cons_succ] using a
theorem tAt_lt {steps : List Int} {i : Nat} : ∀ {j : Nat}, i < j → j ≤ steps.length → tAt steps i < tAt steps j
  | 0, h, _ => by omega
  | j + 1, h, hj => by
    have e := tAt_succ (steps := steps) (i := j) (by omega)
    rcases Nat.lt_or_ge i j with h1 | h1
    · have := tAt_lt (steps := steps) (i := i) (j := j) h1 (by omega)
      omega
    · obtain rfl : i = j := by omega
      omega
theorem rise_rises {steps values : List Int} {n : Nat} (hn : n ≤ steps.length) (hb : n ≤ 1000000) : risingA (riseL steps values n) = true := by
  refine rises_of _ _ (fun j h => ?_) (fun i j hi h => ?_)
  · rw [rise_length] at h
    have h1 := tAt_r (steps := steps) (i := j + 1) (by omega)
    rw [rise_get]; simp only []; omega
  · rw [rise_length] at h
    rw [rise_get, rise_get]
    exact tAt_lt (by omega) (by omega)
end Go.Proofs.Ythanfecefjfbjaa
