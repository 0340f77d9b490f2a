/- The first note of a kind. -/
import Derived.Test.YthanfecefjfbjaaOI
namespace Go.Proofs.Ythanfecefjfbjaa
def idxI (p : Info → Bool) (l : List Info) : Int := match l.findIdx? p with | some i => (i : Int) | none => -1
section
variable {p : Info → Bool} {l : List Info} {i : Nat}
theorem idx_none : ∀ (j : Nat) (h : j < l.length), j < 0 → p (l[j]'h) = false := fun j _ h => by omega
theorem idx_next (hN : ∀ (j : Nat) (h : j < l.length), j < i → p (l[j]'h) = false) (hi : i < l.length) (h0 : p (l[i]'hi) = false) : ∀ (j : Nat) (h : j < l.length), j < i + 1 → p (l[j]'h) = false := by
  intro j h hj
  by_cases e : j = i
  · subst e; exact h0
  · exact hN j h (by omega)
theorem idx_at (hN : ∀ (j : Nat) (h : j < l.length), j < i → p (l[j]'h) = false) (hi : i < l.length) (h0 : p (l[i]'hi) = true) : idxI p l = (i : Int) := by
  have : l.findIdx? p = some i := List.findIdx?_eq_some_iff_getElem.2 ⟨hi, h0, fun j hj => by rw [hN j (by omega) hj]; decide⟩
  unfold idxI; rw [this]
theorem idx_end (hN : ∀ (j : Nat) (h : j < l.length), j < i → p (l[j]'h) = false) (hi : i = l.length) : idxI p l = -1 := by
  have : l.findIdx? p = none := List.findIdx?_eq_none_iff.2 fun x hx => by
    obtain ⟨j, hj, rfl⟩ := List.mem_iff_getElem.1 hx
    exact hN j hj (by omega)
  unfold idxI; rw [this]
theorem idx_any : decide (0 ≤ idxI p l) = l.any p := by
  unfold idxI
  cases h : l.findIdx? p with
  | none =>
    have := List.findIdx?_eq_none_iff.1 h
    simp only []
    rw [decide_eq_false (by decide)]
    symm
    rw [List.any_eq_false]
    intro x hx; rw [this x hx]; decide
  | some i =>
    obtain ⟨h1, h2, _⟩ := List.findIdx?_eq_some_iff_getElem.1 h
    simp only []
    rw [decide_eq_true (by omega)]
    exact (List.any_eq_true.2 ⟨l[i], List.getElem_mem h1, h2⟩).symm
end
end Go.Proofs.Ythanfecefjfbjaa
