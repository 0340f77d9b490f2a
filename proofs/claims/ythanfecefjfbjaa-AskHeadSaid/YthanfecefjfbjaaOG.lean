/- The first element of a kind, of whatever type. -/
import Derived.Test.YthanfecefjfbjaaC
namespace Go.Proofs.Ythanfecefjfbjaa
def idxG {α : Type} (p : α → Bool) (l : List α) : Int := match l.findIdx? p with | some i => (i : Int) | none => -1
section
variable {α : Type} {p : α → Bool} {l : List α} {i : Nat}
theorem idxG_none : ∀ (j : Nat) (h : j < l.length), j < 0 → p (l[j]'h) = false := fun j _ h => by omega
theorem idxG_next (hN : ∀ (j : Nat) (h : j < l.length), j < i → p (l[j]'h) = false) (hi : i < l.length) (h0 : p (l[i]'hi) = false) : ∀ (j : Nat) (h : j < l.length), j < i + 1 → p (l[j]'h) = false := by
  intro j h hj
  by_cases e : j = i
  · subst e; exact h0
  · exact hN j h (by omega)
theorem idxG_at (hN : ∀ (j : Nat) (h : j < l.length), j < i → p (l[j]'h) = false) (hi : i < l.length) (h0 : p (l[i]'hi) = true) : idxG p l = (i : Int) := by
  have : l.findIdx? p = some i := List.findIdx?_eq_some_iff_getElem.2 ⟨hi, h0, fun j hj => by rw [hN j (by omega) hj]; decide⟩
  unfold idxG; rw [this]
theorem idxG_end (hN : ∀ (j : Nat) (h : j < l.length), j < i → p (l[j]'h) = false) (hi : i = l.length) : idxG p l = -1 := by
  have : l.findIdx? p = none := List.findIdx?_eq_none_iff.2 fun x hx => by
    obtain ⟨j, hj, rfl⟩ := List.mem_iff_getElem.1 hx
    exact hN j hj (by omega)
  unfold idxG; rw [this]
theorem idxG_any : decide (0 ≤ idxG p l) = l.any p := by
  unfold idxG
  cases h : l.findIdx? p with
  | none =>
    have := List.findIdx?_eq_none_iff.1 h
    simp only []
    rw [decide_eq_false (by decide)]
    symm
    rw [List.any_eq_false]
    intro x hx; rw [this x hx]; decide
  | some i =>
    obtain ⟨h1, h2, _⟩ := List.findIdx?_eq_some_iff_getElem.1 h
    simp only []
    rw [decide_eq_true (by omega)]
    exact (List.any_eq_true.2 ⟨l[i], List.getElem_mem h1, h2⟩).symm
theorem idxG_r (p : α → Bool) (l : List α) : -1 ≤ idxG p l ∧ (idxG p l < (l.length : Int)) := by
  unfold idxG
  cases h : l.findIdx? p with
  | none => simp only []; omega
  | some i =>
    obtain ⟨h1, _⟩ := List.findIdx?_eq_some_iff_getElem.1 h
    simp only []; omega
theorem idxG_has {x : α} (hx : x ∈ l) (h : p x = true) : ∃ hk : (idxG p l).toNat < l.length, 0 ≤ idxG p l ∧ p (l[(idxG p l).toNat]'hk) = true := by
  unfold idxG
  cases e : l.findIdx? p with
  | none => have := List.findIdx?_eq_none_iff.1 e x hx; rw [h] at this; cases this
  | some i =>
    obtain ⟨h1, h2, _⟩ := List.findIdx?_eq_some_iff_getElem.1 e
    simp only [Int.toNat_natCast]
    exact ⟨h1, by omega, h2⟩
end
end Go.Proofs.Ythanfecefjfbjaa
