/- Rising, aligned: by elements that may not be there. -/
import Derived.Test.YthanfecefjfbjaaTR
import Derived.Test.YthanfecefjfbjaaLZ
namespace Go.Proofs.Ythanfecefjfbjaa
instance : Inhabited Sample := ⟨⟨0, 0⟩⟩
instance : Inhabited Agg := ⟨⟨0, 0, 0, 0, 0, 0, 0⟩⟩
theorem lastT_gd {l : List Sample} {i : Nat} (h0 : 0 < i) (h : i - 1 < l.length) : lastT l i = (gd l (i - 1)).T := by rw [lastT_pred h0 h, gd_eq h]
theorem lastF_gd {l : List Agg} {i : Nat} (h0 : 0 < i) (h : i - 1 < l.length) : lastF l i = (gd l (i - 1)).From := by rw [lastF_pred h0 h, gd_eq h]
theorem lastT_low {l : List Sample} {i : Nat} (h : i < l.length) (hl : ¬ ((gd l i).T < 0)) : -1 ≤ lastT l (i + 1) := by rw [lastT_succ h]; rw [gd_eq h] at hl; omega
theorem rr_goG {l : List Sample} {i : Nat} (h : i < l.length) (h0 : ¬ ((gd l i).T < 0)) (h1 : ¬ (1099511627776 < (gd l i).T)) (h2 : ¬ (((0 < (i : Int))) ∧ ((gd l i).T ≤ (gd l (i - 1)).T))) : risesFrom (lastT l i) (l.drop i) = risesFrom (lastT l (i + 1)) (l.drop (i + 1)) := by
  by_cases c : 0 < (i : Int)
  · rw [← lastT_gd (by omega) (by omega)] at h2
    rw [gd_eq h] at h0 h1 h2
    exact rr_go h h0 h1 (Or.inr fun e => h2 ⟨c, e⟩)
  · rw [gd_eq h] at h0 h1; exact rr_go h h0 h1 (Or.inl c)
theorem rr_noG {l : List Sample} {i : Nat} (h : i < l.length) (h0 : (((gd l i).T < 0) ∨ (1099511627776 < (gd l i).T)) ∨ ((0 < (i : Int)) ∧ ((gd l i).T ≤ (gd l (i - 1)).T))) (hl : -1 ≤ lastT l i) : risesFrom (lastT l i) (l.drop i) = false := by
  refine rr_no h ?_ hl
  rcases h0 with (h0 | h0) | ⟨h0, h1⟩
  · rw [gd_eq h] at h0; exact Or.inl h0
  · rw [gd_eq h] at h0; exact Or.inr (Or.inl h0)
  · rw [← lastT_gd (by omega) (by omega), gd_eq h] at h1; exact Or.inr (Or.inr ⟨h0, h1⟩)
theorem ra_goG {l : List Agg} {k : Int} {i : Nat} (h : i < l.length) (hm : mayA (gd l i) = true) (h0 : floorA (gd l i).From k = (gd l i).From) (h2 : ¬ ((0 < (i : Int)) ∧ ((gd l i).From ≤ (gd l (i - 1)).From))) : alignsFrom k (lastF l i) (l.drop i) = alignsFrom k (lastF l (i + 1)) (l.drop (i + 1)) := by
  by_cases c : 0 < (i : Int)
  · rw [← lastF_gd (by omega) (by omega)] at h2
    rw [gd_eq h] at h0 hm h2
    exact ra_go h hm h0 (Or.inr fun e => h2 ⟨c, e⟩)
  · rw [gd_eq h] at h0 hm; exact ra_go h hm h0 (Or.inl c)
theorem ra_noG {l : List Agg} {k : Int} {i : Nat} (h : i < l.length) (h0 : ((¬ (mayA (gd l i) = true)) ∨ (¬ (floorA (gd l i).From k = (gd l i).From))) ∨ ((0 < (i : Int)) ∧ ((gd l i).From ≤ (gd l (i - 1)).From))) : alignsFrom k (lastF l i) (l.drop i) = false := by
  refine ra_no h ?_
  rcases h0 with (h0 | h0) | ⟨h0, h1⟩
  · rw [gd_eq h] at h0; exact Or.inl (by simpa using h0)
  · rw [gd_eq h] at h0; exact Or.inr (Or.inl h0)
  · rw [← lastF_gd (by omega) (by omega), gd_eq h] at h1; exact Or.inr (Or.inr h1)
end Go.Proofs.Ythanfecefjfbjaa
