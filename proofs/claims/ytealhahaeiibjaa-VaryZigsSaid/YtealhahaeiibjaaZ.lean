/- Laws of numbers as bytes. -/
import Derived.Test.YtealhahaeiibjaaY
namespace Go.Proofs.Ytealhahaeiibjaa
open Go.RowKit
theorem zig_cases (m : Int) : (m < 0 ∧ zig m = -2 * m - 1) ∨ (0 ≤ m ∧ zig m = 2 * m) := by unfold zig; split <;> omega
theorem zag_cases (n : Int) : (n % 2 = 1 ∧ zag n = -(n / 2) - 1) ∨ (n % 2 = 0 ∧ zag n = n / 2) := by unfold zag; split <;> omega
theorem zag_zig (m : Int) : zag (zig m) = m := by have := zig_cases m; have := zag_cases (zig m); omega
theorem zig_zag {n : Int} (h : 0 ≤ n) : zig (zag n) = n := by have := zag_cases n; have := zig_cases (zag n); omega
theorem zig_odd (m : Int) : (decide (zig m % 2 = 1) == decide (m < 0)) = true := by
  have := zig_cases m
  rw [beq_iff_eq, decide_eq_decide]; omega
theorem zig_next {m : Int} (h : 0 ≤ m) : zig (m + 1) = zig m + 2 := by have := zig_cases m; have := zig_cases (m + 1); omega
end Go.Proofs.Ytealhahaeiibjaa
