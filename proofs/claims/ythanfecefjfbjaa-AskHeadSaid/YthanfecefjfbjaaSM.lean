/- Two lists, place by place. -/
import Derived.Test.YthanfecefjfbjaaC
namespace Go.Proofs.Ythanfecefjfbjaa
section
variable {α : Type} [DecidableEq α] {a b : List α} {i : Nat}
theorem same_len (h : ¬ ((a.length : Int) = (b.length : Int))) : false = decide (a = b) := (decide_eq_false fun e => h (by rw [e])).symm
theorem same_no (h : i < a.length) (h' : i < b.length) (hne : ¬ a[i] = b[i]) : false = decide (a = b) := (decide_eq_false fun e => hne (by subst e; rfl)).symm
theorem same_end (hi : i = a.length) (hl : (a.length : Int) = (b.length : Int)) (he : a.take i = b.take i) : true = decide (a = b) :=
  (decide_eq_true (by rw [List.take_of_length_le (by omega), List.take_of_length_le (by omega)] at he; exact he)).symm
end
theorem same_step {α : Type} {a b : List α} {i : Nat} (he : a.take i = b.take i) (h : i < a.length) (h' : i < b.length) (heq : a[i] = b[i]) : a.take (i + 1) = b.take (i + 1) := by
  rw [List.take_succ_eq_append_getElem h, List.take_succ_eq_append_getElem h', he, heq]
end Go.Proofs.Ythanfecefjfbjaa
