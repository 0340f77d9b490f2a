/- frames: twinkeepref13.small -/
import Derived.Test.YtfljkaigfmedeaaW1
import Derived.Test.YtfljkaigfmedeaaW2
import Derived.Test.YtfljkaigfmedeaaW3
import Derived.Test.YtfljkaigfmedeaaFC
import Derived.Test.YtfljkaigfmedeaaW10
import Derived.Test.YtfljkaigfmedeaaW11
import Derived.Test.YtfljkaigfmedeaaW12
import Derived.Test.YtfljkaigfmedeaaW13
import Derived.Test.YtfljkaigfmedeaaW14
import Derived.Test.YtfljkaigfmedeaaW15
import Derived.Test.YtfljkaigfmedeaaW16
import Derived.Test.YtfljkaigfmedeaaW17
import Derived.Test.YtfljkaigfmedeaaW18
import Derived.Test.YtfljkaigfmedeaaW19
namespace Go.Proofs.Ytfljkaigfmedeaa
open Go.RowKit

theorem c_rsmall (w0 : World) (n : Int) (most : Int) (n0 : 0 ≤ n) (n1 : n ≤ 18446744073709551615) (m0 : 0 ≤ most) (m1 : most ≤ 1099511627776) :
    Calls Try.prog 27 #[(.int .u64 n), (.int .u64 most)] w0 fun e w' => e = .returned (.int .i64 (small n most)) ∧ St w0 w' [] := by
  refine calls_E (n := 13) (ts := [4]) Try.func27 rfl rfl rfl (by simp) ?_
  have hst := St.start w0
  refine cE_seq ?_
  refine cE_region rfl ?_
  refine s_cons (op_assign (.int .i64 0) rfl ?_)
  refine s_nil ?_
  refine then_n ?_
  refine cE_seq ?_
  refine cE_seq ?_
  refine cE_region rfl ?_
  refine s_cons (op_move (.int .u64 n) rfl ?_)
  refine s_cons (op_move (.int .u64 most) rfl ?_)
  refine s_cons (op_gtr (k := .u64) (a := n) (b := most) rfl rfl ?_)
  refine s_nil ?_
  refine then_n ?_
  rcases Bool.eq_false_or_eq_true (decide (most < n)) with b1 | b1
  · have c2 : most < n := of_decide_eq_true b1
    refine cE_cond true (congrArg Value.bool b1) (fun _ => ?_) (fun h => by cases h)
    refine cE_seq ?_
    refine cE_region rfl ?_
    refine s_cons (op_move (.int .u64 most) rfl ?_)
    refine s_cons (op_conv (k := .u64) (a := most) most Try.underlying2 (by rw [Try.underlying41]; rfl) rfl (xi64 (by omega) (by omega)) ?_)
    refine s_cons (op_add (k := .i64) (a := most) (b := 1) (most + 1) rfl rfl (xi64 (by omega) (by omega)) ?_)
    refine s_cons (op_assign (.int .i64 (most + 1)) rfl ?_)
    refine s_nil ?_
    refine then_n ?_
    refine cE_ret ?_
    refine then_r ?_
    refine post_r _ (res1 (v := (.int .i64 (most + 1))) rfl) ?_
    exact ⟨(retv1 (congrArg (Value.int .i64) (show (most + 1) = (small n most) from by first | exact small_yes (by assumption) | exact small_no (by assumption)))), hst.bare⟩
  · have c3 : ¬ (most < n) := of_decide_eq_false b1
    refine cE_cond false (congrArg Value.bool b1) (fun h => by cases h) (fun _ => ?_)
    refine cE_skip ?_
    refine then_n ?_
    refine cE_seq ?_
    refine cE_region rfl ?_
    refine s_cons (op_move (.int .u64 n) rfl ?_)
    refine s_cons (op_conv (k := .u64) (a := n) n Try.underlying2 (by rw [Try.underlying41]; rfl) rfl (xi64 (by omega) (by omega)) ?_)
    refine s_cons (op_assign (.int .i64 n) rfl ?_)
    refine s_nil ?_
    refine then_n ?_
    refine cE_ret ?_
    refine post_r _ (res1 (v := (.int .i64 n)) rfl) ?_
    exact ⟨(retv1 (congrArg (Value.int .i64) (show n = (small n most) from by first | exact small_yes (by assumption) | exact small_no (by assumption)))), hst.bare⟩

end Go.Proofs.Ytfljkaigfmedeaa
