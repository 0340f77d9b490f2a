/- cmp.isNaN[int] -/
import Derived.Test.YtadnedoecbfojaaT
import Derived.Test.YtadnedoecbfojaaJ
import Derived.Test.YtadnedoecbfojaaK
import Derived.Test.YtadnedoecbfojaaSM
namespace Go.Proofs.Ytadnedoecbfojaa
open Go.RowKit

theorem c_isNaN_int (w0 : World) (x : Int) :
    Calls Try.prog 26 #[(.int .i64 x)] w0 fun e w' => e = .returned (.bool false) ∧ St w0 w' [] := by
  refine calls_E (n := 6) (ts := [2]) Try.func26 rfl rfl rfl (by simp) ?_
  have hst := St.start w0
  refine cE_seq ?_
  refine cE_region rfl ?_
  refine s_cons (op_assign (.bool false) rfl ?_)
  refine s_nil ?_
  refine then_n ?_
  refine cE_seq ?_
  refine cE_region rfl ?_
  refine s_cons (op_move (.int .i64 x) rfl ?_)
  refine s_cons (op_move (.int .i64 x) rfl ?_)
  refine s_cons (op_neq (k := .i64) (a := x) (b := x) rfl rfl ?_)
  refine s_cons (op_assign (.bool (!decide (x = x))) rfl ?_)
  refine s_nil ?_
  refine then_n ?_
  refine cE_ret ?_
  refine post_r _ (res1 (v := (.bool false)) (congrArg Value.bool (congrArg (! ·) (show (decide (x = x)) = true from (decide_eq_true rfl))))) ?_
  exact ⟨rfl, hst.bare⟩

end Go.Proofs.Ytadnedoecbfojaa
