/- cmp.Compare[int] -/
import Derived.Test.YtadnedoecbfojaaT
import Derived.Test.YtadnedoecbfojaaJ
import Derived.Test.YtadnedoecbfojaaK
import Derived.Test.YtadnedoecbfojaaSM
import Derived.Test.YtadnedoecbfojaaW1
namespace Go.Proofs.Ytadnedoecbfojaa
open Go.RowKit

theorem c_Compare_int (w0 : World) (x : Int) (y : Int) :
    Calls Try.prog 19 #[(.int .i64 x), (.int .i64 y)] w0 fun e w' => e = .returned (.int .i64 (cmpI x y)) ∧ St w0 w' [] := by
  refine calls_E (n := 20) (ts := [4]) Try.func19 rfl rfl rfl (by simp) ?_
  have hst := St.start w0
  refine cE_seq ?_
  refine cE_region rfl ?_
  refine s_cons (op_assign (.int .i64 0) rfl ?_)
  refine s_nil ?_
  refine then_n ?_
  refine cE_seq ?_
  refine cE_region rfl ?_
  refine s_cons (op_move (.int .i64 x) rfl ?_)
  refine s_cons (op_call Try.call26 (evs_cons (v := (.int .i64 x)) rfl evs_nil) (c_isNaN_int (w0 := w0) (x := x)) ?_)
  rintro _ w1 ⟨rfl, hcall⟩
  refine ⟨_, rfl, ?_⟩
  have hst : St w0 w1 [] := hst.call hcall
  refine s_cons (op_assign (.bool false) rfl ?_)
  refine s_nil ?_
  refine then_n ?_
  refine cE_seq ?_
  refine cE_region rfl ?_
  refine s_cons (op_move (.int .i64 y) rfl ?_)
  refine s_cons (op_call Try.call26 (evs_cons (v := (.int .i64 y)) rfl evs_nil) (c_isNaN_int (w0 := w1) (x := y)) ?_)
  rintro _ w2 ⟨rfl, hcall⟩
  refine ⟨_, rfl, ?_⟩
  have hst : St w0 w2 [] := hst.call hcall
  refine s_cons (op_assign (.bool false) rfl ?_)
  refine s_nil ?_
  refine then_n ?_
  refine cE_seq ?_
  refine cE_seq ?_
  refine cE_region rfl ?_
  refine s_cons (op_move (.bool false) rfl ?_)
  refine s_nil ?_
  refine then_n ?_
  refine cE_cond false rfl (fun h => by cases h) (fun _ => ?_)
  refine cE_skip ?_
  refine then_n ?_
  refine cE_seq ?_
  refine cE_seq ?_
  refine cE_region rfl ?_
  refine s_cons (op_move (.bool false) rfl ?_)
  refine s_nil ?_
  refine then_n ?_
  refine cE_cond false rfl (fun h => by cases h) (fun _ => ?_)
  refine cE_skip ?_
  refine then_n ?_
  refine cE_seq ?_
  refine cE_seq ?_
  refine cE_region rfl ?_
  refine s_cons (op_move (.int .i64 x) rfl ?_)
  refine s_cons (op_move (.int .i64 y) rfl ?_)
  refine s_cons (op_lss (k := .i64) (a := x) (b := y) rfl rfl ?_)
  refine s_nil ?_
  refine then_n ?_
  rcases Bool.eq_false_or_eq_true (decide (x < y)) with b3 | b3
  · have c4 : x < y := of_decide_eq_true b3
    refine cE_cond true (congrArg Value.bool b3) (fun _ => ?_) (fun h => by cases h)
    refine cE_seq ?_
    refine cE_region rfl ?_
    refine s_cons (op_assign (.int .i64 (-1)) rfl ?_)
    refine s_nil ?_
    refine then_n ?_
    refine cE_ret ?_
    refine then_r ?_
    refine post_r _ (res1 (v := (.int .i64 (-1))) rfl) ?_
    exact ⟨(retv1 (congrArg (Value.int .i64) (show (-1) = (cmpI x y) from by (unfold cmpI; (repeat' split) <;> omega)))), hst.bare⟩
  have c5 : ¬ (x < y) := of_decide_eq_false b3
  refine cE_cond false (congrArg Value.bool b3) (fun h => by cases h) (fun _ => ?_)
  refine cE_skip ?_
  refine then_n ?_
  refine cE_seq ?_
  refine cE_seq ?_
  refine cE_region rfl ?_
  refine s_cons (op_move (.int .i64 x) rfl ?_)
  refine s_cons (op_move (.int .i64 y) rfl ?_)
  refine s_cons (op_gtr (k := .i64) (a := x) (b := y) rfl rfl ?_)
  refine s_nil ?_
  refine then_n ?_
  rcases Bool.eq_false_or_eq_true (decide (y < x)) with b6 | b6
  · have c7 : y < x := of_decide_eq_true b6
    refine cE_cond true (congrArg Value.bool b6) (fun _ => ?_) (fun h => by cases h)
    refine cE_seq ?_
    refine cE_region rfl ?_
    refine s_cons (op_assign (.int .i64 1) rfl ?_)
    refine s_nil ?_
    refine then_n ?_
    refine cE_ret ?_
    refine then_r ?_
    refine post_r _ (res1 (v := (.int .i64 1)) rfl) ?_
    exact ⟨(retv1 (congrArg (Value.int .i64) (show 1 = (cmpI x y) from by (unfold cmpI; (repeat' split) <;> omega)))), hst.bare⟩
  have c8 : ¬ (y < x) := of_decide_eq_false b6
  refine cE_cond false (congrArg Value.bool b6) (fun h => by cases h) (fun _ => ?_)
  refine cE_skip ?_
  refine then_n ?_
  refine cE_seq ?_
  refine cE_region rfl ?_
  refine s_cons (op_assign (.int .i64 0) rfl ?_)
  refine s_nil ?_
  refine then_n ?_
  refine cE_ret ?_
  refine post_r _ (res1 (v := (.int .i64 0)) rfl) ?_
  exact ⟨(retv1 (congrArg (Value.int .i64) (show 0 = (cmpI x y) from by (unfold cmpI; (repeat' split) <;> omega)))), hst.bare⟩

end Go.Proofs.Ytadnedoecbfojaa
