/- the reference: twinkeepref1.Width -/
import Derived.Test.YtffnhcioponbbaaTR
import Derived.Test.YtffnhcioponbbaaT
import Derived.Test.YtffnhcioponbbaaW20
namespace Go.Proofs.Ytffnhcioponbbaa
open Go.RowKit

theorem c_rWidth (w0 : World) (k : Int) (k0 : -9223372036854775808 ≤ k) (k1 : k ≤ 9223372036854775807) :
    Calls Try.prog 29 #[(.int .i64 k)] w0 fun e w' => e = .returned (.int .i64 (widthA k)) ∧ St w0 w' [] := by
  refine calls_E (n := 12) (ts := [2]) Try.func29 rfl rfl rfl (by simp) ?_
  have hst := St.start w0
  refine cE_seq ?_
  refine cE_region rfl ?_
  refine s_cons (op_assign (.int .i64 0) rfl ?_)
  refine s_nil ?_
  refine then_n ?_
  refine cE_seq ?_
  refine cE_seq ?_
  refine cE_region rfl ?_
  refine s_cons (op_move (.int .i64 k) rfl ?_)
  refine s_nil ?_
  refine then_n ?_
  refine cE_block ?_
  refine cE_seq ?_
  refine cE_region rfl ?_
  refine s_cons (op_eql (k := .i64) (a := k) (b := 0) rfl rfl ?_)
  refine s_cons (op_assign (.bool (decide (k = 0))) rfl ?_)
  refine s_nil ?_
  refine then_n ?_
  rcases Bool.eq_false_or_eq_true (decide (k = 0)) with b1 | b1
  · have c2 : k = 0 := of_decide_eq_true b1
    refine cE_cond true (congrArg Value.bool b1) (fun _ => ?_) (fun h => by cases h)
    refine cE_seq ?_
    refine cE_region rfl ?_
    refine s_cons (op_assign (.int .i64 1) rfl ?_)
    refine s_nil ?_
    refine then_n ?_
    refine cE_ret ?_
    refine block_r (then_r ?_)
    refine post_r _ (res1 (v := (.int .i64 1)) rfl) ?_
    exact ⟨(retv1 (congrArg (Value.int .i64) (show 1 = (widthA k) from by (unfold widthA; (repeat' split) <;> omega)))), hst.bare⟩
  · have c3 : ¬ (k = 0) := of_decide_eq_false b1
    refine cE_cond false (congrArg Value.bool b1) (fun h => by cases h) (fun _ => ?_)
    refine cE_seq ?_
    refine cE_region rfl ?_
    refine s_cons (op_eql (k := .i64) (a := k) (b := 1) rfl rfl ?_)
    refine s_cons (op_assign (.bool (decide (k = 1))) rfl ?_)
    refine s_nil ?_
    refine then_n ?_
    rcases Bool.eq_false_or_eq_true (decide (k = 1)) with b4 | b4
    · have c5 : k = 1 := of_decide_eq_true b4
      refine cE_cond true (congrArg Value.bool b4) (fun _ => ?_) (fun h => by cases h)
      refine cE_seq ?_
      refine cE_region rfl ?_
      refine s_cons (op_assign (.int .i64 5) rfl ?_)
      refine s_nil ?_
      refine then_n ?_
      refine cE_ret ?_
      refine block_r (then_r ?_)
      refine post_r _ (res1 (v := (.int .i64 5)) rfl) ?_
      exact ⟨(retv1 (congrArg (Value.int .i64) (show 5 = (widthA k) from by (unfold widthA; (repeat' split) <;> omega)))), hst.bare⟩
    · have c6 : ¬ (k = 1) := of_decide_eq_false b4
      refine cE_cond false (congrArg Value.bool b4) (fun h => by cases h) (fun _ => ?_)
      refine cE_seq ?_
      refine cE_region rfl ?_
      refine s_cons (op_eql (k := .i64) (a := k) (b := 2) rfl rfl ?_)
      refine s_cons (op_assign (.bool (decide (k = 2))) rfl ?_)
      refine s_nil ?_
      refine then_n ?_
      rcases Bool.eq_false_or_eq_true (decide (k = 2)) with b7 | b7
      · have c8 : k = 2 := of_decide_eq_true b7
        refine cE_cond true (congrArg Value.bool b7) (fun _ => ?_) (fun h => by cases h)
        refine cE_seq ?_
        refine cE_region rfl ?_
        refine s_cons (op_assign (.int .i64 60) rfl ?_)
        refine s_nil ?_
        refine then_n ?_
        refine cE_ret ?_
        refine block_r (then_r ?_)
        refine post_r _ (res1 (v := (.int .i64 60)) rfl) ?_
        exact ⟨(retv1 (congrArg (Value.int .i64) (show 60 = (widthA k) from by (unfold widthA; (repeat' split) <;> omega)))), hst.bare⟩
      · have c9 : ¬ (k = 2) := of_decide_eq_false b7
        refine cE_cond false (congrArg Value.bool b7) (fun h => by cases h) (fun _ => ?_)
        refine cE_seq ?_
        refine cE_region rfl ?_
        refine s_cons (op_eql (k := .i64) (a := k) (b := 3) rfl rfl ?_)
        refine s_cons (op_assign (.bool (decide (k = 3))) rfl ?_)
        refine s_nil ?_
        refine then_n ?_
        rcases Bool.eq_false_or_eq_true (decide (k = 3)) with b10 | b10
        · have c11 : k = 3 := of_decide_eq_true b10
          refine cE_cond true (congrArg Value.bool b10) (fun _ => ?_) (fun h => by cases h)
          refine cE_seq ?_
          refine cE_region rfl ?_
          refine s_cons (op_assign (.int .i64 1440) rfl ?_)
          refine s_nil ?_
          refine then_n ?_
          refine cE_ret ?_
          refine block_r (then_r ?_)
          refine post_r _ (res1 (v := (.int .i64 1440)) rfl) ?_
          exact ⟨(retv1 (congrArg (Value.int .i64) (show 1440 = (widthA k) from by (unfold widthA; (repeat' split) <;> omega)))), hst.bare⟩
        · have c12 : ¬ (k = 3) := of_decide_eq_false b10
          refine cE_cond false (congrArg Value.bool b10) (fun h => by cases h) (fun _ => ?_)
          refine cE_skip ?_
          refine block_n (then_n ?_)
          refine cE_seq ?_
          refine cE_region rfl ?_
          refine s_cons (op_assign (.int .i64 0) rfl ?_)
          refine s_nil ?_
          refine then_n ?_
          refine cE_ret ?_
          refine post_r _ (res1 (v := (.int .i64 0)) rfl) ?_
          exact ⟨(retv1 (congrArg (Value.int .i64) (show 0 = (widthA k) from by (unfold widthA; (repeat' split) <;> omega)))), hst.bare⟩

end Go.Proofs.Ytffnhcioponbbaa
