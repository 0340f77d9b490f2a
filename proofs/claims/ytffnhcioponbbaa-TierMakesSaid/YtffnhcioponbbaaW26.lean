/- the reference: twinkeepref1.Add -/
import Derived.Test.YtffnhcioponbbaaW24
import Derived.Test.YtffnhcioponbbaaW25
namespace Go.Proofs.Ytffnhcioponbbaa
open Go.RowKit

theorem c_rAdd (w0 : World) (a : Int) (b : Int) (a0 : -9223372036854775808 ≤ a) (b0 : -9223372036854775808 ≤ b) (a1 : a ≤ 9223372036854775807) (b1 : b ≤ 9223372036854775807) :
    Calls Try.prog 40 #[(.int .i64 a), (.int .i64 b)] w0 fun e w' => e = .returned (.tuple #[(.int .i64 (addV a b)), (.bool (addB a b))]) ∧ St w0 w' [] := by
  have hws := wsum_cases (a := a) (b := b) ⟨a0, a1⟩ ⟨b0, b1⟩
  refine calls_E (n := 36) (ts := [4, 5]) Try.func40 rfl rfl rfl (by simp) ?_
  have hst := St.start w0
  refine cE_seq ?_
  refine cE_region rfl ?_
  refine s_cons (op_assign (.int .i64 0) rfl ?_)
  refine s_cons (op_assign (.bool false) rfl ?_)
  refine s_nil ?_
  refine then_n ?_
  refine cE_seq ?_
  refine cE_region rfl ?_
  refine s_cons (op_move (.int .i64 a) rfl ?_)
  refine s_cons (op_conv (k := .i64) (a := a) (a % 18446744073709551616) Try.underlying58 (by rw [Try.underlying2]; rfl) rfl (IntKind.wrap_u64 _) ?_)
  refine s_cons (op_move (.int .i64 b) rfl ?_)
  refine s_cons (op_conv (k := .i64) (a := b) (b % 18446744073709551616) Try.underlying58 (by rw [Try.underlying2]; rfl) rfl (IntKind.wrap_u64 _) ?_)
  refine s_cons (op_add (k := .u64) (a := (a % 18446744073709551616)) (b := (b % 18446744073709551616)) (((a % 18446744073709551616) + (b % 18446744073709551616)) % 18446744073709551616) rfl rfl (IntKind.wrap_u64 _) ?_)
  refine s_cons (op_conv (k := .u64) (a := (((a % 18446744073709551616) + (b % 18446744073709551616)) % 18446744073709551616)) (wsum a b) Try.underlying2 (by rw [Try.underlying58]; rfl) rfl (add_wrap ⟨a0, a1⟩ ⟨b0, b1⟩) ?_)
  refine s_cons (op_assign (.int .i64 (wsum a b)) rfl ?_)
  refine s_nil ?_
  refine then_n ?_
  refine cE_seq ?_
  refine cE_seq ?_
  refine cE_region rfl ?_
  refine s_cons (op_move (.int .i64 a) rfl ?_)
  refine s_cons (op_geq (k := .i64) (a := a) (b := 0) rfl rfl ?_)
  refine s_cons (op_move (.bool (decide (0 ≤ a))) rfl ?_)
  rcases Bool.eq_false_or_eq_true (decide (0 ≤ a)) with b1 | b1
  · have c2 : 0 ≤ a := of_decide_eq_true b1
    refine s_yes 15 rfl (congrArg Value.bool b1) (op_move (.int .i64 b) rfl ?_)
    refine s_yes 15 rfl (congrArg Value.bool b1) (op_geq (k := .i64) (a := b) (b := 0) rfl rfl ?_)
    refine s_cons (op_pick_t (.bool (decide (0 ≤ b))) (congrArg Value.bool b1) rfl ?_)
    refine s_cons (op_move (.bool (decide (0 ≤ b))) rfl ?_)
    rcases Bool.eq_false_or_eq_true (decide (0 ≤ b)) with b3 | b3
    · have c4 : 0 ≤ b := of_decide_eq_true b3
      refine s_yes 19 rfl (congrArg Value.bool b3) (op_move (.int .i64 (wsum a b)) rfl ?_)
      refine s_yes 19 rfl (congrArg Value.bool b3) (op_lss (k := .i64) (a := (wsum a b)) (b := 0) rfl rfl ?_)
      refine s_cons (op_pick_t (.bool (decide ((wsum a b) < 0))) (congrArg Value.bool b3) rfl ?_)
      refine s_cons (op_move (.bool (decide ((wsum a b) < 0))) rfl ?_)
      rcases Bool.eq_false_or_eq_true (decide ((wsum a b) < 0)) with b5 | b5
      · have c6 : (wsum a b) < 0 := of_decide_eq_true b5
        refine s_no 23 rfl (congrArg Value.bool b5) ?_
        refine s_no 23 rfl (congrArg Value.bool b5) ?_
        refine s_no 23 rfl (congrArg Value.bool b5) ?_
        refine s_un 26 rfl rfl ?_
        refine s_un 26 rfl rfl ?_
        refine s_no 23 rfl (congrArg Value.bool b5) ?_
        refine s_no 23 rfl (congrArg Value.bool b5) ?_
        refine s_un 30 rfl rfl ?_
        refine s_un 30 rfl rfl ?_
        refine s_no 23 rfl (congrArg Value.bool b5) ?_
        refine s_cons (op_pick_t (.bool true) (congrArg Value.bool b5) rfl ?_)
        refine s_nil ?_
        refine then_n ?_
        refine cE_cond true rfl (fun _ => ?_) (fun h => by cases h)
        refine cE_seq ?_
        refine cE_region rfl ?_
        refine s_cons (op_assign (.int .i64 0) rfl ?_)
        refine s_cons (op_assign (.bool false) rfl ?_)
        refine s_nil ?_
        refine then_n ?_
        refine cE_ret ?_
        refine then_r ?_
        refine post_r _ (res2 (v := (.int .i64 0)) rfl (x := (.bool false)) rfl) ?_
        exact ⟨(retv2 (congrArg (Value.int .i64) (show 0 = (addV a b) from by first | (unfold addV; split <;> omega) | (rw [Bool.eq_iff_iff]; simp only [mayA, mayP, i64R, addB, agg_iff, true_and, and_true, decide_eq_true_eq, Bool.false_eq_true, true_iff, false_iff]; omega))) (congrArg Value.bool (show false = (addB a b) from by first | (unfold addV; split <;> omega) | (rw [Bool.eq_iff_iff]; simp only [mayA, mayP, i64R, addB, agg_iff, true_and, and_true, decide_eq_true_eq, Bool.false_eq_true, true_iff, false_iff]; omega)))), hst.bare⟩
      · have c7 : ¬ ((wsum a b) < 0) := of_decide_eq_false b5
        refine s_yes 23 rfl (congrArg Value.bool b5) (op_move (.int .i64 a) rfl ?_)
        refine s_yes 23 rfl (congrArg Value.bool b5) (op_lss (k := .i64) (a := a) (b := 0) rfl rfl ?_)
        refine s_yes 23 rfl (congrArg Value.bool b5) (op_move (.bool (decide (a < 0))) rfl ?_)
        rcases Bool.eq_false_or_eq_true (decide (a < 0)) with b8 | b8
        · have c9 : a < 0 := of_decide_eq_true b8
          refine s_yes 26 rfl (congrArg Value.bool b8) (op_move (.int .i64 b) rfl ?_)
          refine s_yes 26 rfl (congrArg Value.bool b8) (op_lss (k := .i64) (a := b) (b := 0) rfl rfl ?_)
          refine s_yes 23 rfl (congrArg Value.bool b5) (op_pick_t (.bool (decide (b < 0))) (congrArg Value.bool b8) rfl ?_)
          refine s_yes 23 rfl (congrArg Value.bool b5) (op_move (.bool (decide (b < 0))) rfl ?_)
          rcases Bool.eq_false_or_eq_true (decide (b < 0)) with b10 | b10
          · have c11 : b < 0 := of_decide_eq_true b10
            refine s_yes 30 rfl (congrArg Value.bool b10) (op_move (.int .i64 (wsum a b)) rfl ?_)
            refine s_yes 30 rfl (congrArg Value.bool b10) (op_geq (k := .i64) (a := (wsum a b)) (b := 0) rfl rfl ?_)
            refine s_yes 23 rfl (congrArg Value.bool b5) (op_pick_t (.bool (decide (0 ≤ (wsum a b)))) (congrArg Value.bool b10) rfl ?_)
            refine s_cons (op_pick_f (.bool (decide (0 ≤ (wsum a b)))) (congrArg Value.bool b5) rfl ?_)
            refine s_nil ?_
            refine then_n ?_
            rcases Bool.eq_false_or_eq_true (decide (0 ≤ (wsum a b))) with b12 | b12
            · have c13 : 0 ≤ (wsum a b) := of_decide_eq_true b12
              refine cE_cond true (congrArg Value.bool b12) (fun _ => ?_) (fun h => by cases h)
              refine cE_seq ?_
              refine cE_region rfl ?_
              refine s_cons (op_assign (.int .i64 0) rfl ?_)
              refine s_cons (op_assign (.bool false) rfl ?_)
              refine s_nil ?_
              refine then_n ?_
              refine cE_ret ?_
              refine then_r ?_
              refine post_r _ (res2 (v := (.int .i64 0)) rfl (x := (.bool false)) rfl) ?_
              exact ⟨(retv2 (congrArg (Value.int .i64) (show 0 = (addV a b) from by first | (unfold addV; split <;> omega) | (rw [Bool.eq_iff_iff]; simp only [mayA, mayP, i64R, addB, agg_iff, true_and, and_true, decide_eq_true_eq, Bool.false_eq_true, true_iff, false_iff]; omega))) (congrArg Value.bool (show false = (addB a b) from by first | (unfold addV; split <;> omega) | (rw [Bool.eq_iff_iff]; simp only [mayA, mayP, i64R, addB, agg_iff, true_and, and_true, decide_eq_true_eq, Bool.false_eq_true, true_iff, false_iff]; omega)))), hst.bare⟩
            · have c14 : ¬ (0 ≤ (wsum a b)) := of_decide_eq_false b12
              refine cE_cond false (congrArg Value.bool b12) (fun h => by cases h) (fun _ => ?_)
              refine cE_skip ?_
              refine then_n ?_
              refine cE_seq ?_
              refine cE_region rfl ?_
              refine s_cons (op_move (.int .i64 (wsum a b)) rfl ?_)
              refine s_cons (op_assign (.int .i64 (wsum a b)) rfl ?_)
              refine s_cons (op_assign (.bool true) rfl ?_)
              refine s_nil ?_
              refine then_n ?_
              refine cE_ret ?_
              refine post_r _ (res2 (v := (.int .i64 (wsum a b))) rfl (x := (.bool true)) rfl) ?_
              exact ⟨(retv2 (congrArg (Value.int .i64) (show (wsum a b) = (addV a b) from by first | (unfold addV; split <;> omega) | (rw [Bool.eq_iff_iff]; simp only [mayA, mayP, i64R, addB, agg_iff, true_and, and_true, decide_eq_true_eq, Bool.false_eq_true, true_iff, false_iff]; omega))) (congrArg Value.bool (show true = (addB a b) from by first | (unfold addV; split <;> omega) | (rw [Bool.eq_iff_iff]; simp only [mayA, mayP, i64R, addB, agg_iff, true_and, and_true, decide_eq_true_eq, Bool.false_eq_true, true_iff, false_iff]; omega)))), hst.bare⟩
          · have c15 : ¬ (b < 0) := of_decide_eq_false b10
            refine s_no 30 rfl (congrArg Value.bool b10) ?_
            refine s_no 30 rfl (congrArg Value.bool b10) ?_
            refine s_yes 23 rfl (congrArg Value.bool b5) (op_pick_f (.bool false) (congrArg Value.bool b10) rfl ?_)
            refine s_cons (op_pick_f (.bool false) (congrArg Value.bool b5) rfl ?_)
            refine s_nil ?_
            refine then_n ?_
            refine cE_cond false rfl (fun h => by cases h) (fun _ => ?_)
            refine cE_skip ?_
            refine then_n ?_
            refine cE_seq ?_
            refine cE_region rfl ?_
            refine s_cons (op_move (.int .i64 (wsum a b)) rfl ?_)
            refine s_cons (op_assign (.int .i64 (wsum a b)) rfl ?_)
            refine s_cons (op_assign (.bool true) rfl ?_)
            refine s_nil ?_
            refine then_n ?_
            refine cE_ret ?_
            refine post_r _ (res2 (v := (.int .i64 (wsum a b))) rfl (x := (.bool true)) rfl) ?_
            exact ⟨(retv2 (congrArg (Value.int .i64) (show (wsum a b) = (addV a b) from by first | (unfold addV; split <;> omega) | (rw [Bool.eq_iff_iff]; simp only [mayA, mayP, i64R, addB, agg_iff, true_and, and_true, decide_eq_true_eq, Bool.false_eq_true, true_iff, false_iff]; omega))) (congrArg Value.bool (show true = (addB a b) from by first | (unfold addV; split <;> omega) | (rw [Bool.eq_iff_iff]; simp only [mayA, mayP, i64R, addB, agg_iff, true_and, and_true, decide_eq_true_eq, Bool.false_eq_true, true_iff, false_iff]; omega)))), hst.bare⟩
        · have c16 : ¬ (a < 0) := of_decide_eq_false b8
          refine s_no 26 rfl (congrArg Value.bool b8) ?_
          refine s_no 26 rfl (congrArg Value.bool b8) ?_
          refine s_yes 23 rfl (congrArg Value.bool b5) (op_pick_f (.bool false) (congrArg Value.bool b8) rfl ?_)
          refine s_yes 23 rfl (congrArg Value.bool b5) (op_move (.bool false) rfl ?_)
          refine s_no 30 rfl rfl ?_
          refine s_no 30 rfl rfl ?_
          refine s_yes 23 rfl (congrArg Value.bool b5) (op_pick_f (.bool false) rfl rfl ?_)
          refine s_cons (op_pick_f (.bool false) (congrArg Value.bool b5) rfl ?_)
          refine s_nil ?_
          refine then_n ?_
          refine cE_cond false rfl (fun h => by cases h) (fun _ => ?_)
          refine cE_skip ?_
          refine then_n ?_
          refine cE_seq ?_
          refine cE_region rfl ?_
          refine s_cons (op_move (.int .i64 (wsum a b)) rfl ?_)
          refine s_cons (op_assign (.int .i64 (wsum a b)) rfl ?_)
          refine s_cons (op_assign (.bool true) rfl ?_)
          refine s_nil ?_
          refine then_n ?_
          refine cE_ret ?_
          refine post_r _ (res2 (v := (.int .i64 (wsum a b))) rfl (x := (.bool true)) rfl) ?_
          exact ⟨(retv2 (congrArg (Value.int .i64) (show (wsum a b) = (addV a b) from by first | (unfold addV; split <;> omega) | (rw [Bool.eq_iff_iff]; simp only [mayA, mayP, i64R, addB, agg_iff, true_and, and_true, decide_eq_true_eq, Bool.false_eq_true, true_iff, false_iff]; omega))) (congrArg Value.bool (show true = (addB a b) from by first | (unfold addV; split <;> omega) | (rw [Bool.eq_iff_iff]; simp only [mayA, mayP, i64R, addB, agg_iff, true_and, and_true, decide_eq_true_eq, Bool.false_eq_true, true_iff, false_iff]; omega)))), hst.bare⟩
    · have c17 : ¬ (0 ≤ b) := of_decide_eq_false b3
      refine s_no 19 rfl (congrArg Value.bool b3) ?_
      refine s_no 19 rfl (congrArg Value.bool b3) ?_
      refine s_cons (op_pick_f (.bool false) (congrArg Value.bool b3) rfl ?_)
      refine s_cons (op_move (.bool false) rfl ?_)
      refine s_yes 23 rfl rfl (op_move (.int .i64 a) rfl ?_)
      refine s_yes 23 rfl rfl (op_lss (k := .i64) (a := a) (b := 0) rfl rfl ?_)
      refine s_yes 23 rfl rfl (op_move (.bool (decide (a < 0))) rfl ?_)
      rcases Bool.eq_false_or_eq_true (decide (a < 0)) with b18 | b18
      · have c19 : a < 0 := of_decide_eq_true b18
        refine s_yes 26 rfl (congrArg Value.bool b18) (op_move (.int .i64 b) rfl ?_)
        refine s_yes 26 rfl (congrArg Value.bool b18) (op_lss (k := .i64) (a := b) (b := 0) rfl rfl ?_)
        refine s_yes 23 rfl rfl (op_pick_t (.bool (decide (b < 0))) (congrArg Value.bool b18) rfl ?_)
        refine s_yes 23 rfl rfl (op_move (.bool (decide (b < 0))) rfl ?_)
        rcases Bool.eq_false_or_eq_true (decide (b < 0)) with b20 | b20
        · have c21 : b < 0 := of_decide_eq_true b20
          refine s_yes 30 rfl (congrArg Value.bool b20) (op_move (.int .i64 (wsum a b)) rfl ?_)
          refine s_yes 30 rfl (congrArg Value.bool b20) (op_geq (k := .i64) (a := (wsum a b)) (b := 0) rfl rfl ?_)
          refine s_yes 23 rfl rfl (op_pick_t (.bool (decide (0 ≤ (wsum a b)))) (congrArg Value.bool b20) rfl ?_)
          refine s_cons (op_pick_f (.bool (decide (0 ≤ (wsum a b)))) rfl rfl ?_)
          refine s_nil ?_
          refine then_n ?_
          rcases Bool.eq_false_or_eq_true (decide (0 ≤ (wsum a b))) with b22 | b22
          · have c23 : 0 ≤ (wsum a b) := of_decide_eq_true b22
            refine cE_cond true (congrArg Value.bool b22) (fun _ => ?_) (fun h => by cases h)
            refine cE_seq ?_
            refine cE_region rfl ?_
            refine s_cons (op_assign (.int .i64 0) rfl ?_)
            refine s_cons (op_assign (.bool false) rfl ?_)
            refine s_nil ?_
            refine then_n ?_
            refine cE_ret ?_
            refine then_r ?_
            refine post_r _ (res2 (v := (.int .i64 0)) rfl (x := (.bool false)) rfl) ?_
            exact ⟨(retv2 (congrArg (Value.int .i64) (show 0 = (addV a b) from by first | (unfold addV; split <;> omega) | (rw [Bool.eq_iff_iff]; simp only [mayA, mayP, i64R, addB, agg_iff, true_and, and_true, decide_eq_true_eq, Bool.false_eq_true, true_iff, false_iff]; omega))) (congrArg Value.bool (show false = (addB a b) from by first | (unfold addV; split <;> omega) | (rw [Bool.eq_iff_iff]; simp only [mayA, mayP, i64R, addB, agg_iff, true_and, and_true, decide_eq_true_eq, Bool.false_eq_true, true_iff, false_iff]; omega)))), hst.bare⟩
          · have c24 : ¬ (0 ≤ (wsum a b)) := of_decide_eq_false b22
            refine cE_cond false (congrArg Value.bool b22) (fun h => by cases h) (fun _ => ?_)
            refine cE_skip ?_
            refine then_n ?_
            refine cE_seq ?_
            refine cE_region rfl ?_
            refine s_cons (op_move (.int .i64 (wsum a b)) rfl ?_)
            refine s_cons (op_assign (.int .i64 (wsum a b)) rfl ?_)
            refine s_cons (op_assign (.bool true) rfl ?_)
            refine s_nil ?_
            refine then_n ?_
            refine cE_ret ?_
            refine post_r _ (res2 (v := (.int .i64 (wsum a b))) rfl (x := (.bool true)) rfl) ?_
            exact ⟨(retv2 (congrArg (Value.int .i64) (show (wsum a b) = (addV a b) from by first | (unfold addV; split <;> omega) | (rw [Bool.eq_iff_iff]; simp only [mayA, mayP, i64R, addB, agg_iff, true_and, and_true, decide_eq_true_eq, Bool.false_eq_true, true_iff, false_iff]; omega))) (congrArg Value.bool (show true = (addB a b) from by first | (unfold addV; split <;> omega) | (rw [Bool.eq_iff_iff]; simp only [mayA, mayP, i64R, addB, agg_iff, true_and, and_true, decide_eq_true_eq, Bool.false_eq_true, true_iff, false_iff]; omega)))), hst.bare⟩
        · have c25 : ¬ (b < 0) := of_decide_eq_false b20
          refine s_no 30 rfl (congrArg Value.bool b20) ?_
          refine s_no 30 rfl (congrArg Value.bool b20) ?_
          refine s_yes 23 rfl rfl (op_pick_f (.bool false) (congrArg Value.bool b20) rfl ?_)
          refine s_cons (op_pick_f (.bool false) rfl rfl ?_)
          refine s_nil ?_
          refine then_n ?_
          refine cE_cond false rfl (fun h => by cases h) (fun _ => ?_)
          refine cE_skip ?_
          refine then_n ?_
          refine cE_seq ?_
          refine cE_region rfl ?_
          refine s_cons (op_move (.int .i64 (wsum a b)) rfl ?_)
          refine s_cons (op_assign (.int .i64 (wsum a b)) rfl ?_)
          refine s_cons (op_assign (.bool true) rfl ?_)
          refine s_nil ?_
          refine then_n ?_
          refine cE_ret ?_
          refine post_r _ (res2 (v := (.int .i64 (wsum a b))) rfl (x := (.bool true)) rfl) ?_
          exact ⟨(retv2 (congrArg (Value.int .i64) (show (wsum a b) = (addV a b) from by first | (unfold addV; split <;> omega) | (rw [Bool.eq_iff_iff]; simp only [mayA, mayP, i64R, addB, agg_iff, true_and, and_true, decide_eq_true_eq, Bool.false_eq_true, true_iff, false_iff]; omega))) (congrArg Value.bool (show true = (addB a b) from by first | (unfold addV; split <;> omega) | (rw [Bool.eq_iff_iff]; simp only [mayA, mayP, i64R, addB, agg_iff, true_and, and_true, decide_eq_true_eq, Bool.false_eq_true, true_iff, false_iff]; omega)))), hst.bare⟩
      · have c26 : ¬ (a < 0) := of_decide_eq_false b18
        refine s_no 26 rfl (congrArg Value.bool b18) ?_
        refine s_no 26 rfl (congrArg Value.bool b18) ?_
        refine s_yes 23 rfl rfl (op_pick_f (.bool false) (congrArg Value.bool b18) rfl ?_)
        refine s_yes 23 rfl rfl (op_move (.bool false) rfl ?_)
        refine s_no 30 rfl rfl ?_
        refine s_no 30 rfl rfl ?_
        refine s_yes 23 rfl rfl (op_pick_f (.bool false) rfl rfl ?_)
        refine s_cons (op_pick_f (.bool false) rfl rfl ?_)
        refine s_nil ?_
        refine then_n ?_
        refine cE_cond false rfl (fun h => by cases h) (fun _ => ?_)
        refine cE_skip ?_
        refine then_n ?_
        refine cE_seq ?_
        refine cE_region rfl ?_
        refine s_cons (op_move (.int .i64 (wsum a b)) rfl ?_)
        refine s_cons (op_assign (.int .i64 (wsum a b)) rfl ?_)
        refine s_cons (op_assign (.bool true) rfl ?_)
        refine s_nil ?_
        refine then_n ?_
        refine cE_ret ?_
        refine post_r _ (res2 (v := (.int .i64 (wsum a b))) rfl (x := (.bool true)) rfl) ?_
        exact ⟨(retv2 (congrArg (Value.int .i64) (show (wsum a b) = (addV a b) from by first | (unfold addV; split <;> omega) | (rw [Bool.eq_iff_iff]; simp only [mayA, mayP, i64R, addB, agg_iff, true_and, and_true, decide_eq_true_eq, Bool.false_eq_true, true_iff, false_iff]; omega))) (congrArg Value.bool (show true = (addB a b) from by first | (unfold addV; split <;> omega) | (rw [Bool.eq_iff_iff]; simp only [mayA, mayP, i64R, addB, agg_iff, true_and, and_true, decide_eq_true_eq, Bool.false_eq_true, true_iff, false_iff]; omega)))), hst.bare⟩
  · have c27 : ¬ (0 ≤ a) := of_decide_eq_false b1
    refine s_no 15 rfl (congrArg Value.bool b1) ?_
    refine s_no 15 rfl (congrArg Value.bool b1) ?_
    refine s_cons (op_pick_f (.bool false) (congrArg Value.bool b1) rfl ?_)
    refine s_cons (op_move (.bool false) rfl ?_)
    refine s_no 19 rfl rfl ?_
    refine s_no 19 rfl rfl ?_
    refine s_cons (op_pick_f (.bool false) rfl rfl ?_)
    refine s_cons (op_move (.bool false) rfl ?_)
    refine s_yes 23 rfl rfl (op_move (.int .i64 a) rfl ?_)
    refine s_yes 23 rfl rfl (op_lss (k := .i64) (a := a) (b := 0) rfl rfl ?_)
    refine s_yes 23 rfl rfl (op_move (.bool (decide (a < 0))) rfl ?_)
    rcases Bool.eq_false_or_eq_true (decide (a < 0)) with b28 | b28
    · have c29 : a < 0 := of_decide_eq_true b28
      refine s_yes 26 rfl (congrArg Value.bool b28) (op_move (.int .i64 b) rfl ?_)
      refine s_yes 26 rfl (congrArg Value.bool b28) (op_lss (k := .i64) (a := b) (b := 0) rfl rfl ?_)
      refine s_yes 23 rfl rfl (op_pick_t (.bool (decide (b < 0))) (congrArg Value.bool b28) rfl ?_)
      refine s_yes 23 rfl rfl (op_move (.bool (decide (b < 0))) rfl ?_)
      rcases Bool.eq_false_or_eq_true (decide (b < 0)) with b30 | b30
      · have c31 : b < 0 := of_decide_eq_true b30
        refine s_yes 30 rfl (congrArg Value.bool b30) (op_move (.int .i64 (wsum a b)) rfl ?_)
        refine s_yes 30 rfl (congrArg Value.bool b30) (op_geq (k := .i64) (a := (wsum a b)) (b := 0) rfl rfl ?_)
        refine s_yes 23 rfl rfl (op_pick_t (.bool (decide (0 ≤ (wsum a b)))) (congrArg Value.bool b30) rfl ?_)
        refine s_cons (op_pick_f (.bool (decide (0 ≤ (wsum a b)))) rfl rfl ?_)
        refine s_nil ?_
        refine then_n ?_
        rcases Bool.eq_false_or_eq_true (decide (0 ≤ (wsum a b))) with b32 | b32
        · have c33 : 0 ≤ (wsum a b) := of_decide_eq_true b32
          refine cE_cond true (congrArg Value.bool b32) (fun _ => ?_) (fun h => by cases h)
          refine cE_seq ?_
          refine cE_region rfl ?_
          refine s_cons (op_assign (.int .i64 0) rfl ?_)
          refine s_cons (op_assign (.bool false) rfl ?_)
          refine s_nil ?_
          refine then_n ?_
          refine cE_ret ?_
          refine then_r ?_
          refine post_r _ (res2 (v := (.int .i64 0)) rfl (x := (.bool false)) rfl) ?_
          exact ⟨(retv2 (congrArg (Value.int .i64) (show 0 = (addV a b) from by first | (unfold addV; split <;> omega) | (rw [Bool.eq_iff_iff]; simp only [mayA, mayP, i64R, addB, agg_iff, true_and, and_true, decide_eq_true_eq, Bool.false_eq_true, true_iff, false_iff]; omega))) (congrArg Value.bool (show false = (addB a b) from by first | (unfold addV; split <;> omega) | (rw [Bool.eq_iff_iff]; simp only [mayA, mayP, i64R, addB, agg_iff, true_and, and_true, decide_eq_true_eq, Bool.false_eq_true, true_iff, false_iff]; omega)))), hst.bare⟩
        · have c34 : ¬ (0 ≤ (wsum a b)) := of_decide_eq_false b32
          refine cE_cond false (congrArg Value.bool b32) (fun h => by cases h) (fun _ => ?_)
          refine cE_skip ?_
          refine then_n ?_
          refine cE_seq ?_
          refine cE_region rfl ?_
          refine s_cons (op_move (.int .i64 (wsum a b)) rfl ?_)
          refine s_cons (op_assign (.int .i64 (wsum a b)) rfl ?_)
          refine s_cons (op_assign (.bool true) rfl ?_)
          refine s_nil ?_
          refine then_n ?_
          refine cE_ret ?_
          refine post_r _ (res2 (v := (.int .i64 (wsum a b))) rfl (x := (.bool true)) rfl) ?_
          exact ⟨(retv2 (congrArg (Value.int .i64) (show (wsum a b) = (addV a b) from by first | (unfold addV; split <;> omega) | (rw [Bool.eq_iff_iff]; simp only [mayA, mayP, i64R, addB, agg_iff, true_and, and_true, decide_eq_true_eq, Bool.false_eq_true, true_iff, false_iff]; omega))) (congrArg Value.bool (show true = (addB a b) from by first | (unfold addV; split <;> omega) | (rw [Bool.eq_iff_iff]; simp only [mayA, mayP, i64R, addB, agg_iff, true_and, and_true, decide_eq_true_eq, Bool.false_eq_true, true_iff, false_iff]; omega)))), hst.bare⟩
      · have c35 : ¬ (b < 0) := of_decide_eq_false b30
        refine s_no 30 rfl (congrArg Value.bool b30) ?_
        refine s_no 30 rfl (congrArg Value.bool b30) ?_
        refine s_yes 23 rfl rfl (op_pick_f (.bool false) (congrArg Value.bool b30) rfl ?_)
        refine s_cons (op_pick_f (.bool false) rfl rfl ?_)
        refine s_nil ?_
        refine then_n ?_
        refine cE_cond false rfl (fun h => by cases h) (fun _ => ?_)
        refine cE_skip ?_
        refine then_n ?_
        refine cE_seq ?_
        refine cE_region rfl ?_
        refine s_cons (op_move (.int .i64 (wsum a b)) rfl ?_)
        refine s_cons (op_assign (.int .i64 (wsum a b)) rfl ?_)
        refine s_cons (op_assign (.bool true) rfl ?_)
        refine s_nil ?_
        refine then_n ?_
        refine cE_ret ?_
        refine post_r _ (res2 (v := (.int .i64 (wsum a b))) rfl (x := (.bool true)) rfl) ?_
        exact ⟨(retv2 (congrArg (Value.int .i64) (show (wsum a b) = (addV a b) from by first | (unfold addV; split <;> omega) | (rw [Bool.eq_iff_iff]; simp only [mayA, mayP, i64R, addB, agg_iff, true_and, and_true, decide_eq_true_eq, Bool.false_eq_true, true_iff, false_iff]; omega))) (congrArg Value.bool (show true = (addB a b) from by first | (unfold addV; split <;> omega) | (rw [Bool.eq_iff_iff]; simp only [mayA, mayP, i64R, addB, agg_iff, true_and, and_true, decide_eq_true_eq, Bool.false_eq_true, true_iff, false_iff]; omega)))), hst.bare⟩
    · have c36 : ¬ (a < 0) := of_decide_eq_false b28
      refine s_no 26 rfl (congrArg Value.bool b28) ?_
      refine s_no 26 rfl (congrArg Value.bool b28) ?_
      refine s_yes 23 rfl rfl (op_pick_f (.bool false) (congrArg Value.bool b28) rfl ?_)
      refine s_yes 23 rfl rfl (op_move (.bool false) rfl ?_)
      refine s_no 30 rfl rfl ?_
      refine s_no 30 rfl rfl ?_
      refine s_yes 23 rfl rfl (op_pick_f (.bool false) rfl rfl ?_)
      refine s_cons (op_pick_f (.bool false) rfl rfl ?_)
      refine s_nil ?_
      refine then_n ?_
      refine cE_cond false rfl (fun h => by cases h) (fun _ => ?_)
      refine cE_skip ?_
      refine then_n ?_
      refine cE_seq ?_
      refine cE_region rfl ?_
      refine s_cons (op_move (.int .i64 (wsum a b)) rfl ?_)
      refine s_cons (op_assign (.int .i64 (wsum a b)) rfl ?_)
      refine s_cons (op_assign (.bool true) rfl ?_)
      refine s_nil ?_
      refine then_n ?_
      refine cE_ret ?_
      refine post_r _ (res2 (v := (.int .i64 (wsum a b))) rfl (x := (.bool true)) rfl) ?_
      exact ⟨(retv2 (congrArg (Value.int .i64) (show (wsum a b) = (addV a b) from by first | (unfold addV; split <;> omega) | (rw [Bool.eq_iff_iff]; simp only [mayA, mayP, i64R, addB, agg_iff, true_and, and_true, decide_eq_true_eq, Bool.false_eq_true, true_iff, false_iff]; omega))) (congrArg Value.bool (show true = (addB a b) from by first | (unfold addV; split <;> omega) | (rw [Bool.eq_iff_iff]; simp only [mayA, mayP, i64R, addB, agg_iff, true_and, and_true, decide_eq_true_eq, Bool.false_eq_true, true_iff, false_iff]; omega)))), hst.bare⟩

end Go.Proofs.Ytffnhcioponbbaa
