/- the law FoldAdds -/
import Derived.Test.YtffnhcioponbbaaW2
namespace Go.Proofs.Ytffnhcioponbbaa
open Go.RowKit

theorem c_FoldAdds (w0 : World) (a : Int) (b : Int) (a0 : -9223372036854775808 ≤ a) (b0 : -9223372036854775808 ≤ b) (a1 : a ≤ 9223372036854775807) (b1 : b ≤ 9223372036854775807) :
    Calls Try.prog 5 #[(.int .i64 a), (.int .i64 b)] w0 fun e w' => e = .returned (.bool true) ∧ St w0 w' [] := by
  have hB := addB_comm a b
  have hV := addV_comm a b
  have hr := addV_r a b
  refine calls_E (n := 78) (ts := [4]) Try.func5 rfl rfl rfl (by simp) ?_
  have hst := St.start w0
  refine cE_seq ?_
  refine cE_region rfl ?_
  refine s_cons (op_assign (.bool false) rfl ?_)
  refine s_nil ?_
  refine then_n ?_
  refine cE_seq ?_
  refine cE_region rfl ?_
  refine s_cons (op_move (.int .i64 a) rfl ?_)
  refine s_cons (op_move (.int .i64 b) rfl ?_)
  refine s_cons (op_call Try.call18 (evs_cons (v := (.int .i64 a)) rfl (evs_cons (v := (.int .i64 b)) rfl evs_nil)) (c_Add (w0 := w0) (a := a) (b := b) (a0 := (by omega)) (b0 := (by omega)) (a1 := (by omega)) (b1 := (by omega))) ?_)
  rintro _ w1 ⟨rfl, hcall⟩
  refine ⟨_, rfl, ?_⟩
  have hst : St w0 w1 [] := hst.call hcall
  refine s_cons (op_move (.tuple #[(.int .i64 (addV a b)), (.bool (addB a b))]) rfl ?_)
  refine s_cons (op_extract (.int .i64 (addV a b)) rfl rfl ?_)
  refine s_cons (op_extract (.bool (addB a b)) rfl rfl ?_)
  refine s_cons (op_assign (.int .i64 (addV a b)) rfl ?_)
  refine s_cons (op_assign (.bool (addB a b)) rfl ?_)
  refine s_nil ?_
  refine then_n ?_
  refine cE_seq ?_
  refine cE_region rfl ?_
  refine s_cons (op_move (.int .i64 b) rfl ?_)
  refine s_cons (op_move (.int .i64 a) rfl ?_)
  refine s_cons (op_call Try.call18 (evs_cons (v := (.int .i64 b)) rfl (evs_cons (v := (.int .i64 a)) rfl evs_nil)) (c_Add (w0 := w1) (a := b) (b := a) (a0 := (by omega)) (b0 := (by omega)) (a1 := (by omega)) (b1 := (by omega))) ?_)
  rintro _ w2 ⟨rfl, hcall⟩
  refine ⟨_, rfl, ?_⟩
  have hst : St w0 w2 [] := hst.call hcall
  refine s_cons (op_move (.tuple #[(.int .i64 (addV b a)), (.bool (addB b a))]) rfl ?_)
  refine s_cons (op_extract (.int .i64 (addV b a)) rfl rfl ?_)
  refine s_cons (op_extract (.bool (addB b a)) rfl rfl ?_)
  refine s_cons (op_assign (.int .i64 (addV b a)) rfl ?_)
  refine s_cons (op_assign (.bool (addB b a)) rfl ?_)
  refine s_nil ?_
  refine then_n ?_
  refine cE_seq ?_
  refine cE_seq ?_
  refine cE_region rfl ?_
  refine s_cons (op_move (.bool (addB a b)) rfl ?_)
  refine s_cons (op_move (.bool (addB b a)) rfl ?_)
  refine s_cons (op_neqb (a := addB a b) (b := addB b a) Try.underlying4 rfl rfl ?_)
  refine s_cons (op_move (.bool (!((addB a b) == (addB b a)))) rfl ?_)
  refine s_yes 24 rfl (congrArg Value.bool (congrArg (! ·) (show ((addB a b) == (addB b a)) = true from (by rw [hB]; exact beq_self_eq_true _)))) (op_move (.int .i64 (addV a b)) rfl ?_)
  refine s_yes 24 rfl (congrArg Value.bool (congrArg (! ·) (show ((addB a b) == (addB b a)) = true from (by rw [hB]; exact beq_self_eq_true _)))) (op_move (.int .i64 (addV b a)) rfl ?_)
  refine s_yes 24 rfl (congrArg Value.bool (congrArg (! ·) (show ((addB a b) == (addB b a)) = true from (by rw [hB]; exact beq_self_eq_true _)))) (op_neq (k := .i64) (a := (addV a b)) (b := (addV b a)) rfl rfl ?_)
  refine s_cons (op_pick_f (.bool (!decide ((addV a b) = (addV b a)))) (congrArg Value.bool (congrArg (! ·) (show ((addB a b) == (addB b a)) = true from (by rw [hB]; exact beq_self_eq_true _)))) rfl ?_)
  refine s_nil ?_
  refine then_n ?_
  refine cE_cond false (congrArg Value.bool (congrArg (! ·) (show (decide ((addV a b) = (addV b a))) = true from (decide_eq_true hV.symm)))) (fun h => by cases h) (fun _ => ?_)
  refine cE_skip ?_
  refine then_n ?_
  refine cE_seq ?_
  refine cE_seq ?_
  refine cE_region rfl ?_
  refine s_cons (op_move (.bool (addB a b)) rfl ?_)
  refine s_cons (op_not (b := addB a b) rfl ?_)
  refine s_nil ?_
  refine then_n ?_
  rcases Bool.eq_false_or_eq_true (addB a b) with b3 | b3
  · have hb := addB_true b3
    have hv := addV_eq hb
    refine cE_cond false (congrArg Value.bool (congrArg (! ·) b3)) (fun h => by cases h) (fun _ => ?_)
    refine cE_skip ?_
    refine then_n ?_
    refine cE_seq ?_
    refine cE_region rfl ?_
    refine s_cons (op_call Try.call14 evs_nil (c_told3 (w0 := w2)) ?_)
    rintro _ w4 ⟨rfl, hcall⟩
    refine ⟨_, rfl, ?_⟩
    have hst : St w0 w4 [] := hst.call hcall
    refine s_cons (op_move (.bool true) rfl ?_)
    refine s_yes 64 rfl rfl (op_move (.int .i64 (addV a b)) rfl ?_)
    refine s_yes 64 rfl rfl (op_move (.int .i64 b) rfl ?_)
    refine s_yes 64 rfl rfl (op_sub (k := .i64) (a := (addV a b)) (b := b) ((addV a b) - b) rfl rfl (xi64 (by omega) (by omega)) ?_)
    refine s_yes 64 rfl rfl (op_move (.int .i64 a) rfl ?_)
    refine s_yes 64 rfl rfl (op_eql (k := .i64) (a := ((addV a b) - b)) (b := a) rfl rfl ?_)
    refine s_cons (op_pick_t (.bool (decide (((addV a b) - b) = a))) rfl rfl ?_)
    refine s_cons (op_move (.bool (decide (((addV a b) - b) = a))) rfl ?_)
    refine s_yes 71 rfl (congrArg Value.bool (show (decide (((addV a b) - b) = a)) = true from (decide_eq_true (by omega)))) (op_move (.int .i64 (addV a b)) rfl ?_)
    refine s_yes 71 rfl (congrArg Value.bool (show (decide (((addV a b) - b) = a)) = true from (decide_eq_true (by omega)))) (op_move (.int .i64 a) rfl ?_)
    refine s_yes 71 rfl (congrArg Value.bool (show (decide (((addV a b) - b) = a)) = true from (decide_eq_true (by omega)))) (op_sub (k := .i64) (a := (addV a b)) (b := a) ((addV a b) - a) rfl rfl (xi64 (by omega) (by omega)) ?_)
    refine s_yes 71 rfl (congrArg Value.bool (show (decide (((addV a b) - b) = a)) = true from (decide_eq_true (by omega)))) (op_move (.int .i64 b) rfl ?_)
    refine s_yes 71 rfl (congrArg Value.bool (show (decide (((addV a b) - b) = a)) = true from (decide_eq_true (by omega)))) (op_eql (k := .i64) (a := ((addV a b) - a)) (b := b) rfl rfl ?_)
    refine s_cons (op_pick_t (.bool (decide (((addV a b) - a) = b))) (congrArg Value.bool (show (decide (((addV a b) - b) = a)) = true from (decide_eq_true (by omega)))) rfl ?_)
    refine s_cons (op_assign (.bool (decide (((addV a b) - a) = b))) rfl ?_)
    refine s_nil ?_
    refine then_n ?_
    refine cE_ret ?_
    refine post_r _ (res1 (v := (.bool true)) (congrArg Value.bool (show (decide (((addV a b) - a) = b)) = true from (decide_eq_true (by omega))))) ?_
    exact ⟨rfl, hst.bare⟩
  · have hb := addB_false b3
    have hv := addV_zero hb
    refine cE_cond true (congrArg Value.bool (congrArg (! ·) b3)) (fun _ => ?_) (fun h => by cases h)
    refine cE_seq ?_
    refine cE_region rfl ?_
    refine s_cons (op_call Try.call14 evs_nil (c_told3 (w0 := w2)) ?_)
    rintro _ w5 ⟨rfl, hcall⟩
    refine ⟨_, rfl, ?_⟩
    have hst : St w0 w5 [] := hst.call hcall
    refine s_cons (op_move (.bool true) rfl ?_)
    refine s_yes 32 rfl rfl (op_move (.int .i64 (addV a b)) rfl ?_)
    refine s_yes 32 rfl rfl (op_eql (k := .i64) (a := (addV a b)) (b := 0) rfl rfl ?_)
    refine s_cons (op_pick_t (.bool (decide ((addV a b) = 0))) rfl rfl ?_)
    refine s_cons (op_move (.bool (decide ((addV a b) = 0))) rfl ?_)
    refine s_yes 36 rfl (congrArg Value.bool (show (decide ((addV a b) = 0)) = true from (decide_eq_true hv))) (op_move (.int .i64 a) rfl ?_)
    refine s_yes 36 rfl (congrArg Value.bool (show (decide ((addV a b) = 0)) = true from (decide_eq_true hv))) (op_gtr (k := .i64) (a := a) (b := 0) rfl rfl ?_)
    refine s_yes 36 rfl (congrArg Value.bool (show (decide ((addV a b) = 0)) = true from (decide_eq_true hv))) (op_move (.int .i64 b) rfl ?_)
    refine s_yes 36 rfl (congrArg Value.bool (show (decide ((addV a b) = 0)) = true from (decide_eq_true hv))) (op_gtr (k := .i64) (a := b) (b := 0) rfl rfl ?_)
    refine s_yes 36 rfl (congrArg Value.bool (show (decide ((addV a b) = 0)) = true from (decide_eq_true hv))) (op_eqlb (a := decide (0 < a)) (b := decide (0 < b)) Try.underlying4 rfl rfl ?_)
    refine s_cons (op_pick_t (.bool ((decide (0 < a)) == (decide (0 < b)))) (congrArg Value.bool (show (decide ((addV a b) = 0)) = true from (decide_eq_true hv))) rfl ?_)
    refine s_cons (op_move (.bool ((decide (0 < a)) == (decide (0 < b)))) rfl ?_)
    refine s_yes 43 rfl (congrArg Value.bool (show ((decide (0 < a)) == (decide (0 < b))) = true from (by rw [beq_iff_eq, decide_eq_decide]; omega))) (op_move (.int .i64 a) rfl ?_)
    refine s_yes 43 rfl (congrArg Value.bool (show ((decide (0 < a)) == (decide (0 < b))) = true from (by rw [beq_iff_eq, decide_eq_decide]; omega))) (op_gtr (k := .i64) (a := a) (b := 0) rfl rfl ?_)
    refine s_yes 43 rfl (congrArg Value.bool (show ((decide (0 < a)) == (decide (0 < b))) = true from (by rw [beq_iff_eq, decide_eq_decide]; omega))) (op_move (.bool (decide (0 < a))) rfl ?_)
    rcases Bool.eq_false_or_eq_true (decide (0 < a)) with b6 | b6
    · have c7 : 0 < a := of_decide_eq_true b6
      refine s_yes 46 rfl (congrArg Value.bool b6) (op_move (.int .i64 a) rfl ?_)
      refine s_yes 46 rfl (congrArg Value.bool b6) (op_move (.int .i64 b) rfl ?_)
      refine s_yes 46 rfl (congrArg Value.bool b6) (op_sub (k := .i64) (a := 9223372036854775807) (b := b) (9223372036854775807 - b) rfl rfl (xi64 (by omega) (by omega)) ?_)
      refine s_yes 46 rfl (congrArg Value.bool b6) (op_gtr (k := .i64) (a := a) (b := (9223372036854775807 - b)) rfl rfl ?_)
      refine s_yes 43 rfl (congrArg Value.bool (show ((decide (0 < a)) == (decide (0 < b))) = true from (by rw [beq_iff_eq, decide_eq_decide]; omega))) (op_pick_t (.bool (decide ((9223372036854775807 - b) < a))) (congrArg Value.bool b6) rfl ?_)
      refine s_yes 43 rfl (congrArg Value.bool (show ((decide (0 < a)) == (decide (0 < b))) = true from (by rw [beq_iff_eq, decide_eq_decide]; omega))) (op_move (.bool (decide ((9223372036854775807 - b) < a))) rfl ?_)
      rcases Bool.eq_false_or_eq_true (decide ((9223372036854775807 - b) < a)) with b8 | b8
      · have c9 : (9223372036854775807 - b) < a := of_decide_eq_true b8
        refine s_no 52 rfl (congrArg Value.bool b8) ?_
        refine s_no 52 rfl (congrArg Value.bool b8) ?_
        refine s_no 52 rfl (congrArg Value.bool b8) ?_
        refine s_un 55 rfl rfl ?_
        refine s_un 55 rfl rfl ?_
        refine s_un 55 rfl rfl ?_
        refine s_un 55 rfl rfl ?_
        refine s_no 52 rfl (congrArg Value.bool b8) ?_
        refine s_yes 43 rfl (congrArg Value.bool (show ((decide (0 < a)) == (decide (0 < b))) = true from (by rw [beq_iff_eq, decide_eq_decide]; omega))) (op_pick_t (.bool true) (congrArg Value.bool b8) rfl ?_)
        refine s_cons (op_pick_t (.bool true) (congrArg Value.bool (show ((decide (0 < a)) == (decide (0 < b))) = true from (by rw [beq_iff_eq, decide_eq_decide]; omega))) rfl ?_)
        refine s_cons (op_assign (.bool true) rfl ?_)
        refine s_nil ?_
        refine then_n ?_
        refine cE_ret ?_
        refine then_r ?_
        refine post_r _ (res1 (v := (.bool true)) rfl) ?_
        exact ⟨rfl, hst.bare⟩
      · have c10 : ¬ ((9223372036854775807 - b) < a) := of_decide_eq_false b8
        refine s_yes 52 rfl (congrArg Value.bool b8) (op_move (.int .i64 a) rfl ?_)
        refine s_yes 52 rfl (congrArg Value.bool b8) (op_lss (k := .i64) (a := a) (b := 0) rfl rfl ?_)
        refine s_yes 52 rfl (congrArg Value.bool b8) (op_move (.bool (decide (a < 0))) rfl ?_)
        rcases Bool.eq_false_or_eq_true (decide (a < 0)) with b11 | b11
        · have c12 : a < 0 := of_decide_eq_true b11
          refine s_yes 55 rfl (congrArg Value.bool b11) (op_move (.int .i64 a) rfl ?_)
          refine s_yes 55 rfl (congrArg Value.bool b11) (op_move (.int .i64 b) rfl ?_)
          refine s_yes 55 rfl (congrArg Value.bool b11) (op_sub (k := .i64) (a := (-9223372036854775808)) (b := b) ((-9223372036854775808) - b) rfl rfl (xi64 (by omega) (by omega)) ?_)
          refine s_yes 55 rfl (congrArg Value.bool b11) (op_lss (k := .i64) (a := a) (b := ((-9223372036854775808) - b)) rfl rfl ?_)
          refine s_yes 52 rfl (congrArg Value.bool b8) (op_pick_t (.bool (decide (a < ((-9223372036854775808) - b)))) (congrArg Value.bool b11) rfl ?_)
          refine s_yes 43 rfl (congrArg Value.bool (show ((decide (0 < a)) == (decide (0 < b))) = true from (by rw [beq_iff_eq, decide_eq_decide]; omega))) (op_pick_f (.bool (decide (a < ((-9223372036854775808) - b)))) (congrArg Value.bool b8) rfl ?_)
          refine s_cons (op_pick_t (.bool (decide (a < ((-9223372036854775808) - b)))) (congrArg Value.bool (show ((decide (0 < a)) == (decide (0 < b))) = true from (by rw [beq_iff_eq, decide_eq_decide]; omega))) rfl ?_)
          refine s_cons (op_assign (.bool (decide (a < ((-9223372036854775808) - b)))) rfl ?_)
          refine s_nil ?_
          refine then_n ?_
          refine cE_ret ?_
          refine then_r ?_
          refine post_r _ (res1 (v := (.bool (decide (a < ((-9223372036854775808) - b))))) rfl) ?_
          exact ⟨(retv1 (congrArg Value.bool (show decide (a < ((-9223372036854775808) - b)) = true from by first | omega | exact decide_eq_true (by omega)))), hst.bare⟩
        · have c13 : ¬ (a < 0) := of_decide_eq_false b11
          refine s_no 55 rfl (congrArg Value.bool b11) ?_
          refine s_no 55 rfl (congrArg Value.bool b11) ?_
          refine s_no 55 rfl (congrArg Value.bool b11) ?_
          refine s_no 55 rfl (congrArg Value.bool b11) ?_
          refine s_yes 52 rfl (congrArg Value.bool b8) (op_pick_f (.bool false) (congrArg Value.bool b11) rfl ?_)
          refine s_yes 43 rfl (congrArg Value.bool (show ((decide (0 < a)) == (decide (0 < b))) = true from (by rw [beq_iff_eq, decide_eq_decide]; omega))) (op_pick_f (.bool false) (congrArg Value.bool b8) rfl ?_)
          refine s_cons (op_pick_t (.bool false) (congrArg Value.bool (show ((decide (0 < a)) == (decide (0 < b))) = true from (by rw [beq_iff_eq, decide_eq_decide]; omega))) rfl ?_)
          refine s_cons (op_assign (.bool false) rfl ?_)
          refine s_nil ?_
          refine then_n ?_
          refine cE_ret ?_
          refine then_r ?_
          refine post_r _ (res1 (v := (.bool false)) rfl) ?_
          exact ⟨(retv1 (congrArg Value.bool (show false = true from by first | omega | exact decide_eq_true (by omega)))), hst.bare⟩
    · have c14 : ¬ (0 < a) := of_decide_eq_false b6
      refine s_no 46 rfl (congrArg Value.bool b6) ?_
      refine s_no 46 rfl (congrArg Value.bool b6) ?_
      refine s_no 46 rfl (congrArg Value.bool b6) ?_
      refine s_no 46 rfl (congrArg Value.bool b6) ?_
      refine s_yes 43 rfl (congrArg Value.bool (show ((decide (0 < a)) == (decide (0 < b))) = true from (by rw [beq_iff_eq, decide_eq_decide]; omega))) (op_pick_f (.bool false) (congrArg Value.bool b6) rfl ?_)
      refine s_yes 43 rfl (congrArg Value.bool (show ((decide (0 < a)) == (decide (0 < b))) = true from (by rw [beq_iff_eq, decide_eq_decide]; omega))) (op_move (.bool false) rfl ?_)
      refine s_yes 52 rfl rfl (op_move (.int .i64 a) rfl ?_)
      refine s_yes 52 rfl rfl (op_lss (k := .i64) (a := a) (b := 0) rfl rfl ?_)
      refine s_yes 52 rfl rfl (op_move (.bool (decide (a < 0))) rfl ?_)
      rcases Bool.eq_false_or_eq_true (decide (a < 0)) with b15 | b15
      · have c16 : a < 0 := of_decide_eq_true b15
        refine s_yes 55 rfl (congrArg Value.bool b15) (op_move (.int .i64 a) rfl ?_)
        refine s_yes 55 rfl (congrArg Value.bool b15) (op_move (.int .i64 b) rfl ?_)
        refine s_yes 55 rfl (congrArg Value.bool b15) (op_sub (k := .i64) (a := (-9223372036854775808)) (b := b) ((-9223372036854775808) - b) rfl rfl (xi64 (by omega) (by omega)) ?_)
        refine s_yes 55 rfl (congrArg Value.bool b15) (op_lss (k := .i64) (a := a) (b := ((-9223372036854775808) - b)) rfl rfl ?_)
        refine s_yes 52 rfl rfl (op_pick_t (.bool (decide (a < ((-9223372036854775808) - b)))) (congrArg Value.bool b15) rfl ?_)
        refine s_yes 43 rfl (congrArg Value.bool (show ((decide (0 < a)) == (decide (0 < b))) = true from (by rw [beq_iff_eq, decide_eq_decide]; omega))) (op_pick_f (.bool (decide (a < ((-9223372036854775808) - b)))) rfl rfl ?_)
        refine s_cons (op_pick_t (.bool (decide (a < ((-9223372036854775808) - b)))) (congrArg Value.bool (show ((decide (0 < a)) == (decide (0 < b))) = true from (by rw [beq_iff_eq, decide_eq_decide]; omega))) rfl ?_)
        refine s_cons (op_assign (.bool (decide (a < ((-9223372036854775808) - b)))) rfl ?_)
        refine s_nil ?_
        refine then_n ?_
        refine cE_ret ?_
        refine then_r ?_
        refine post_r _ (res1 (v := (.bool (decide (a < ((-9223372036854775808) - b))))) rfl) ?_
        exact ⟨(retv1 (congrArg Value.bool (show decide (a < ((-9223372036854775808) - b)) = true from by first | omega | exact decide_eq_true (by omega)))), hst.bare⟩
      · have c17 : ¬ (a < 0) := of_decide_eq_false b15
        refine s_no 55 rfl (congrArg Value.bool b15) ?_
        refine s_no 55 rfl (congrArg Value.bool b15) ?_
        refine s_no 55 rfl (congrArg Value.bool b15) ?_
        refine s_no 55 rfl (congrArg Value.bool b15) ?_
        refine s_yes 52 rfl rfl (op_pick_f (.bool false) (congrArg Value.bool b15) rfl ?_)
        refine s_yes 43 rfl (congrArg Value.bool (show ((decide (0 < a)) == (decide (0 < b))) = true from (by rw [beq_iff_eq, decide_eq_decide]; omega))) (op_pick_f (.bool false) rfl rfl ?_)
        refine s_cons (op_pick_t (.bool false) (congrArg Value.bool (show ((decide (0 < a)) == (decide (0 < b))) = true from (by rw [beq_iff_eq, decide_eq_decide]; omega))) rfl ?_)
        refine s_cons (op_assign (.bool false) rfl ?_)
        refine s_nil ?_
        refine then_n ?_
        refine cE_ret ?_
        refine then_r ?_
        refine post_r _ (res1 (v := (.bool false)) rfl) ?_
        exact ⟨(retv1 (congrArg Value.bool (show false = true from by first | omega | exact decide_eq_true (by omega)))), hst.bare⟩

end Go.Proofs.Ytffnhcioponbbaa
