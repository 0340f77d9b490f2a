/- the reference: twinkeepref1.Floor -/
import Derived.Test.YtffnhcioponbbaaTR
import Derived.Test.YtffnhcioponbbaaT
import Derived.Test.YtffnhcioponbbaaW20
import Derived.Test.YtffnhcioponbbaaW21
namespace Go.Proofs.Ytffnhcioponbbaa
open Go.RowKit

theorem c_rFloor (w0 : World) (t : Int) (k : Int) (t0 : -9223372036854775808 ≤ t) (k0 : -9223372036854775808 ≤ k) (t1 : t ≤ 9223372036854775807) (k1 : k ≤ 9223372036854775807) :
    Calls Try.prog 31 #[(.int .i64 t), (.int .i64 k)] w0 fun e w' => e = .returned (.int .i64 (floorA t k)) ∧ St w0 w' [] := by
  have hw := width_r k
  refine calls_E (n := 22) (ts := [4]) Try.func31 rfl rfl rfl (by simp) ?_
  have hst := St.start w0
  refine cE_seq ?_
  refine cE_region rfl ?_
  refine s_cons (op_assign (.int .i64 0) rfl ?_)
  refine s_nil ?_
  refine then_n ?_
  refine cE_seq ?_
  refine cE_seq ?_
  refine cE_region rfl ?_
  refine s_cons (op_move (.int .i64 t) rfl ?_)
  refine s_cons (op_lss (k := .i64) (a := t) (b := 0) rfl rfl ?_)
  refine s_cons (op_move (.bool (decide (t < 0))) rfl ?_)
  rcases Bool.eq_false_or_eq_true (decide (t < 0)) with b1 | b1
  · have c2 : t < 0 := of_decide_eq_true b1
    refine s_no 7 rfl (congrArg Value.bool b1) ?_
    refine s_no 7 rfl (congrArg Value.bool b1) ?_
    refine s_cons (op_pick_t (.bool true) (congrArg Value.bool b1) rfl ?_)
    refine s_cons (op_move (.bool true) rfl ?_)
    refine s_no 11 rfl rfl ?_
    refine s_no 11 rfl rfl ?_
    refine s_no 11 rfl rfl ?_
    refine s_cons (op_pick_t (.bool true) rfl rfl ?_)
    refine s_nil ?_
    refine then_n ?_
    refine cE_cond true rfl (fun _ => ?_) (fun h => by cases h)
    refine cE_seq ?_
    refine cE_region rfl ?_
    refine s_cons (op_assign (.int .i64 (-1)) rfl ?_)
    refine s_nil ?_
    refine then_n ?_
    refine cE_ret ?_
    refine then_r ?_
    refine post_r _ (res1 (v := (.int .i64 (-1))) rfl) ?_
    exact ⟨(retv1 (congrArg (Value.int .i64) (show (-1) = (floorA t k) from by first | exact (floor_none (by omega)).symm | exact (floor_some (by omega) (by omega) (by omega)).symm))), hst.bare⟩
  · have c3 : ¬ (t < 0) := of_decide_eq_false b1
    refine s_yes 7 rfl (congrArg Value.bool b1) (op_move (.int .i64 t) rfl ?_)
    refine s_yes 7 rfl (congrArg Value.bool b1) (op_gtr (k := .i64) (a := t) (b := 1099511627776) rfl rfl ?_)
    refine s_cons (op_pick_f (.bool (decide (1099511627776 < t))) (congrArg Value.bool b1) rfl ?_)
    refine s_cons (op_move (.bool (decide (1099511627776 < t))) rfl ?_)
    rcases Bool.eq_false_or_eq_true (decide (1099511627776 < t)) with b4 | b4
    · have c5 : 1099511627776 < t := of_decide_eq_true b4
      refine s_no 11 rfl (congrArg Value.bool b4) ?_
      refine s_no 11 rfl (congrArg Value.bool b4) ?_
      refine s_no 11 rfl (congrArg Value.bool b4) ?_
      refine s_cons (op_pick_t (.bool true) (congrArg Value.bool b4) rfl ?_)
      refine s_nil ?_
      refine then_n ?_
      refine cE_cond true rfl (fun _ => ?_) (fun h => by cases h)
      refine cE_seq ?_
      refine cE_region rfl ?_
      refine s_cons (op_assign (.int .i64 (-1)) rfl ?_)
      refine s_nil ?_
      refine then_n ?_
      refine cE_ret ?_
      refine then_r ?_
      refine post_r _ (res1 (v := (.int .i64 (-1))) rfl) ?_
      exact ⟨(retv1 (congrArg (Value.int .i64) (show (-1) = (floorA t k) from by first | exact (floor_none (by omega)).symm | exact (floor_some (by omega) (by omega) (by omega)).symm))), hst.bare⟩
    · have c6 : ¬ (1099511627776 < t) := of_decide_eq_false b4
      refine s_yes 11 rfl (congrArg Value.bool b4) (op_move (.int .i64 k) rfl ?_)
      refine s_yes 11 rfl (congrArg Value.bool b4) (op_call Try.call29 (evs_cons (v := (.int .i64 k)) rfl evs_nil) (c_rWidth (w0 := w0) (k := k) (k0 := (by omega)) (k1 := (by omega))) ?_)
      rintro _ w7 ⟨rfl, hcall⟩
      refine ⟨_, rfl, ?_⟩
      have hst : St w0 w7 [] := hst.call hcall
      refine s_yes 11 rfl (congrArg Value.bool b4) (op_eql (k := .i64) (a := (widthA k)) (b := 0) rfl rfl ?_)
      refine s_cons (op_pick_f (.bool (decide ((widthA k) = 0))) (congrArg Value.bool b4) rfl ?_)
      refine s_nil ?_
      refine then_n ?_
      rcases Bool.eq_false_or_eq_true (decide ((widthA k) = 0)) with b8 | b8
      · have c9 : (widthA k) = 0 := of_decide_eq_true b8
        refine cE_cond true (congrArg Value.bool b8) (fun _ => ?_) (fun h => by cases h)
        refine cE_seq ?_
        refine cE_region rfl ?_
        refine s_cons (op_assign (.int .i64 (-1)) rfl ?_)
        refine s_nil ?_
        refine then_n ?_
        refine cE_ret ?_
        refine then_r ?_
        refine post_r _ (res1 (v := (.int .i64 (-1))) rfl) ?_
        exact ⟨(retv1 (congrArg (Value.int .i64) (show (-1) = (floorA t k) from by first | exact (floor_none (by omega)).symm | exact (floor_some (by omega) (by omega) (by omega)).symm))), hst.bare⟩
      · have c10 : ¬ ((widthA k) = 0) := of_decide_eq_false b8
        refine cE_cond false (congrArg Value.bool b8) (fun h => by cases h) (fun _ => ?_)
        refine cE_skip ?_
        refine then_n ?_
        refine cE_seq ?_
        have hw2 := emod_w (t := t) (w := widthA k) (by omega) (by omega) hw.1
        refine cE_region rfl ?_
        refine s_cons (op_move (.int .i64 t) rfl ?_)
        refine s_cons (op_move (.int .i64 t) rfl ?_)
        refine s_cons (op_move (.int .i64 k) rfl ?_)
        refine s_cons (op_call Try.call29 (evs_cons (v := (.int .i64 k)) rfl evs_nil) (c_rWidth (w0 := w7) (k := k) (k0 := (by omega)) (k1 := (by omega))) ?_)
        rintro _ w11 ⟨rfl, hcall⟩
        refine ⟨_, rfl, ?_⟩
        have hst : St w0 w11 [] := hst.call hcall
        refine s_cons (op_rem (k := .i64) (a := t) (b := (widthA k)) (t % (widthA k)) rfl rfl (by omega) (tmod_nn (by omega)) ?_)
        refine s_cons (op_sub (k := .i64) (a := t) (b := (t % (widthA k))) (t - (t % (widthA k))) rfl rfl (xi64 (by omega) (by omega)) ?_)
        refine s_cons (op_assign (.int .i64 (t - (t % (widthA k)))) rfl ?_)
        refine s_nil ?_
        refine then_n ?_
        refine cE_ret ?_
        refine post_r _ (res1 (v := (.int .i64 (t - (t % (widthA k))))) rfl) ?_
        exact ⟨(retv1 (congrArg (Value.int .i64) (show (t - (t % (widthA k))) = (floorA t k) from by first | exact (floor_none (by omega)).symm | exact (floor_some (by omega) (by omega) (by omega)).symm))), hst.bare⟩

end Go.Proofs.Ytffnhcioponbbaa
