/- what samples come to -/
import Derived.Test.YtgibfidebdgffaaDoorXT
import Derived.Test.YtgibfidebdgffaaDoorXLB
import Derived.Test.YtgibfidebdgffaaDoorXLA
namespace Go.Proofs.YtgibfidebdgffaaDoor
open Go.RowKit

set_option maxRecDepth 8000 in
theorem c_Add (w0 : World) (a : Int) (b : Int) (a0 : -9223372036854775808 ≤ a) (b0 : -9223372036854775808 ≤ b) (a1 : a ≤ 9223372036854775807) (b1 : b ≤ 9223372036854775807) :
  Calls Tryd.prog 53 #[(iV a), (iV b)] w0 fun e w' => e = .returned (.tuple #[(iV (addV a b)), (.bool (addB a b))]) ∧ St w0 w' [] := by
 refine calls_E (n := 27) (ts := [4, 5]) Tryd.func53 rfl rfl rfl (by simp) ?_
 have hst := St.start w0
 refine cE_seq (cE_region rfl (s_cons (op_assign (iV 0) rfl (s_cons (op_assign (.bool false) rfl (s_nil (then_n (cE_seq (cE_seq (cE_region rfl (s_cons (op_move (iV b) rfl (s_cons (op_gtr (k := .i64) (a := b) (b := 0) rfl rfl (s_cons (op_move (.bool (decide (0 < b))) rfl ?_))))))))))))))))
 rcases Bool.eq_false_or_eq_true (decide (0 < b)) with b1 | b1
 ·have c2 : 0 < b := of_decide_eq_true b1
  refine s_yes 8 rfl (congrArg Value.bool b1) (op_move (iV a) rfl (s_yes 8 rfl (congrArg Value.bool b1) (op_move (iV b) rfl (s_yes 8 rfl (congrArg Value.bool b1) (op_sub (k := .i64) (a := 9223372036854775807) (b := b) (9223372036854775807 - b) rfl rfl (xi64 (by omega) (by omega)) (s_yes 8 rfl (congrArg Value.bool b1) (op_gtr (k := .i64) (a := a) (b := (9223372036854775807 - b)) rfl rfl ?_)))))))
  refine s_cons (op_pick_t (.bool (decide ((9223372036854775807 - b) < a))) (congrArg Value.bool b1) rfl (s_cons (op_move (.bool (decide ((9223372036854775807 - b) < a))) rfl ?_)))
  rcases Bool.eq_false_or_eq_true (decide ((9223372036854775807 - b) < a)) with b3 | b3
  ·have c4 : (9223372036854775807 - b) < a := of_decide_eq_true b3
   refine s_no 14 rfl (congrArg Value.bool b3) (s_no 14 rfl (congrArg Value.bool b3) (s_no 14 rfl (congrArg Value.bool b3) (s_un 17 rfl rfl (s_un 17 rfl rfl (s_un 17 rfl rfl (s_un 17 rfl rfl (s_no 14 rfl (congrArg Value.bool b3) (s_cons (op_pick_t (.bool true) (congrArg Value.bool b3) rfl (s_nil (then_n (cE_cond true rfl (fun _ => ?_) (fun h => by cases h)))))))))))))
   refine cE_seq (cE_region rfl (s_cons (op_assign (iV 0) rfl (s_cons (op_assign (.bool false) rfl (s_nil (then_n (cE_ret (then_r (post_r _ (res2 (v := (iV 0)) rfl (x := (.bool false)) rfl) ?_))))))))))
   exact ⟨(retv2 (congrArg iV (show 0 = (addV a b) from by first | (unfold addV; split <;> omega) | (rw [Bool.eq_iff_iff]; simp only [mayA, mayP, i64R, addB, agg_iff, true_and, and_true, decide_eq_true_eq, Bool.false_eq_true, true_iff, false_iff]; omega))) (congrArg Value.bool (show false = (addB a b) from by first | (unfold addV; split <;> omega) | (rw [Bool.eq_iff_iff]; simp only [mayA, mayP, i64R, addB, agg_iff, true_and, and_true, decide_eq_true_eq, Bool.false_eq_true, true_iff, false_iff]; omega)))), hst.bare⟩
  have c5 : ¬ ((9223372036854775807 - b) < a) := of_decide_eq_false b3
  refine s_yes 14 rfl (congrArg Value.bool b3) (op_move (iV b) rfl (s_yes 14 rfl (congrArg Value.bool b3) (op_lss (k := .i64) (a := b) (b := 0) rfl rfl (s_yes 14 rfl (congrArg Value.bool b3) (op_move (.bool (decide (b < 0))) rfl ?_)))))
  rcases Bool.eq_false_or_eq_true (decide (b < 0)) with b6 | b6
  ·have c7 : b < 0 := of_decide_eq_true b6
   refine s_yes 17 rfl (congrArg Value.bool b6) (op_move (iV a) rfl (s_yes 17 rfl (congrArg Value.bool b6) (op_move (iV b) rfl (s_yes 17 rfl (congrArg Value.bool b6) (op_sub (k := .i64) (a := (-9223372036854775808)) (b := b) ((-9223372036854775808) - b) rfl rfl (xi64 (by omega) (by omega)) (s_yes 17 rfl (congrArg Value.bool b6) (op_lss (k := .i64) (a := a) (b := ((-9223372036854775808) - b)) rfl rfl ?_)))))))
   refine s_yes 14 rfl (congrArg Value.bool b3) (op_pick_t (.bool (decide (a < ((-9223372036854775808) - b)))) (congrArg Value.bool b6) rfl (s_cons (op_pick_f (.bool (decide (a < ((-9223372036854775808) - b)))) (congrArg Value.bool b3) rfl (s_nil (then_n ?_)))))
   rcases Bool.eq_false_or_eq_true (decide (a < ((-9223372036854775808) - b))) with b8 | b8
   ·have c9 : a < ((-9223372036854775808) - b) := of_decide_eq_true b8
    refine cE_cond true (congrArg Value.bool b8) (fun _ => ?_) (fun h => by cases h)
    refine cE_seq (cE_region rfl (s_cons (op_assign (iV 0) rfl (s_cons (op_assign (.bool false) rfl (s_nil (then_n (cE_ret (then_r (post_r _ (res2 (v := (iV 0)) rfl (x := (.bool false)) rfl) ?_))))))))))
    exact ⟨(retv2 (congrArg iV (show 0 = (addV a b) from by first | (unfold addV; split <;> omega) | (rw [Bool.eq_iff_iff]; simp only [mayA, mayP, i64R, addB, agg_iff, true_and, and_true, decide_eq_true_eq, Bool.false_eq_true, true_iff, false_iff]; omega))) (congrArg Value.bool (show false = (addB a b) from by first | (unfold addV; split <;> omega) | (rw [Bool.eq_iff_iff]; simp only [mayA, mayP, i64R, addB, agg_iff, true_and, and_true, decide_eq_true_eq, Bool.false_eq_true, true_iff, false_iff]; omega)))), hst.bare⟩
   have c10 : ¬ (a < ((-9223372036854775808) - b)) := of_decide_eq_false b8
   refine cE_cond false (congrArg Value.bool b8) (fun h => by cases h) (fun _ => ?_)
   refine cE_skip (then_n (cE_seq (cE_region rfl (s_cons (op_move (iV a) rfl (s_cons (op_move (iV b) rfl (s_cons (op_add (k := .i64) (a := a) (b := b) (a + b) rfl rfl (xi64 (by omega) (by omega)) (s_cons (op_assign (iV (a + b)) rfl (s_cons (op_assign (.bool true) rfl (s_nil (then_n (cE_ret (post_r _ (res2 (v := (iV (a + b))) rfl (x := (.bool true)) rfl) ?_)))))))))))))))))
   exact ⟨(retv2 (congrArg iV (show (a + b) = (addV a b) from by first | (unfold addV; split <;> omega) | (rw [Bool.eq_iff_iff]; simp only [mayA, mayP, i64R, addB, agg_iff, true_and, and_true, decide_eq_true_eq, Bool.false_eq_true, true_iff, false_iff]; omega))) (congrArg Value.bool (show true = (addB a b) from by first | (unfold addV; split <;> omega) | (rw [Bool.eq_iff_iff]; simp only [mayA, mayP, i64R, addB, agg_iff, true_and, and_true, decide_eq_true_eq, Bool.false_eq_true, true_iff, false_iff]; omega)))), hst.bare⟩
  have c11 : ¬ (b < 0) := of_decide_eq_false b6
  refine s_no 17 rfl (congrArg Value.bool b6) (s_no 17 rfl (congrArg Value.bool b6) (s_no 17 rfl (congrArg Value.bool b6) (s_no 17 rfl (congrArg Value.bool b6) (s_yes 14 rfl (congrArg Value.bool b3) (op_pick_f (.bool false) (congrArg Value.bool b6) rfl (s_cons (op_pick_f (.bool false) (congrArg Value.bool b3) rfl (s_nil (then_n (cE_cond false rfl (fun h => by cases h) (fun _ => ?_)))))))))))
  refine cE_skip (then_n (cE_seq (cE_region rfl (s_cons (op_move (iV a) rfl (s_cons (op_move (iV b) rfl (s_cons (op_add (k := .i64) (a := a) (b := b) (a + b) rfl rfl (xi64 (by omega) (by omega)) (s_cons (op_assign (iV (a + b)) rfl (s_cons (op_assign (.bool true) rfl (s_nil (then_n (cE_ret (post_r _ (res2 (v := (iV (a + b))) rfl (x := (.bool true)) rfl) ?_)))))))))))))))))
  exact ⟨(retv2 (congrArg iV (show (a + b) = (addV a b) from by first | (unfold addV; split <;> omega) | (rw [Bool.eq_iff_iff]; simp only [mayA, mayP, i64R, addB, agg_iff, true_and, and_true, decide_eq_true_eq, Bool.false_eq_true, true_iff, false_iff]; omega))) (congrArg Value.bool (show true = (addB a b) from by first | (unfold addV; split <;> omega) | (rw [Bool.eq_iff_iff]; simp only [mayA, mayP, i64R, addB, agg_iff, true_and, and_true, decide_eq_true_eq, Bool.false_eq_true, true_iff, false_iff]; omega)))), hst.bare⟩
 have c12 : ¬ (0 < b) := of_decide_eq_false b1
 refine s_no 8 rfl (congrArg Value.bool b1) (s_no 8 rfl (congrArg Value.bool b1) (s_no 8 rfl (congrArg Value.bool b1) (s_no 8 rfl (congrArg Value.bool b1) (s_cons (op_pick_f (.bool false) (congrArg Value.bool b1) rfl (s_cons (op_move (.bool false) rfl (s_yes 14 rfl rfl (op_move (iV b) rfl (s_yes 14 rfl rfl (op_lss (k := .i64) (a := b) (b := 0) rfl rfl (s_yes 14 rfl rfl (op_move (.bool (decide (b < 0))) rfl ?_)))))))))))))
 rcases Bool.eq_false_or_eq_true (decide (b < 0)) with b13 | b13
 ·have c14 : b < 0 := of_decide_eq_true b13
  refine s_yes 17 rfl (congrArg Value.bool b13) (op_move (iV a) rfl (s_yes 17 rfl (congrArg Value.bool b13) (op_move (iV b) rfl (s_yes 17 rfl (congrArg Value.bool b13) (op_sub (k := .i64) (a := (-9223372036854775808)) (b := b) ((-9223372036854775808) - b) rfl rfl (xi64 (by omega) (by omega)) (s_yes 17 rfl (congrArg Value.bool b13) (op_lss (k := .i64) (a := a) (b := ((-9223372036854775808) - b)) rfl rfl ?_)))))))
  refine s_yes 14 rfl rfl (op_pick_t (.bool (decide (a < ((-9223372036854775808) - b)))) (congrArg Value.bool b13) rfl (s_cons (op_pick_f (.bool (decide (a < ((-9223372036854775808) - b)))) rfl rfl (s_nil (then_n ?_)))))
  rcases Bool.eq_false_or_eq_true (decide (a < ((-9223372036854775808) - b))) with b15 | b15
  ·have c16 : a < ((-9223372036854775808) - b) := of_decide_eq_true b15
   refine cE_cond true (congrArg Value.bool b15) (fun _ => ?_) (fun h => by cases h)
   refine cE_seq (cE_region rfl (s_cons (op_assign (iV 0) rfl (s_cons (op_assign (.bool false) rfl (s_nil (then_n (cE_ret (then_r (post_r _ (res2 (v := (iV 0)) rfl (x := (.bool false)) rfl) ?_))))))))))
   exact ⟨(retv2 (congrArg iV (show 0 = (addV a b) from by first | (unfold addV; split <;> omega) | (rw [Bool.eq_iff_iff]; simp only [mayA, mayP, i64R, addB, agg_iff, true_and, and_true, decide_eq_true_eq, Bool.false_eq_true, true_iff, false_iff]; omega))) (congrArg Value.bool (show false = (addB a b) from by first | (unfold addV; split <;> omega) | (rw [Bool.eq_iff_iff]; simp only [mayA, mayP, i64R, addB, agg_iff, true_and, and_true, decide_eq_true_eq, Bool.false_eq_true, true_iff, false_iff]; omega)))), hst.bare⟩
  have c17 : ¬ (a < ((-9223372036854775808) - b)) := of_decide_eq_false b15
  refine cE_cond false (congrArg Value.bool b15) (fun h => by cases h) (fun _ => ?_)
  refine cE_skip (then_n (cE_seq (cE_region rfl (s_cons (op_move (iV a) rfl (s_cons (op_move (iV b) rfl (s_cons (op_add (k := .i64) (a := a) (b := b) (a + b) rfl rfl (xi64 (by omega) (by omega)) (s_cons (op_assign (iV (a + b)) rfl (s_cons (op_assign (.bool true) rfl (s_nil (then_n (cE_ret (post_r _ (res2 (v := (iV (a + b))) rfl (x := (.bool true)) rfl) ?_)))))))))))))))))
  exact ⟨(retv2 (congrArg iV (show (a + b) = (addV a b) from by first | (unfold addV; split <;> omega) | (rw [Bool.eq_iff_iff]; simp only [mayA, mayP, i64R, addB, agg_iff, true_and, and_true, decide_eq_true_eq, Bool.false_eq_true, true_iff, false_iff]; omega))) (congrArg Value.bool (show true = (addB a b) from by first | (unfold addV; split <;> omega) | (rw [Bool.eq_iff_iff]; simp only [mayA, mayP, i64R, addB, agg_iff, true_and, and_true, decide_eq_true_eq, Bool.false_eq_true, true_iff, false_iff]; omega)))), hst.bare⟩
 have c18 : ¬ (b < 0) := of_decide_eq_false b13
 refine s_no 17 rfl (congrArg Value.bool b13) (s_no 17 rfl (congrArg Value.bool b13) (s_no 17 rfl (congrArg Value.bool b13) (s_no 17 rfl (congrArg Value.bool b13) (s_yes 14 rfl rfl (op_pick_f (.bool false) (congrArg Value.bool b13) rfl (s_cons (op_pick_f (.bool false) rfl rfl (s_nil (then_n (cE_cond false rfl (fun h => by cases h) (fun _ => ?_)))))))))))
 refine cE_skip (then_n (cE_seq (cE_region rfl (s_cons (op_move (iV a) rfl (s_cons (op_move (iV b) rfl (s_cons (op_add (k := .i64) (a := a) (b := b) (a + b) rfl rfl (xi64 (by omega) (by omega)) (s_cons (op_assign (iV (a + b)) rfl (s_cons (op_assign (.bool true) rfl (s_nil (then_n (cE_ret (post_r _ (res2 (v := (iV (a + b))) rfl (x := (.bool true)) rfl) ?_)))))))))))))))))
 exact ⟨(retv2 (congrArg iV (show (a + b) = (addV a b) from by first | (unfold addV; split <;> omega) | (rw [Bool.eq_iff_iff]; simp only [mayA, mayP, i64R, addB, agg_iff, true_and, and_true, decide_eq_true_eq, Bool.false_eq_true, true_iff, false_iff]; omega))) (congrArg Value.bool (show true = (addB a b) from by first | (unfold addV; split <;> omega) | (rw [Bool.eq_iff_iff]; simp only [mayA, mayP, i64R, addB, agg_iff, true_and, and_true, decide_eq_true_eq, Bool.false_eq_true, true_iff, false_iff]; omega)))), hst.bare⟩

set_option maxRecDepth 8000 in
theorem c_One (w0 : World) (s : Sample) (fr : Int) :
  Calls Tryd.prog 52 #[(.agg #[(iV s.T), (iV s.V)]), (iV fr)] w0 fun e w' => e = .returned (.agg #[(iV fr), (iV 1), (iV s.V), (iV s.V), (iV s.V), (iV s.V), (iV s.V)]) ∧ St w0 w' [] := by
 refine calls_G (n := 17) (rs := [.cell 4 45]) Tryd.func52 rfl rfl rfl (by simp) ?_
 have hst := St.start w0
 refine cE_seq (cE_region rfl (s_cons (op_box (v := (.agg #[(iV s.T), (iV s.V)])) (cs := #[(iV s.T), (iV s.V)]) hst rfl rfl (fun g19 w20 hst _ => ?_))))
 replace hst : St w0 w20 [.blk g19 28 #[(iV s.T), (iV s.V)]] := hst
 refine s_cons (op_alloc (cs := #[(iV 0), (iV 0), (iV 0), (iV 0), (iV 0), (iV 0), (iV 0)]) hst Tryd.zeroValue45 rfl (fun g21 w22 hst _ => ?_))
 replace hst : St w0 w22 [.blk g21 45 #[(iV 0), (iV 0), (iV 0), (iV 0), (iV 0), (iV 0), (iV 0)], .blk g19 28 #[(iV s.T), (iV s.V)]] := hst
 refine s_nil (then_n (cE_seq (cE_region rfl (s_cons (op_move (iV fr) rfl (s_cons (op_fieldAddr (s := 0) Tryd.underlying28 rfl rfl Tryd.sizeOf2 rfl (s_cons (op_load1 (u := (iV s.V)) Tryd.isAgg2 rfl ((hst.cell 1 rfl).drop 1) (s_cons (op_fieldAddr (s := 0) Tryd.underlying28 rfl rfl Tryd.sizeOf2 rfl (s_cons (op_load1 (u := (iV s.V)) Tryd.isAgg2 rfl ((hst.cell 1 rfl).drop 1) (s_cons (op_fieldAddr (s := 0) Tryd.underlying28 rfl rfl Tryd.sizeOf2 rfl ?_)))))))))))))))
 refine s_cons (op_load1 (u := (iV s.V)) Tryd.isAgg2 rfl ((hst.cell 1 rfl).drop 1) (s_cons (op_fieldAddr (s := 0) Tryd.underlying28 rfl rfl Tryd.sizeOf2 rfl (s_cons (op_load1 (u := (iV s.V)) Tryd.isAgg2 rfl ((hst.cell 1 rfl).drop 1) (s_cons (op_fieldAddr (s := 0) Tryd.underlying28 rfl rfl Tryd.sizeOf2 rfl (s_cons (op_load1 (u := (iV s.V)) Tryd.isAgg2 rfl ((hst.cell 1 rfl).drop 1) (s_cons (op_build (r := (.agg #[(iV fr), (iV 1), (iV s.V), (iV s.V), (iV s.V), (iV s.V), (iV s.V)])) (evp_cons (v := (iV fr)) rfl (evp_cons (v := (iV 1)) rfl (evp_cons (v := (iV s.V)) rfl (evp_cons (v := (iV s.V)) rfl (evp_cons (v := (iV s.V)) rfl (evp_cons (v := (iV s.V)) rfl (evp_cons (v := (iV s.V)) rfl evp_nil))))))) (by simp [Instr.build, Instr.fill, Value.cells, Tryd.runUnderlying45, Tryd.zeroValue45]) ?_)))))))))))
 refine s_cons0 (op_storeAll hst 0 rfl Tryd.sizeOf45 rfl rfl rfl rfl (by simp [Value.oneCell']) (fun w23 hst => ?_))
 replace hst : St w0 w23 [.blk g21 45 #[(iV fr), (iV 1), (iV s.V), (iV s.V), (iV s.V), (iV s.V), (iV s.V)], .blk g19 28 #[(iV s.T), (iV s.V)]] := hst
 refine s_nil (then_n (cE_ret (postG_r _ (rvN (cs := [(iV fr), (iV 1), (iV s.V), (iV s.V), (iV s.V), (iV s.V), (iV s.V)]) Tryd.isAgg45 Tryd.sizeOf45 rfl (Pt.of (hst.cell 0 rfl) rfl) rfl rvnil) ?_)))
 exact ⟨rfl, hst.bare⟩

set_option maxRecDepth 8000 in
theorem c_May (w0 : World) (a : Agg) :
  Calls Tryd.prog 45 #[(.agg (aggA a))] w0 fun e w' => e = .returned (.bool (mayA a)) ∧ St w0 w' [] := by
 refine calls_E (n := 52) (ts := [2]) Tryd.func45 rfl rfl rfl (by simp) ?_
 have hst := St.start w0
 refine cE_seq (cE_region rfl (s_cons (op_box (v := (.agg (aggA a))) (cs := (aggA a)) hst rfl rfl (fun g24 w25 hst _ => ?_))))
 replace hst : St w0 w25 [.blk g24 45 (aggA a)] := hst
 refine s_cons (op_assign (.bool false) rfl (s_nil (then_n (cE_seq (cE_seq (cE_region rfl (s_cons (op_fieldAddr (s := 0) Tryd.underlying45 rfl rfl Tryd.sizeOf2 rfl (s_cons (op_load1 (u := (iV a.Count)) Tryd.isAgg2 rfl ((hst.cell 0 rfl).drop 1) (s_cons (op_lss (k := .i64) (a := a.Count) (b := 1) rfl rfl (s_cons (op_move (.bool (decide (a.Count < 1))) rfl ?_))))))))))))))
 rcases Bool.eq_false_or_eq_true (decide (a.Count < 1)) with b26 | b26
 ·have c27 : a.Count < 1 := of_decide_eq_true b26
  refine s_no 6 rfl (congrArg Value.bool b26) (s_no 6 rfl (congrArg Value.bool b26) (s_no 6 rfl (congrArg Value.bool b26) (s_cons (op_pick_t (.bool true) (congrArg Value.bool b26) rfl (s_cons (op_move (.bool true) rfl (s_no 11 rfl rfl (s_no 11 rfl rfl (s_no 11 rfl rfl (s_cons (op_pick_t (.bool true) rfl rfl (s_cons (op_move (.bool true) rfl (s_no 16 rfl rfl (s_no 16 rfl rfl (s_no 16 rfl rfl ?_))))))))))))))))
  refine s_cons (op_pick_t (.bool true) rfl rfl (s_nil (then_n (cE_cond true rfl (fun _ => ?_) (fun h => by cases h)))))
  refine cE_seq (cE_region rfl (s_cons (op_assign (.bool false) rfl (s_nil (then_n (cE_ret (then_r (post_r _ (res1 (v := (.bool false)) rfl) ?_))))))))
  exact ⟨(retv1 (congrArg Value.bool (show false = (mayA a) from by (rw [Bool.eq_iff_iff]; simp only [mayA, mayP, i64R, addB, agg_iff, true_and, and_true, decide_eq_true_eq, Bool.false_eq_true, true_iff, false_iff]; omega)))), hst.bare⟩
 have c28 : ¬ (a.Count < 1) := of_decide_eq_false b26
 refine s_yes 6 rfl (congrArg Value.bool b26) (op_fieldAddr (s := 0) Tryd.underlying45 rfl rfl Tryd.sizeOf2 rfl (s_yes 6 rfl (congrArg Value.bool b26) (op_load1 (u := (iV a.Count)) Tryd.isAgg2 rfl ((hst.cell 0 rfl).drop 1) (s_yes 6 rfl (congrArg Value.bool b26) (op_gtr (k := .i64) (a := a.Count) (b := 1099511627776) rfl rfl (s_cons (op_pick_f (.bool (decide (1099511627776 < a.Count))) (congrArg Value.bool b26) rfl ?_)))))))
 refine s_cons (op_move (.bool (decide (1099511627776 < a.Count))) rfl ?_)
 rcases Bool.eq_false_or_eq_true (decide (1099511627776 < a.Count)) with b29 | b29
 ·have c30 : 1099511627776 < a.Count := of_decide_eq_true b29
  refine s_no 11 rfl (congrArg Value.bool b29) (s_no 11 rfl (congrArg Value.bool b29) (s_no 11 rfl (congrArg Value.bool b29) (s_cons (op_pick_t (.bool true) (congrArg Value.bool b29) rfl (s_cons (op_move (.bool true) rfl (s_no 16 rfl rfl (s_no 16 rfl rfl (s_no 16 rfl rfl (s_cons (op_pick_t (.bool true) rfl rfl (s_nil (then_n (cE_cond true rfl (fun _ => ?_) (fun h => by cases h)))))))))))))))
  refine cE_seq (cE_region rfl (s_cons (op_assign (.bool false) rfl (s_nil (then_n (cE_ret (then_r (post_r _ (res1 (v := (.bool false)) rfl) ?_))))))))
  exact ⟨(retv1 (congrArg Value.bool (show false = (mayA a) from by (rw [Bool.eq_iff_iff]; simp only [mayA, mayP, i64R, addB, agg_iff, true_and, and_true, decide_eq_true_eq, Bool.false_eq_true, true_iff, false_iff]; omega)))), hst.bare⟩
 have c31 : ¬ (1099511627776 < a.Count) := of_decide_eq_false b29
 refine s_yes 11 rfl (congrArg Value.bool b29) (op_fieldAddr (s := 0) Tryd.underlying45 rfl rfl Tryd.sizeOf2 rfl (s_yes 11 rfl (congrArg Value.bool b29) (op_load1 (u := (iV a.From)) Tryd.isAgg2 rfl (hst.cell 0 rfl) (s_yes 11 rfl (congrArg Value.bool b29) (op_lss (k := .i64) (a := a.From) (b := 0) rfl rfl (s_cons (op_pick_f (.bool (decide (a.From < 0))) (congrArg Value.bool b29) rfl (s_cons (op_move (.bool (decide (a.From < 0))) rfl ?_)))))))))
 rcases Bool.eq_false_or_eq_true (decide (a.From < 0)) with b32 | b32
 ·have c33 : a.From < 0 := of_decide_eq_true b32
  refine s_no 16 rfl (congrArg Value.bool b32) (s_no 16 rfl (congrArg Value.bool b32) (s_no 16 rfl (congrArg Value.bool b32) (s_cons (op_pick_t (.bool true) (congrArg Value.bool b32) rfl (s_nil (then_n (cE_cond true rfl (fun _ => ?_) (fun h => by cases h))))))))
  refine cE_seq (cE_region rfl (s_cons (op_assign (.bool false) rfl (s_nil (then_n (cE_ret (then_r (post_r _ (res1 (v := (.bool false)) rfl) ?_))))))))
  exact ⟨(retv1 (congrArg Value.bool (show false = (mayA a) from by (rw [Bool.eq_iff_iff]; simp only [mayA, mayP, i64R, addB, agg_iff, true_and, and_true, decide_eq_true_eq, Bool.false_eq_true, true_iff, false_iff]; omega)))), hst.bare⟩
 have c34 : ¬ (a.From < 0) := of_decide_eq_false b32
 refine s_yes 16 rfl (congrArg Value.bool b32) (op_fieldAddr (s := 0) Tryd.underlying45 rfl rfl Tryd.sizeOf2 rfl (s_yes 16 rfl (congrArg Value.bool b32) (op_load1 (u := (iV a.From)) Tryd.isAgg2 rfl (hst.cell 0 rfl) (s_yes 16 rfl (congrArg Value.bool b32) (op_gtr (k := .i64) (a := a.From) (b := 1099511627776) rfl rfl (s_cons (op_pick_f (.bool (decide (1099511627776 < a.From))) (congrArg Value.bool b32) rfl ?_)))))))
 refine s_nil (then_n ?_)
 rcases Bool.eq_false_or_eq_true (decide (1099511627776 < a.From)) with b35 | b35
 ·have c36 : 1099511627776 < a.From := of_decide_eq_true b35
  refine cE_cond true (congrArg Value.bool b35) (fun _ => ?_) (fun h => by cases h)
  refine cE_seq (cE_region rfl (s_cons (op_assign (.bool false) rfl (s_nil (then_n (cE_ret (then_r (post_r _ (res1 (v := (.bool false)) rfl) ?_))))))))
  exact ⟨(retv1 (congrArg Value.bool (show false = (mayA a) from by (rw [Bool.eq_iff_iff]; simp only [mayA, mayP, i64R, addB, agg_iff, true_and, and_true, decide_eq_true_eq, Bool.false_eq_true, true_iff, false_iff]; omega)))), hst.bare⟩
 have c37 : ¬ (1099511627776 < a.From) := of_decide_eq_false b35
 refine cE_cond false (congrArg Value.bool b35) (fun h => by cases h) (fun _ => ?_)
 refine cE_skip (then_n (cE_seq (cE_seq (cE_region rfl (s_cons (op_fieldAddr (s := 0) Tryd.underlying45 rfl rfl Tryd.sizeOf2 rfl (s_cons (op_load1 (u := (iV a.Count)) Tryd.isAgg2 rfl ((hst.cell 0 rfl).drop 1) (s_cons (op_eql (k := .i64) (a := a.Count) (b := 1) rfl rfl (s_nil (then_n ?_))))))))))))
 rcases Bool.eq_false_or_eq_true (decide (a.Count = 1)) with b38 | b38
 ·have c39 : a.Count = 1 := of_decide_eq_true b38
  refine cE_cond true (congrArg Value.bool b38) (fun _ => ?_) (fun h => by cases h)
  refine cE_seq (cE_regionL hst [[(1, none)], [(1, none)], [(25, some 1)], [(26, some 2)], [(1, none)], [(28, some 4)], [(27, some 3), (29, some 5)], [(24, some 0), (30, some 6)], [(31, some 7)]] [(rEq (.agg (aggA a))), (rEq (.pointer (some ⟨g24, (0 + 2), none⟩))), (rEq (iV a.Sum)), (rEq (.agg #[(iV 0), (iV a.Sum)])), (rEq (.pointer (some ⟨g24, (0 + 0), none⟩))), (rEq (iV a.From)), (rEq (.agg #[(iV a.From), (iV 1), (iV a.Sum), (iV a.Sum), (iV a.Sum), (iV a.Sum), (iV a.Sum)])), (rEq (.bool (decide (a = (⟨a.From, 1, a.Sum, a.Sum, a.Sum, a.Sum, a.Sum⟩ : Agg))))), (rEq (.bool (decide (a = (⟨a.From, 1, a.Sum, a.Sum, a.Sum, a.Sum, a.Sum⟩ : Agg)))))] (by kernel_rfl) rfl (by kernel_rfl) ⟨sEq, sEq, sEq, sEq, sEq, sEq, sEq, sEq, sEq, trivial⟩ ⟨?_, ?_, ?_, ?_, ?_, ?_, ?_, ?_, ?_, trivial⟩ ?_)
  ·rintro ρ41 w42 hj43 ⟨f1, _⟩
   have hst := hj43.2
   exact go_plain (op_loadN (cs := (aggC a)) Tryd.isAgg45 Tryd.sizeOf45 (f1.trans rfl) (Pt.of (hst.cell 0 rfl) rfl) rfl (kS hj43 rfl))
  ·rintro ρ44 w45 hj46 ⟨f1, _⟩
   have hst := hj46.2
   exact go_plain (op_fieldAddr (s := 0) Tryd.underlying45 rfl rfl Tryd.sizeOf2 (f1.trans rfl) (kS hj46 rfl))
  ·rintro ρ47 w48 hj49 ⟨f25, _⟩
   have hst := hj49.2
   exact go_plain (op_load1 (u := (iV a.Sum)) Tryd.isAgg2 f25 ((hst.cell 0 rfl).drop 2) (kS hj49 rfl))
  ·rintro ρ50 w51 hj52 ⟨f26, _⟩
   have hst := hj52.2
   exact go_plain (op_build (r := (.agg #[(iV 0), (iV a.Sum)])) (evp_cons (v := (iV a.Sum)) f26 evp_nil) (by simp [Instr.build, Instr.fill, Value.cells, Tryd.runUnderlying28, Tryd.zeroValue28]) (kS hj52 rfl))
  ·rintro ρ53 w54 hj55 ⟨f1, _⟩
   have hst := hj55.2
   exact go_plain (op_fieldAddr (s := 0) Tryd.underlying45 rfl rfl Tryd.sizeOf2 (f1.trans rfl) (kS hj55 rfl))
  ·rintro ρ56 w57 hj58 ⟨f28, _⟩
   have hst := hj58.2
   exact go_plain (op_load1 (u := (iV a.From)) Tryd.isAgg2 f28 (hst.cell 0 rfl) (kS hj58 rfl))
  ·rintro ρ59 w60 hj61 ⟨f27, f29, _⟩
   have hst := hj61.2
   refine go_plain (op_call Tryd.call52 (evs_cons (v := (.agg #[(iV 0), (iV a.Sum)])) f27 (evs_cons (v := (iV a.From)) f29 evs_nil)) (c_One (w0 := w60) (s := (⟨0, a.Sum⟩ : Sample)) (fr := a.From)) ?_)
   rintro _ w62 ⟨rfl, hcall⟩
   refine ⟨_, rfl, ?_⟩
   exact kD hj61 hcall rfl
  ·rintro ρ63 w64 hj65 ⟨f24, f30, _⟩
   have hst := hj65.2
   exact go_plain (op_eqlG Tryd.eqGuardType45 (Tryd.eqAgg a (⟨a.From, 1, a.Sum, a.Sum, a.Sum, a.Sum, a.Sum⟩ : Agg) _) f24 f30 (kS hj65 rfl))
  ·rintro ρ66 w67 hj68 ⟨f31, _⟩
   have hst := hj68.2
   exact go_plain (op_assign (.bool (decide (a = (⟨a.From, 1, a.Sum, a.Sum, a.Sum, a.Sum, a.Sum⟩ : Agg)))) f31 (kS hj68 rfl))
  intro ρ69 w70 hbw70 hst hRw70 hkw70
  have uw70_0 : ρ69 0 = (.agg (aggA a)) := (hkw70 0 rfl).trans rfl
  have uw70_1 : ρ69 1 = (.pointer (some ⟨g24, 0, none⟩)) := (hkw70 1 rfl).trans rfl
  have uw70_3 : ρ69 3 = (.pointer (some ⟨g24, (0 + 1), none⟩)) := (hkw70 3 rfl).trans rfl
  have uw70_4 : ρ69 4 = (iV a.Count) := (hkw70 4 rfl).trans rfl
  have uw70_5 : ρ69 5 = (.bool (decide (a.Count < 1))) := (hkw70 5 rfl).trans rfl
  have uw70_6 : ρ69 6 = (.bool (decide (a.Count < 1))) := (hkw70 6 rfl).trans rfl
  have uw70_7 : ρ69 7 = (.pointer (some ⟨g24, (0 + 1), none⟩)) := (hkw70 7 rfl).trans rfl
  have uw70_8 : ρ69 8 = (iV a.Count) := (hkw70 8 rfl).trans rfl
  have uw70_9 : ρ69 9 = (.bool (decide (1099511627776 < a.Count))) := (hkw70 9 rfl).trans rfl
  have uw70_10 : ρ69 10 = (.bool (decide (1099511627776 < a.Count))) := (hkw70 10 rfl).trans rfl
  have uw70_11 : ρ69 11 = (.bool (decide (1099511627776 < a.Count))) := (hkw70 11 rfl).trans rfl
  have uw70_12 : ρ69 12 = (.pointer (some ⟨g24, (0 + 0), none⟩)) := (hkw70 12 rfl).trans rfl
  have uw70_13 : ρ69 13 = (iV a.From) := (hkw70 13 rfl).trans rfl
  have uw70_14 : ρ69 14 = (.bool (decide (a.From < 0))) := (hkw70 14 rfl).trans rfl
  have uw70_15 : ρ69 15 = (.bool (decide (a.From < 0))) := (hkw70 15 rfl).trans rfl
  have uw70_16 : ρ69 16 = (.bool (decide (a.From < 0))) := (hkw70 16 rfl).trans rfl
  have uw70_17 : ρ69 17 = (.pointer (some ⟨g24, (0 + 0), none⟩)) := (hkw70 17 rfl).trans rfl
  have uw70_18 : ρ69 18 = (iV a.From) := (hkw70 18 rfl).trans rfl
  have uw70_19 : ρ69 19 = (.bool (decide (1099511627776 < a.From))) := (hkw70 19 rfl).trans rfl
  have uw70_20 : ρ69 20 = (.bool (decide (1099511627776 < a.From))) := (hkw70 20 rfl).trans rfl
  have uw70_21 : ρ69 21 = (.pointer (some ⟨g24, (0 + 1), none⟩)) := (hkw70 21 rfl).trans rfl
  have uw70_22 : ρ69 22 = (iV a.Count) := (hkw70 22 rfl).trans rfl
  have uw70_23 : ρ69 23 = (.bool (decide (a.Count = 1))) := (hkw70 23 rfl).trans rfl
  have uw70_2 : ρ69 2 = (.bool (decide (a = (⟨a.From, 1, a.Sum, a.Sum, a.Sum, a.Sum, a.Sum⟩ : Agg)))) := hRw70 8 2 rfl
  refine then_n (cE_ret (then_r (post_r _ (res1 (v := (.bool (decide (a = (⟨a.From, 1, a.Sum, a.Sum, a.Sum, a.Sum, a.Sum⟩ : Agg))))) uw70_2) ?_)))
  exact ⟨(retv1 (congrArg Value.bool (show (decide (a = (⟨a.From, 1, a.Sum, a.Sum, a.Sum, a.Sum, a.Sum⟩ : Agg))) = (mayA a) from by (rw [Bool.eq_iff_iff]; simp only [mayA, mayP, i64R, addB, agg_iff, true_and, and_true, decide_eq_true_eq, Bool.false_eq_true, true_iff, false_iff]; omega)))), hst.bare⟩
 have c71 : ¬ (a.Count = 1) := of_decide_eq_false b38
 refine cE_cond false (congrArg Value.bool b38) (fun h => by cases h) (fun _ => ?_)
 refine cE_skip (then_n (cE_seq (cE_region rfl (s_cons (op_fieldAddr (s := 0) Tryd.underlying45 rfl rfl Tryd.sizeOf2 rfl (s_cons (op_load1 (u := (iV a.Min)) Tryd.isAgg2 rfl ((hst.cell 0 rfl).drop 3) (s_cons (op_fieldAddr (s := 0) Tryd.underlying45 rfl rfl Tryd.sizeOf2 rfl (s_cons (op_load1 (u := (iV a.First)) Tryd.isAgg2 rfl ((hst.cell 0 rfl).drop 5) (s_cons (op_fieldAddr (s := 0) Tryd.underlying45 rfl rfl Tryd.sizeOf2 rfl ?_)))))))))))))
 refine s_cons (op_load1 (u := (iV a.Last)) Tryd.isAgg2 rfl ((hst.cell 0 rfl).drop 6) (s_cons (op_fieldAddr (s := 0) Tryd.underlying45 rfl rfl Tryd.sizeOf2 rfl (s_cons (op_load1 (u := (iV a.Max)) Tryd.isAgg2 rfl ((hst.cell 0 rfl).drop 4) (s_cons (op_min3 (k := .i64) (a := a.First) (b := a.Last) (c := a.Max) rfl rfl rfl (s_cons (op_leq (k := .i64) (a := a.Min) (b := (min (min a.First a.Last) a.Max)) rfl rfl ?_)))))))))
 refine s_cons (op_move (.bool (decide (a.Min ≤ (min (min a.First a.Last) a.Max)))) rfl ?_)
 rcases Bool.eq_false_or_eq_true (decide (a.Min ≤ (min (min a.First a.Last) a.Max))) with b72 | b72
 ·have c73 : a.Min ≤ (min (min a.First a.Last) a.Max) := of_decide_eq_true b72
  refine s_yes 42 rfl (congrArg Value.bool b72) (op_fieldAddr (s := 0) Tryd.underlying45 rfl rfl Tryd.sizeOf2 rfl (s_yes 42 rfl (congrArg Value.bool b72) (op_load1 (u := (iV a.Max)) Tryd.isAgg2 rfl ((hst.cell 0 rfl).drop 4) (s_yes 42 rfl (congrArg Value.bool b72) (op_fieldAddr (s := 0) Tryd.underlying45 rfl rfl Tryd.sizeOf2 rfl (s_yes 42 rfl (congrArg Value.bool b72) (op_load1 (u := (iV a.First)) Tryd.isAgg2 rfl ((hst.cell 0 rfl).drop 5) ?_)))))))
  refine s_yes 42 rfl (congrArg Value.bool b72) (op_fieldAddr (s := 0) Tryd.underlying45 rfl rfl Tryd.sizeOf2 rfl (s_yes 42 rfl (congrArg Value.bool b72) (op_load1 (u := (iV a.Last)) Tryd.isAgg2 rfl ((hst.cell 0 rfl).drop 6) (s_yes 42 rfl (congrArg Value.bool b72) (op_max2 (k := .i64) (a := a.First) (b := a.Last) rfl rfl (s_yes 42 rfl (congrArg Value.bool b72) (op_geq (k := .i64) (a := a.Max) (b := (max a.First a.Last)) rfl rfl ?_)))))))
  refine s_cons (op_pick_t (.bool (decide ((max a.First a.Last) ≤ a.Max))) (congrArg Value.bool b72) rfl (s_cons (op_assign (.bool (decide ((max a.First a.Last) ≤ a.Max))) rfl (s_nil (then_n (cE_ret (post_r _ (res1 (v := (.bool (decide ((max a.First a.Last) ≤ a.Max)))) rfl) ?_)))))))
  exact ⟨(retv1 (congrArg Value.bool (show (decide ((max a.First a.Last) ≤ a.Max)) = (mayA a) from by (rw [Bool.eq_iff_iff]; simp only [mayA, mayP, i64R, addB, agg_iff, true_and, and_true, decide_eq_true_eq, Bool.false_eq_true, true_iff, false_iff]; omega)))), hst.bare⟩
 have c74 : ¬ (a.Min ≤ (min (min a.First a.Last) a.Max)) := of_decide_eq_false b72
 refine s_no 42 rfl (congrArg Value.bool b72) (s_no 42 rfl (congrArg Value.bool b72) (s_no 42 rfl (congrArg Value.bool b72) (s_no 42 rfl (congrArg Value.bool b72) (s_no 42 rfl (congrArg Value.bool b72) (s_no 42 rfl (congrArg Value.bool b72) (s_no 42 rfl (congrArg Value.bool b72) (s_no 42 rfl (congrArg Value.bool b72) (s_cons (op_pick_f (.bool false) (congrArg Value.bool b72) rfl (s_cons (op_assign (.bool false) rfl ?_)))))))))))
 refine s_nil (then_n (cE_ret (post_r _ (res1 (v := (.bool false)) rfl) ?_)))
 exact ⟨(retv1 (congrArg Value.bool (show false = (mayA a) from by (rw [Bool.eq_iff_iff]; simp only [mayA, mayP, i64R, addB, agg_iff, true_and, and_true, decide_eq_true_eq, Bool.false_eq_true, true_iff, false_iff]; omega)))), hst.bare⟩

set_option maxRecDepth 8000 in
theorem c_Join (w0 : World) (a : Agg) (b : Agg) (ha : a.ok) (hb : b.ok) :
  Calls Tryd.prog 50 #[(.agg (aggA a)), (.agg (aggA b))] w0 fun e w' => e = .returned (.tuple #[(.agg (aggA ((joinA a b).1))), (iV ((joinA a b).2))]) ∧ St w0 w' [] := by
 refine calls_G (n := 59) (rs := [.cell 4 45, .tmp 5]) Tryd.func50 rfl rfl rfl (by simp) ?_
 have hst := St.start w0
 refine cE_seq (cE_region rfl (s_cons (op_box (v := (.agg (aggA a))) (cs := (aggA a)) hst rfl rfl (fun g75 w76 hst _ => ?_))))
 replace hst : St w0 w76 [.blk g75 45 (aggA a)] := hst
 refine s_cons (op_box (v := (.agg (aggA b))) (cs := (aggA b)) hst rfl rfl (fun g77 w78 hst _ => ?_))
 replace hst : St w0 w78 [.blk g77 45 (aggA b), .blk g75 45 (aggA a)] := hst
 refine s_cons (op_alloc (cs := #[(iV 0), (iV 0), (iV 0), (iV 0), (iV 0), (iV 0), (iV 0)]) hst Tryd.zeroValue45 rfl (fun g79 w80 hst _ => ?_))
 replace hst : St w0 w80 [.blk g79 45 #[(iV 0), (iV 0), (iV 0), (iV 0), (iV 0), (iV 0), (iV 0)], .blk g77 45 (aggA b), .blk g75 45 (aggA a)] := hst
 refine s_cons (op_assign (iV 0) rfl (s_nil (then_n (cE_seq (cE_seq (cE_region rfl (s_cons (op_loadN (cs := (aggC a)) Tryd.isAgg45 Tryd.sizeOf45 rfl (Pt.of (hst.cell 2 rfl) rfl) rfl (s_cons (op_call Tryd.call45 (evs_cons (v := (.agg (aggA a))) rfl evs_nil) (c_May (w0 := w80) (a := a)) ?_))))))))))
 rintro _ w81 ⟨rfl, hcall⟩
 refine ⟨_, rfl, ?_⟩
 have hst : St w0 w81 [.blk g79 45 #[(iV 0), (iV 0), (iV 0), (iV 0), (iV 0), (iV 0), (iV 0)], .blk g77 45 (aggA b), .blk g75 45 (aggA a)] := hst.call hcall
 refine s_cons (op_not (b := mayA a) rfl (s_cons (op_move (.bool (!(mayA a))) rfl ?_)))
 rcases Bool.eq_false_or_eq_true (mayA a) with b82 | b82
 ·have hma := mayA_true b82
  refine s_yes 11 rfl (congrArg Value.bool (congrArg (! ·) b82)) (op_loadN (cs := (aggC b)) Tryd.isAgg45 Tryd.sizeOf45 rfl (Pt.of (hst.cell 1 rfl) rfl) rfl (s_yes 11 rfl (congrArg Value.bool (congrArg (! ·) b82)) (op_call Tryd.call45 (evs_cons (v := (.agg (aggA b))) rfl evs_nil) (c_May (w0 := w81) (a := b)) ?_)))
  rintro _ w83 ⟨rfl, hcall⟩
  refine ⟨_, rfl, ?_⟩
  have hst : St w0 w83 [.blk g79 45 #[(iV 0), (iV 0), (iV 0), (iV 0), (iV 0), (iV 0), (iV 0)], .blk g77 45 (aggA b), .blk g75 45 (aggA a)] := hst.call hcall
  refine s_yes 11 rfl (congrArg Value.bool (congrArg (! ·) b82)) (op_not (b := mayA b) rfl (s_cons (op_pick_f (.bool (!(mayA b))) (congrArg Value.bool (congrArg (! ·) b82)) rfl (s_cons (op_move (.bool (!(mayA b))) rfl ?_)))))
  rcases Bool.eq_false_or_eq_true (mayA b) with b84 | b84
  ·have hmb := mayA_true b84
   refine s_yes 16 rfl (congrArg Value.bool (congrArg (! ·) b84)) (op_fieldAddr (s := 0) Tryd.underlying45 rfl rfl Tryd.sizeOf2 rfl (s_yes 16 rfl (congrArg Value.bool (congrArg (! ·) b84)) (op_load1 (u := (iV a.Count)) Tryd.isAgg2 rfl ((hst.cell 2 rfl).drop 1) (s_yes 16 rfl (congrArg Value.bool (congrArg (! ·) b84)) (op_fieldAddr (s := 0) Tryd.underlying45 rfl rfl Tryd.sizeOf2 rfl (s_yes 16 rfl (congrArg Value.bool (congrArg (! ·) b84)) (op_load1 (u := (iV b.Count)) Tryd.isAgg2 rfl ((hst.cell 1 rfl).drop 1) ?_)))))))
   refine s_yes 16 rfl (congrArg Value.bool (congrArg (! ·) b84)) (op_add (k := .i64) (a := a.Count) (b := b.Count) (a.Count + b.Count) rfl rfl (xi64 (by omega) (by omega)) (s_yes 16 rfl (congrArg Value.bool (congrArg (! ·) b84)) (op_gtr (k := .i64) (a := (a.Count + b.Count)) (b := 1099511627776) rfl rfl (s_cons (op_pick_f (.bool (decide (1099511627776 < (a.Count + b.Count)))) (congrArg Value.bool (congrArg (! ·) b84)) rfl ?_)))))
   refine s_nil (then_n ?_)
   rcases Bool.eq_false_or_eq_true (decide (1099511627776 < (a.Count + b.Count))) with b85 | b85
   ·have c86 : 1099511627776 < (a.Count + b.Count) := of_decide_eq_true b85
    refine cE_cond true (congrArg Value.bool b85) (fun _ => ?_) (fun h => by cases h)
    refine cE_seq (cE_region rfl (s_cons (op_build (r := (.agg #[(iV 0), (iV 0), (iV 0), (iV 0), (iV 0), (iV 0), (iV 0)])) evp_nil (by simp [Instr.build, Instr.fill, Value.cells, Tryd.runUnderlying45, Tryd.zeroValue45]) (s_cons0 (op_storeAll hst 0 rfl Tryd.sizeOf45 rfl rfl rfl rfl (by simp [Value.oneCell']) (fun w87 hst => ?_))))))
    replace hst : St w0 w87 [.blk g79 45 #[(iV 0), (iV 0), (iV 0), (iV 0), (iV 0), (iV 0), (iV 0)], .blk g77 45 (aggA b), .blk g75 45 (aggA a)] := hst
    refine s_cons (op_assign (iV 1) rfl (s_nil (then_n (cE_ret (then_r (postG_r _ (rvN (cs := [(iV 0), (iV 0), (iV 0), (iV 0), (iV 0), (iV 0), (iV 0)]) Tryd.isAgg45 Tryd.sizeOf45 rfl (Pt.of (hst.cell 0 rfl) rfl) rfl (rvt (v := (iV 1)) rfl rvnil)) ?_))))))
    exact ⟨(retv2 (congrArg aggV (show (⟨0, 0, 0, 0, 0, 0, 0⟩ : Agg) = (joinA a b).1 from by (unfold joinA; (repeat' split) <;> first | rfl | (exfalso; simp_all; try omega)))) (congrArg iV (show 1 = (joinA a b).2 from by (unfold joinA; (repeat' split) <;> first | rfl | (exfalso; simp_all; try omega))))), hst.bare⟩
   have c88 : ¬ (1099511627776 < (a.Count + b.Count)) := of_decide_eq_false b85
   refine cE_cond false (congrArg Value.bool b85) (fun h => by cases h) (fun _ => ?_)
   refine cE_skip (then_n (cE_seq (cE_region rfl (s_cons (op_fieldAddr (s := 0) Tryd.underlying45 rfl rfl Tryd.sizeOf2 rfl (s_cons (op_load1 (u := (iV a.Sum)) Tryd.isAgg2 rfl ((hst.cell 2 rfl).drop 2) (s_cons (op_fieldAddr (s := 0) Tryd.underlying45 rfl rfl Tryd.sizeOf2 rfl (s_cons (op_load1 (u := (iV b.Sum)) Tryd.isAgg2 rfl ((hst.cell 1 rfl).drop 2) (s_cons (op_call Tryd.call53 (evs_cons (v := (iV a.Sum)) rfl (evs_cons (v := (iV b.Sum)) rfl evs_nil)) (c_Add (w0 := w83) (a := a.Sum) (b := b.Sum) (a0 := (by omega)) (b0 := (by omega)) (a1 := (by omega)) (b1 := (by omega))) ?_)))))))))))))
   rintro _ w89 ⟨rfl, hcall⟩
   refine ⟨_, rfl, ?_⟩
   have hst : St w0 w89 [.blk g79 45 #[(iV 0), (iV 0), (iV 0), (iV 0), (iV 0), (iV 0), (iV 0)], .blk g77 45 (aggA b), .blk g75 45 (aggA a)] := hst.call hcall
   refine s_cons (op_move (.tuple #[(iV (addV a.Sum b.Sum)), (.bool (addB a.Sum b.Sum))]) rfl (s_cons (op_extract (iV (addV a.Sum b.Sum)) rfl rfl (s_cons (op_extract (.bool (addB a.Sum b.Sum)) rfl rfl (s_cons (op_assign (iV (addV a.Sum b.Sum)) rfl (s_cons (op_assign (.bool (addB a.Sum b.Sum)) rfl (s_nil (then_n (cE_seq (cE_seq (cE_region rfl (s_cons (op_move (.bool (addB a.Sum b.Sum)) rfl ?_))))))))))))))))
   refine s_cons (op_not (b := addB a.Sum b.Sum) rfl (s_nil (then_n ?_)))
   rcases Bool.eq_false_or_eq_true (addB a.Sum b.Sum) with b90 | b90
   ·refine cE_cond false (congrArg Value.bool (congrArg (! ·) b90)) (fun h => by cases h) (fun _ => ?_)
    refine cE_skip (then_n (cE_seq (cE_region rfl (s_cons (op_fieldAddr (s := 0) Tryd.underlying45 rfl rfl Tryd.sizeOf2 rfl (s_cons (op_load1 (u := (iV a.From)) Tryd.isAgg2 rfl (hst.cell 2 rfl) (s_cons (op_fieldAddr (s := 0) Tryd.underlying45 rfl rfl Tryd.sizeOf2 rfl (s_cons (op_load1 (u := (iV a.Count)) Tryd.isAgg2 rfl ((hst.cell 2 rfl).drop 1) (s_cons (op_fieldAddr (s := 0) Tryd.underlying45 rfl rfl Tryd.sizeOf2 rfl ?_)))))))))))))
    refine s_cons (op_load1 (u := (iV b.Count)) Tryd.isAgg2 rfl ((hst.cell 1 rfl).drop 1) (s_cons (op_add (k := .i64) (a := a.Count) (b := b.Count) (a.Count + b.Count) rfl rfl (xi64 (by omega) (by omega)) (s_cons (op_move (iV (addV a.Sum b.Sum)) rfl (s_cons (op_fieldAddr (s := 0) Tryd.underlying45 rfl rfl Tryd.sizeOf2 rfl (s_cons (op_load1 (u := (iV a.Min)) Tryd.isAgg2 rfl ((hst.cell 2 rfl).drop 3) ?_)))))))))
    refine s_cons (op_fieldAddr (s := 0) Tryd.underlying45 rfl rfl Tryd.sizeOf2 rfl (s_cons (op_load1 (u := (iV b.Min)) Tryd.isAgg2 rfl ((hst.cell 1 rfl).drop 3) (s_cons (op_min2 (k := .i64) (a := a.Min) (b := b.Min) rfl rfl (s_cons (op_fieldAddr (s := 0) Tryd.underlying45 rfl rfl Tryd.sizeOf2 rfl (s_cons (op_load1 (u := (iV a.Max)) Tryd.isAgg2 rfl ((hst.cell 2 rfl).drop 4) (s_cons (op_fieldAddr (s := 0) Tryd.underlying45 rfl rfl Tryd.sizeOf2 rfl ?_)))))))))))
    refine s_cons (op_load1 (u := (iV b.Max)) Tryd.isAgg2 rfl ((hst.cell 1 rfl).drop 4) (s_cons (op_max2 (k := .i64) (a := a.Max) (b := b.Max) rfl rfl (s_cons (op_fieldAddr (s := 0) Tryd.underlying45 rfl rfl Tryd.sizeOf2 rfl (s_cons (op_load1 (u := (iV a.First)) Tryd.isAgg2 rfl ((hst.cell 2 rfl).drop 5) (s_cons (op_fieldAddr (s := 0) Tryd.underlying45 rfl rfl Tryd.sizeOf2 rfl (s_cons (op_load1 (u := (iV b.Last)) Tryd.isAgg2 rfl ((hst.cell 1 rfl).drop 6) ?_)))))))))))
    refine s_cons (op_build (r := (.agg #[(iV a.From), (iV (a.Count + b.Count)), (iV (addV a.Sum b.Sum)), (iV (min a.Min b.Min)), (iV (max a.Max b.Max)), (iV a.First), (iV b.Last)])) (evp_cons (v := (iV a.From)) rfl (evp_cons (v := (iV (a.Count + b.Count))) rfl (evp_cons (v := (iV (addV a.Sum b.Sum))) rfl (evp_cons (v := (iV (min a.Min b.Min))) rfl (evp_cons (v := (iV (max a.Max b.Max))) rfl (evp_cons (v := (iV a.First)) rfl (evp_cons (v := (iV b.Last)) rfl evp_nil))))))) (by simp [Instr.build, Instr.fill, Value.cells, Tryd.runUnderlying45, Tryd.zeroValue45]) ?_)
    refine s_cons0 (op_storeAll hst 0 rfl Tryd.sizeOf45 rfl rfl rfl rfl (by simp [Value.oneCell']) (fun w91 hst => ?_))
    replace hst : St w0 w91 [.blk g79 45 #[(iV a.From), (iV (a.Count + b.Count)), (iV (addV a.Sum b.Sum)), (iV (min a.Min b.Min)), (iV (max a.Max b.Max)), (iV a.First), (iV b.Last)], .blk g77 45 (aggA b), .blk g75 45 (aggA a)] := hst
    refine s_cons (op_assign (iV 0) rfl (s_nil (then_n (cE_ret (postG_r _ (rvN (cs := [(iV a.From), (iV (a.Count + b.Count)), (iV (addV a.Sum b.Sum)), (iV (min a.Min b.Min)), (iV (max a.Max b.Max)), (iV a.First), (iV b.Last)]) Tryd.isAgg45 Tryd.sizeOf45 rfl (Pt.of (hst.cell 0 rfl) rfl) rfl (rvt (v := (iV 0)) rfl rvnil)) ?_)))))
    exact ⟨(retv2 (congrArg aggV (show (⟨a.From, (a.Count + b.Count), (addV a.Sum b.Sum), (min a.Min b.Min), (max a.Max b.Max), a.First, b.Last⟩ : Agg) = (joinA a b).1 from by (unfold joinA; (repeat' split) <;> first | rfl | (exfalso; simp_all; try omega)))) (congrArg iV (show 0 = (joinA a b).2 from by (unfold joinA; (repeat' split) <;> first | rfl | (exfalso; simp_all; try omega))))), hst.bare⟩
   refine cE_cond true (congrArg Value.bool (congrArg (! ·) b90)) (fun _ => ?_) (fun h => by cases h)
   refine cE_seq (cE_region rfl (s_cons (op_build (r := (.agg #[(iV 0), (iV 0), (iV 0), (iV 0), (iV 0), (iV 0), (iV 0)])) evp_nil (by simp [Instr.build, Instr.fill, Value.cells, Tryd.runUnderlying45, Tryd.zeroValue45]) (s_cons0 (op_storeAll hst 0 rfl Tryd.sizeOf45 rfl rfl rfl rfl (by simp [Value.oneCell']) (fun w92 hst => ?_))))))
   replace hst : St w0 w92 [.blk g79 45 #[(iV 0), (iV 0), (iV 0), (iV 0), (iV 0), (iV 0), (iV 0)], .blk g77 45 (aggA b), .blk g75 45 (aggA a)] := hst
   refine s_cons (op_assign (iV 3) rfl (s_nil (then_n (cE_ret (then_r (postG_r _ (rvN (cs := [(iV 0), (iV 0), (iV 0), (iV 0), (iV 0), (iV 0), (iV 0)]) Tryd.isAgg45 Tryd.sizeOf45 rfl (Pt.of (hst.cell 0 rfl) rfl) rfl (rvt (v := (iV 3)) rfl rvnil)) ?_))))))
   exact ⟨(retv2 (congrArg aggV (show (⟨0, 0, 0, 0, 0, 0, 0⟩ : Agg) = (joinA a b).1 from by (unfold joinA; (repeat' split) <;> first | rfl | (exfalso; simp_all; try omega)))) (congrArg iV (show 3 = (joinA a b).2 from by (unfold joinA; (repeat' split) <;> first | rfl | (exfalso; simp_all; try omega))))), hst.bare⟩
  refine s_no 16 rfl (congrArg Value.bool (congrArg (! ·) b84)) (s_no 16 rfl (congrArg Value.bool (congrArg (! ·) b84)) (s_no 16 rfl (congrArg Value.bool (congrArg (! ·) b84)) (s_no 16 rfl (congrArg Value.bool (congrArg (! ·) b84)) (s_no 16 rfl (congrArg Value.bool (congrArg (! ·) b84)) (s_no 16 rfl (congrArg Value.bool (congrArg (! ·) b84)) (s_cons (op_pick_t (.bool true) (congrArg Value.bool (congrArg (! ·) b84)) rfl ?_)))))))
  refine s_nil (then_n (cE_cond true rfl (fun _ => ?_) (fun h => by cases h)))
  refine cE_seq (cE_region rfl (s_cons (op_build (r := (.agg #[(iV 0), (iV 0), (iV 0), (iV 0), (iV 0), (iV 0), (iV 0)])) evp_nil (by simp [Instr.build, Instr.fill, Value.cells, Tryd.runUnderlying45, Tryd.zeroValue45]) (s_cons0 (op_storeAll hst 0 rfl Tryd.sizeOf45 rfl rfl rfl rfl (by simp [Value.oneCell']) (fun w93 hst => ?_))))))
  replace hst : St w0 w93 [.blk g79 45 #[(iV 0), (iV 0), (iV 0), (iV 0), (iV 0), (iV 0), (iV 0)], .blk g77 45 (aggA b), .blk g75 45 (aggA a)] := hst
  refine s_cons (op_assign (iV 1) rfl (s_nil (then_n (cE_ret (then_r (postG_r _ (rvN (cs := [(iV 0), (iV 0), (iV 0), (iV 0), (iV 0), (iV 0), (iV 0)]) Tryd.isAgg45 Tryd.sizeOf45 rfl (Pt.of (hst.cell 0 rfl) rfl) rfl (rvt (v := (iV 1)) rfl rvnil)) ?_))))))
  exact ⟨(retv2 (congrArg aggV (show (⟨0, 0, 0, 0, 0, 0, 0⟩ : Agg) = (joinA a b).1 from by (unfold joinA; (repeat' split) <;> first | rfl | (exfalso; simp_all; try omega)))) (congrArg iV (show 1 = (joinA a b).2 from by (unfold joinA; (repeat' split) <;> first | rfl | (exfalso; simp_all; try omega))))), hst.bare⟩
 refine s_no 11 rfl (congrArg Value.bool (congrArg (! ·) b82)) (s_no 11 rfl (congrArg Value.bool (congrArg (! ·) b82)) (s_no 11 rfl (congrArg Value.bool (congrArg (! ·) b82)) (s_cons (op_pick_t (.bool true) (congrArg Value.bool (congrArg (! ·) b82)) rfl (s_cons (op_move (.bool true) rfl (s_no 16 rfl rfl (s_no 16 rfl rfl (s_no 16 rfl rfl (s_no 16 rfl rfl (s_no 16 rfl rfl (s_no 16 rfl rfl ?_))))))))))))
 refine s_cons (op_pick_t (.bool true) rfl rfl (s_nil (then_n (cE_cond true rfl (fun _ => ?_) (fun h => by cases h)))))
 refine cE_seq (cE_region rfl (s_cons (op_build (r := (.agg #[(iV 0), (iV 0), (iV 0), (iV 0), (iV 0), (iV 0), (iV 0)])) evp_nil (by simp [Instr.build, Instr.fill, Value.cells, Tryd.runUnderlying45, Tryd.zeroValue45]) (s_cons0 (op_storeAll hst 0 rfl Tryd.sizeOf45 rfl rfl rfl rfl (by simp [Value.oneCell']) (fun w94 hst => ?_))))))
 replace hst : St w0 w94 [.blk g79 45 #[(iV 0), (iV 0), (iV 0), (iV 0), (iV 0), (iV 0), (iV 0)], .blk g77 45 (aggA b), .blk g75 45 (aggA a)] := hst
 refine s_cons (op_assign (iV 1) rfl (s_nil (then_n (cE_ret (then_r (postG_r _ (rvN (cs := [(iV 0), (iV 0), (iV 0), (iV 0), (iV 0), (iV 0), (iV 0)]) Tryd.isAgg45 Tryd.sizeOf45 rfl (Pt.of (hst.cell 0 rfl) rfl) rfl (rvt (v := (iV 1)) rfl rvnil)) ?_))))))
 exact ⟨(retv2 (congrArg aggV (show (⟨0, 0, 0, 0, 0, 0, 0⟩ : Agg) = (joinA a b).1 from by (unfold joinA; (repeat' split) <;> first | rfl | (exfalso; simp_all; try omega)))) (congrArg iV (show 1 = (joinA a b).2 from by (unfold joinA; (repeat' split) <;> first | rfl | (exfalso; simp_all; try omega))))), hst.bare⟩

set_option maxRecDepth 8000 in
theorem c_All (w0 : World) (v_l : Value) (l : List Sample) (h_l : Sl w0 sampE v_l l) (fr : Int) (hl : ∀ s ∈ l, s.ok) (fr0 : -9223372036854775808 ≤ fr) (fr1 : fr ≤ 9223372036854775807) (hn : l.length ≤ 1000000) :
  Calls Tryd.prog 49 #[v_l, (iV fr)] w0 fun e w' => e = .returned (.tuple #[(.agg (aggA ((allA l fr).1))), (iV ((allA l fr).2))]) ∧ St w0 w' [] := by
 refine calls_G (n := 42) (rs := [.cell 4 45, .tmp 5]) Tryd.func49 rfl rfl rfl (by simp) ?_
 have hst := St.start w0
 refine cE_seq (cE_region rfl (s_cons (op_alloc (cs := #[(iV 0), (iV 0), (iV 0), (iV 0), (iV 0), (iV 0), (iV 0)]) hst Tryd.zeroValue45 rfl (fun g95 w96 hst _ => ?_))))
 replace hst : St w0 w96 [.blk g95 45 #[(iV 0), (iV 0), (iV 0), (iV 0), (iV 0), (iV 0), (iV 0)]] := hst
 refine s_cons (op_assign (iV 0) rfl (s_nil (then_n (cE_scope (cE_seq (cE_region rfl (s_cons (op_alloc (cs := #[(iV 0), (iV 0), (iV 0), (iV 0), (iV 0), (iV 0), (iV 0)]) hst Tryd.zeroValue45 rfl (fun g97 w98 hst _ => ?_)))))))))
 replace hst : St w0 w98 [.blk g97 45 #[(iV 0), (iV 0), (iV 0), (iV 0), (iV 0), (iV 0), (iV 0)], .blk g95 45 #[(iV 0), (iV 0), (iV 0), (iV 0), (iV 0), (iV 0), (iV 0)]] := hst
 refine s_nil (then_n (cE_seq (cE_label (then_n (cE_seq (cE_seq (cE_region rfl (s_cons (op_move v_l rfl (s_cons (op_len (E := sampE) (xs := l) Tryd.underlying23 rfl h_l (s_cons (op_move (iV 0) rfl (s_nil (then_n (cE_block (cE_loop (fun (m : Nat) (ρ : Env) (w : World) => ∃ (acc : Agg) (i : Nat), m = l.length - i ∧ ρ 0 = v_l ∧ ρ 1 = (iV fr) ∧ ρ 4 = (.pointer (some ⟨g95, 0, none⟩)) ∧ ρ 6 = (.pointer (some ⟨g97, 0, none⟩)) ∧ ρ 12 = v_l ∧ ρ 13 = (iV (l.length : Int)) ∧ ρ 14 = (iV (i : Int)) ∧ St w0 w [.blk g97 45 (aggA acc), .blk g95 45 #[(iV 0), (iV 0), (iV 0), (iV 0), (iV 0), (iV 0), (iV 0)]] ∧ (i ≤ l.length) ∧ acc.ok ∧ (AccI l fr acc i)) id _ ⟨zeroA, 0, rfl, rfl, rfl, rfl, rfl, rfl, rfl, (congrArg iV (show 0 = _ from by omega)), (hst.sub (.cons_cons _ (.cons_cons _ .slnil))), (by omega), (by first | exact zeroA_ok | exact hro | exact joinA_ok hok hro), (by first | exact Or.inl ⟨rfl, rfl⟩ | exact Or.inr ⟨by omega, all_first (by assumption) (by omega)⟩ | exact Or.inr ⟨by omega, all_next hI (by assumption) (by omega) (by assumption)⟩)⟩ ?_)))))))))))))))))
 rintro m100 ρ101 w102 ⟨acc, i, hm100, q99_0, q99_1, q99_4, q99_6, q99_12, q99_13, q99_14, hst, hi, hok, hI⟩
 refine cE_seq (cE_region rfl (s_cons (op_lss (k := .i64) (a := (i : Int)) (b := (l.length : Int)) q99_14 q99_13 (s_nil (then_n (cE_seq ?_))))))
 rcases Bool.eq_false_or_eq_true (decide ((i : Int) < (l.length : Int))) with b103 | b103
 ·have c104 : (i : Int) < (l.length : Int) := of_decide_eq_true b103
  refine cE_cond true (congrArg Value.bool b103) (fun _ => ?_) (fun h => by cases h)
  refine cE_skip (then_n (cE_seq (cE_block (cE_seq (cE_region rfl (s_cons (op_move (iV (i : Int)) q99_14 (s_cons (op_indexAddrN (E := sampE) (xs := l) i Tryd.underlying23 Tryd.sizeOf28 q99_12 h_l q99_14 (by omega) (by omega) (fun a105 o106 p107 => ?_))))))))))
  have hr := hl (l[i]'(by omega)) (List.getElem_mem _)
  have hro := oneA_ok hr.2 ⟨fr0, fr1⟩
  refine s_cons (op_loadN (cs := [(iV ((l[i]'(by omega)).T)), (iV ((l[i]'(by omega)).V))]) Tryd.isAgg28 Tryd.sizeOf28 rfl (Pt.of (p107.below hst.below) rfl) rfl (s_cons (op_alloc (cs := #[(iV 0), (iV 0)]) hst Tryd.zeroValue28 rfl (fun g108 w109 hst _ => ?_))))
  replace hst : St w0 w109 [.blk g108 28 #[(iV 0), (iV 0)], .blk g97 45 (aggA acc), .blk g95 45 #[(iV 0), (iV 0), (iV 0), (iV 0), (iV 0), (iV 0), (iV 0)]] := hst
  refine s_cons (op_assign (iV (i : Int)) rfl (s_cons0 (op_storeAll hst 0 rfl Tryd.sizeOf28 rfl rfl rfl rfl (by simp [Value.oneCell']) (fun w110 hst => ?_))))
  replace hst : St w0 w110 [.blk g108 28 #[(iV ((l[i]'(by omega)).T)), (iV ((l[i]'(by omega)).V))], .blk g97 45 (aggA acc), .blk g95 45 #[(iV 0), (iV 0), (iV 0), (iV 0), (iV 0), (iV 0), (iV 0)]] := hst
  refine s_nil (then_n (cE_seq (cE_region rfl (s_cons (op_loadN (cs := [(iV ((l[i]'(by omega)).T)), (iV ((l[i]'(by omega)).V))]) Tryd.isAgg28 Tryd.sizeOf28 rfl (Pt.of (hst.cell 0 rfl) rfl) rfl (s_cons (op_move (iV fr) q99_1 (s_cons (op_call Tryd.call52 (evs_cons (v := (.agg #[(iV ((l[i]'(by omega)).T)), (iV ((l[i]'(by omega)).V))])) rfl (evs_cons (v := (iV fr)) rfl evs_nil)) (c_One (w0 := w110) (s := (l[i]'(by omega))) (fr := fr)) ?_)))))))))
  rintro _ w111 ⟨rfl, hcall⟩
  refine ⟨_, rfl, ?_⟩
  have hst : St w0 w111 [.blk g108 28 #[(iV ((l[i]'(by omega)).T)), (iV ((l[i]'(by omega)).V))], .blk g97 45 (aggA acc), .blk g95 45 #[(iV 0), (iV 0), (iV 0), (iV 0), (iV 0), (iV 0), (iV 0)]] := hst.call hcall
  refine s_cons (op_alloc (cs := #[(iV 0), (iV 0), (iV 0), (iV 0), (iV 0), (iV 0), (iV 0)]) hst Tryd.zeroValue45 rfl (fun g112 w113 hst _ => ?_))
  replace hst : St w0 w113 [.blk g112 45 #[(iV 0), (iV 0), (iV 0), (iV 0), (iV 0), (iV 0), (iV 0)], .blk g108 28 #[(iV ((l[i]'(by omega)).T)), (iV ((l[i]'(by omega)).V))], .blk g97 45 (aggA acc), .blk g95 45 #[(iV 0), (iV 0), (iV 0), (iV 0), (iV 0), (iV 0), (iV 0)]] := hst
  refine s_cons0 (op_storeAll hst 0 rfl Tryd.sizeOf45 rfl rfl rfl rfl (by simp [Value.oneCell']) (fun w114 hst => ?_))
  replace hst : St w0 w114 [.blk g112 45 #[(iV fr), (iV 1), (iV ((l[i]'(by omega)).V)), (iV ((l[i]'(by omega)).V)), (iV ((l[i]'(by omega)).V)), (iV ((l[i]'(by omega)).V)), (iV ((l[i]'(by omega)).V))], .blk g108 28 #[(iV ((l[i]'(by omega)).T)), (iV ((l[i]'(by omega)).V))], .blk g97 45 (aggA acc), .blk g95 45 #[(iV 0), (iV 0), (iV 0), (iV 0), (iV 0), (iV 0), (iV 0)]] := hst
  refine s_nil (then_n (cE_seq (cE_seq (cE_region rfl (s_cons (op_move (iV (i : Int)) rfl (s_cons (op_eql (k := .i64) (a := (i : Int)) (b := 0) rfl rfl (s_nil (then_n ?_))))))))))
  rcases Bool.eq_false_or_eq_true (decide ((i : Int) = 0)) with b115 | b115
  ·have c116 : (i : Int) = 0 := of_decide_eq_true b115
   refine cE_cond true (congrArg Value.bool b115) (fun _ => ?_) (fun h => by cases h)
   refine cE_seq (cE_region rfl (s_cons (op_loadN (cs := [(iV fr), (iV 1), (iV ((l[i]'(by omega)).V)), (iV ((l[i]'(by omega)).V)), (iV ((l[i]'(by omega)).V)), (iV ((l[i]'(by omega)).V)), (iV ((l[i]'(by omega)).V))]) Tryd.isAgg45 Tryd.sizeOf45 rfl (Pt.of (hst.cell 0 rfl) rfl) rfl (s_cons0 (op_storeAll hst 2 rfl Tryd.sizeOf45 q99_6 rfl rfl rfl (by simp [Value.oneCell']) (fun w117 hst => ?_))))))
   replace hst : St w0 w117 [.blk g112 45 #[(iV fr), (iV 1), (iV ((l[i]'(by omega)).V)), (iV ((l[i]'(by omega)).V)), (iV ((l[i]'(by omega)).V)), (iV ((l[i]'(by omega)).V)), (iV ((l[i]'(by omega)).V))], .blk g108 28 #[(iV ((l[i]'(by omega)).T)), (iV ((l[i]'(by omega)).V))], .blk g97 45 #[(iV fr), (iV 1), (iV ((l[i]'(by omega)).V)), (iV ((l[i]'(by omega)).V)), (iV ((l[i]'(by omega)).V)), (iV ((l[i]'(by omega)).V)), (iV ((l[i]'(by omega)).V))], .blk g95 45 #[(iV 0), (iV 0), (iV 0), (iV 0), (iV 0), (iV 0), (iV 0)]] := hst
   refine s_nil (then_n (cE_exit (then_x (block_hit (then_n (cE_region rfl (s_cons (op_add (k := .i64) (a := (i : Int)) (b := 1) ((i : Int) + 1) q99_14 rfl (xi64 (by omega) (by omega)) (s_cons (op_move (iV ((i : Int) + 1)) rfl (s_nil (then_n ?_))))))))))))
   exact ⟨_, ⟨(⟨fr, 1, (l[i]'(by omega)).V, (l[i]'(by omega)).V, (l[i]'(by omega)).V, (l[i]'(by omega)).V, (l[i]'(by omega)).V⟩ : Agg), (i + 1), rfl, q99_0, q99_1, q99_4, q99_6, q99_12, q99_13, (congrArg iV (show ((i : Int) + 1) = _ from by omega)), (hst.sub (.cons _ (.cons _ (.cons_cons _ (.cons_cons _ .slnil))))), (by omega), (by first | exact zeroA_ok | exact hro | exact joinA_ok hok hro), (by first | exact Or.inl ⟨rfl, rfl⟩ | exact Or.inr ⟨by omega, all_first (by assumption) (by omega)⟩ | exact Or.inr ⟨by omega, all_next hI (by assumption) (by omega) (by assumption)⟩)⟩, (by simp only [id]; omega)⟩
  have c118 : ¬ ((i : Int) = 0) := of_decide_eq_false b115
  refine cE_cond false (congrArg Value.bool b115) (fun h => by cases h) (fun _ => ?_)
  refine cE_skip (then_n (cE_seq (cE_region rfl (s_cons (op_loadN (cs := (aggC acc)) Tryd.isAgg45 Tryd.sizeOf45 q99_6 (Pt.of (hst.cell 2 rfl) rfl) rfl (s_cons (op_loadN (cs := [(iV fr), (iV 1), (iV ((l[i]'(by omega)).V)), (iV ((l[i]'(by omega)).V)), (iV ((l[i]'(by omega)).V)), (iV ((l[i]'(by omega)).V)), (iV ((l[i]'(by omega)).V))]) Tryd.isAgg45 Tryd.sizeOf45 rfl (Pt.of (hst.cell 0 rfl) rfl) rfl ?_)))))))
  refine s_cons (op_call Tryd.call50 (evs_cons (v := (.agg (aggA acc))) rfl (evs_cons (v := (.agg #[(iV fr), (iV 1), (iV ((l[i]'(by omega)).V)), (iV ((l[i]'(by omega)).V)), (iV ((l[i]'(by omega)).V)), (iV ((l[i]'(by omega)).V)), (iV ((l[i]'(by omega)).V))])) rfl evs_nil)) (c_Join (w0 := w114) (a := acc) (b := (⟨fr, 1, (l[i]'(by omega)).V, (l[i]'(by omega)).V, (l[i]'(by omega)).V, (l[i]'(by omega)).V, (l[i]'(by omega)).V⟩ : Agg)) (ha := (by first | assumption)) (hb := (by first | exact hro | assumption))) ?_)
  rintro _ w119 ⟨rfl, hcall⟩
  refine ⟨_, rfl, ?_⟩
  have hst : St w0 w119 [.blk g112 45 #[(iV fr), (iV 1), (iV ((l[i]'(by omega)).V)), (iV ((l[i]'(by omega)).V)), (iV ((l[i]'(by omega)).V)), (iV ((l[i]'(by omega)).V)), (iV ((l[i]'(by omega)).V))], .blk g108 28 #[(iV ((l[i]'(by omega)).T)), (iV ((l[i]'(by omega)).V))], .blk g97 45 (aggA acc), .blk g95 45 #[(iV 0), (iV 0), (iV 0), (iV 0), (iV 0), (iV 0), (iV 0)]] := hst.call hcall
  refine s_cons (op_move (.tuple #[(.agg (aggA ((joinA acc (⟨fr, 1, (l[i]'(by omega)).V, (l[i]'(by omega)).V, (l[i]'(by omega)).V, (l[i]'(by omega)).V, (l[i]'(by omega)).V⟩ : Agg)).1))), (iV ((joinA acc (⟨fr, 1, (l[i]'(by omega)).V, (l[i]'(by omega)).V, (l[i]'(by omega)).V, (l[i]'(by omega)).V, (l[i]'(by omega)).V⟩ : Agg)).2))]) rfl (s_cons (op_extract (.agg (aggA ((joinA acc (⟨fr, 1, (l[i]'(by omega)).V, (l[i]'(by omega)).V, (l[i]'(by omega)).V, (l[i]'(by omega)).V, (l[i]'(by omega)).V⟩ : Agg)).1))) rfl rfl ?_)))
  refine s_cons (op_extract (iV ((joinA acc (⟨fr, 1, (l[i]'(by omega)).V, (l[i]'(by omega)).V, (l[i]'(by omega)).V, (l[i]'(by omega)).V, (l[i]'(by omega)).V⟩ : Agg)).2)) rfl rfl (s_cons (op_alloc (cs := #[(iV 0), (iV 0), (iV 0), (iV 0), (iV 0), (iV 0), (iV 0)]) hst Tryd.zeroValue45 rfl (fun g120 w121 hst _ => ?_))))
  replace hst : St w0 w121 [.blk g120 45 #[(iV 0), (iV 0), (iV 0), (iV 0), (iV 0), (iV 0), (iV 0)], .blk g112 45 #[(iV fr), (iV 1), (iV ((l[i]'(by omega)).V)), (iV ((l[i]'(by omega)).V)), (iV ((l[i]'(by omega)).V)), (iV ((l[i]'(by omega)).V)), (iV ((l[i]'(by omega)).V))], .blk g108 28 #[(iV ((l[i]'(by omega)).T)), (iV ((l[i]'(by omega)).V))], .blk g97 45 (aggA acc), .blk g95 45 #[(iV 0), (iV 0), (iV 0), (iV 0), (iV 0), (iV 0), (iV 0)]] := hst
  refine s_cons0 (op_storeAll hst 0 rfl Tryd.sizeOf45 rfl rfl rfl rfl (by simp [Value.oneCell']) (fun w122 hst => ?_))
  replace hst : St w0 w122 [.blk g120 45 (aggA ((joinA acc (⟨fr, 1, (l[i]'(by omega)).V, (l[i]'(by omega)).V, (l[i]'(by omega)).V, (l[i]'(by omega)).V, (l[i]'(by omega)).V⟩ : Agg)).1)), .blk g112 45 #[(iV fr), (iV 1), (iV ((l[i]'(by omega)).V)), (iV ((l[i]'(by omega)).V)), (iV ((l[i]'(by omega)).V)), (iV ((l[i]'(by omega)).V)), (iV ((l[i]'(by omega)).V))], .blk g108 28 #[(iV ((l[i]'(by omega)).T)), (iV ((l[i]'(by omega)).V))], .blk g97 45 (aggA acc), .blk g95 45 #[(iV 0), (iV 0), (iV 0), (iV 0), (iV 0), (iV 0), (iV 0)]] := hst
  refine s_cons (op_assign (iV ((joinA acc (⟨fr, 1, (l[i]'(by omega)).V, (l[i]'(by omega)).V, (l[i]'(by omega)).V, (l[i]'(by omega)).V, (l[i]'(by omega)).V⟩ : Agg)).2)) rfl (s_nil (then_n (cE_seq (cE_seq (cE_region rfl (s_cons (op_move (iV ((joinA acc (⟨fr, 1, (l[i]'(by omega)).V, (l[i]'(by omega)).V, (l[i]'(by omega)).V, (l[i]'(by omega)).V, (l[i]'(by omega)).V⟩ : Agg)).2)) rfl ?_))))))))
  refine s_cons (op_neq (k := .i64) (a := (joinA acc (⟨fr, 1, (l[i]'(by omega)).V, (l[i]'(by omega)).V, (l[i]'(by omega)).V, (l[i]'(by omega)).V, (l[i]'(by omega)).V⟩ : Agg)).2) (b := 0) rfl rfl (s_nil (then_n ?_)))
  rcases Bool.eq_false_or_eq_true (decide (((joinA acc (⟨fr, 1, (l[i]'(by omega)).V, (l[i]'(by omega)).V, (l[i]'(by omega)).V, (l[i]'(by omega)).V, (l[i]'(by omega)).V⟩ : Agg)).2) = 0)) with b123 | b123
  ·have c124 : ((joinA acc (⟨fr, 1, (l[i]'(by omega)).V, (l[i]'(by omega)).V, (l[i]'(by omega)).V, (l[i]'(by omega)).V, (l[i]'(by omega)).V⟩ : Agg)).2) = 0 := of_decide_eq_true b123
   refine cE_cond false (congrArg Value.bool (congrArg (! ·) b123)) (fun h => by cases h) (fun _ => ?_)
   refine cE_skip (then_n (cE_region rfl (s_cons (op_loadN (cs := (aggC ((joinA acc (⟨fr, 1, (l[i]'(by omega)).V, (l[i]'(by omega)).V, (l[i]'(by omega)).V, (l[i]'(by omega)).V, (l[i]'(by omega)).V⟩ : Agg)).1))) Tryd.isAgg45 Tryd.sizeOf45 rfl (Pt.of (hst.cell 0 rfl) rfl) rfl (s_cons0 (op_storeAll hst 3 rfl Tryd.sizeOf45 q99_6 rfl rfl rfl (by simp [Value.oneCell']) (fun w125 hst => ?_)))))))
   replace hst : St w0 w125 [.blk g120 45 (aggA ((joinA acc (⟨fr, 1, (l[i]'(by omega)).V, (l[i]'(by omega)).V, (l[i]'(by omega)).V, (l[i]'(by omega)).V, (l[i]'(by omega)).V⟩ : Agg)).1)), .blk g112 45 #[(iV fr), (iV 1), (iV ((l[i]'(by omega)).V)), (iV ((l[i]'(by omega)).V)), (iV ((l[i]'(by omega)).V)), (iV ((l[i]'(by omega)).V)), (iV ((l[i]'(by omega)).V))], .blk g108 28 #[(iV ((l[i]'(by omega)).T)), (iV ((l[i]'(by omega)).V))], .blk g97 45 (aggA ((joinA acc (⟨fr, 1, (l[i]'(by omega)).V, (l[i]'(by omega)).V, (l[i]'(by omega)).V, (l[i]'(by omega)).V, (l[i]'(by omega)).V⟩ : Agg)).1)), .blk g95 45 #[(iV 0), (iV 0), (iV 0), (iV 0), (iV 0), (iV 0), (iV 0)]] := hst
   refine s_nil (block_n (then_n (cE_region rfl (s_cons (op_add (k := .i64) (a := (i : Int)) (b := 1) ((i : Int) + 1) q99_14 rfl (xi64 (by omega) (by omega)) (s_cons (op_move (iV ((i : Int) + 1)) rfl (s_nil (then_n ?_)))))))))
   exact ⟨_, ⟨((joinA acc (⟨fr, 1, (l[i]'(by omega)).V, (l[i]'(by omega)).V, (l[i]'(by omega)).V, (l[i]'(by omega)).V, (l[i]'(by omega)).V⟩ : Agg)).1), (i + 1), rfl, q99_0, q99_1, q99_4, q99_6, q99_12, q99_13, (congrArg iV (show ((i : Int) + 1) = _ from by omega)), (hst.sub (.cons _ (.cons _ (.cons _ (.cons_cons _ (.cons_cons _ .slnil)))))), (by omega), (by first | exact zeroA_ok | exact hro | exact joinA_ok hok hro), (by first | exact Or.inl ⟨rfl, rfl⟩ | exact Or.inr ⟨by omega, all_first (by assumption) (by omega)⟩ | exact Or.inr ⟨by omega, all_next hI (by assumption) (by omega) (by assumption)⟩)⟩, (by simp only [id]; omega)⟩
  have c126 : ¬ (((joinA acc (⟨fr, 1, (l[i]'(by omega)).V, (l[i]'(by omega)).V, (l[i]'(by omega)).V, (l[i]'(by omega)).V, (l[i]'(by omega)).V⟩ : Agg)).2) = 0) := of_decide_eq_false b123
  refine cE_cond true (congrArg Value.bool (congrArg (! ·) b123)) (fun _ => ?_) (fun h => by cases h)
  refine cE_seq (cE_region rfl (s_cons (op_build (r := (.agg #[(iV 0), (iV 0), (iV 0), (iV 0), (iV 0), (iV 0), (iV 0)])) evp_nil (by simp [Instr.build, Instr.fill, Value.cells, Tryd.runUnderlying45, Tryd.zeroValue45]) (s_cons (op_move (iV ((joinA acc (⟨fr, 1, (l[i]'(by omega)).V, (l[i]'(by omega)).V, (l[i]'(by omega)).V, (l[i]'(by omega)).V, (l[i]'(by omega)).V⟩ : Agg)).2)) rfl (s_cons0 (op_storeAll hst 4 rfl Tryd.sizeOf45 q99_4 rfl rfl rfl (by simp [Value.oneCell']) (fun w127 hst => ?_))))))))
  replace hst : St w0 w127 [.blk g120 45 (aggA ((joinA acc (⟨fr, 1, (l[i]'(by omega)).V, (l[i]'(by omega)).V, (l[i]'(by omega)).V, (l[i]'(by omega)).V, (l[i]'(by omega)).V⟩ : Agg)).1)), .blk g112 45 #[(iV fr), (iV 1), (iV ((l[i]'(by omega)).V)), (iV ((l[i]'(by omega)).V)), (iV ((l[i]'(by omega)).V)), (iV ((l[i]'(by omega)).V)), (iV ((l[i]'(by omega)).V))], .blk g108 28 #[(iV ((l[i]'(by omega)).T)), (iV ((l[i]'(by omega)).V))], .blk g97 45 (aggA acc), .blk g95 45 #[(iV 0), (iV 0), (iV 0), (iV 0), (iV 0), (iV 0), (iV 0)]] := hst
  refine s_cons (op_assign (iV ((joinA acc (⟨fr, 1, (l[i]'(by omega)).V, (l[i]'(by omega)).V, (l[i]'(by omega)).V, (l[i]'(by omega)).V, (l[i]'(by omega)).V⟩ : Agg)).2)) rfl (s_nil (then_n (cE_ret (then_r (block_r (then_r (then_r (block_r (then_r (scope_r (postG_r _ (rvN (cs := [(iV 0), (iV 0), (iV 0), (iV 0), (iV 0), (iV 0), (iV 0)]) Tryd.isAgg45 Tryd.sizeOf45 q99_4 (Pt.of (hst.cell 4 rfl) rfl) rfl (rvt (v := (iV ((joinA acc (⟨fr, 1, (l[i]'(by omega)).V, (l[i]'(by omega)).V, (l[i]'(by omega)).V, (l[i]'(by omega)).V, (l[i]'(by omega)).V⟩ : Agg)).2))) rfl rvnil)) ?_))))))))))))
  exact ⟨(retv2 (congrArg aggV (show (⟨0, 0, 0, 0, 0, 0, 0⟩ : Agg) = (allA l fr).1 from by first | exact (congrArg Prod.fst (all_may hI (by omega) (by assumption))).symm | exact (congrArg Prod.snd (all_may hI (by omega) (by assumption))).symm | exact (congrArg Prod.fst (all_not hI (by omega) (by assumption))).symm | exact (congrArg Prod.snd (all_not hI (by omega) (by assumption))).symm | exact (congrArg Prod.fst (all_stop hI (by assumption) (by omega) (by assumption))).symm | exact (congrArg Prod.snd (all_stop hI (by assumption) (by omega) (by assumption))).symm)) (congrArg iV (show (joinA acc (⟨fr, 1, (l[i]'(by omega)).V, (l[i]'(by omega)).V, (l[i]'(by omega)).V, (l[i]'(by omega)).V, (l[i]'(by omega)).V⟩ : Agg)).2 = (allA l fr).2 from by first | exact (congrArg Prod.fst (all_may hI (by omega) (by assumption))).symm | exact (congrArg Prod.snd (all_may hI (by omega) (by assumption))).symm | exact (congrArg Prod.fst (all_not hI (by omega) (by assumption))).symm | exact (congrArg Prod.snd (all_not hI (by omega) (by assumption))).symm | exact (congrArg Prod.fst (all_stop hI (by assumption) (by omega) (by assumption))).symm | exact (congrArg Prod.snd (all_stop hI (by assumption) (by omega) (by assumption))).symm))), hst.bare⟩
 have c128 : ¬ ((i : Int) < (l.length : Int)) := of_decide_eq_false b103
 refine cE_cond false (congrArg Value.bool b103) (fun h => by cases h) (fun _ => ?_)
 refine cE_exit (then_x (then_x (block_hit (then_n (cE_seq (cE_seq (cE_region rfl (s_cons (op_loadN (cs := (aggC acc)) Tryd.isAgg45 Tryd.sizeOf45 q99_6 (Pt.of (hst.cell 0 rfl) rfl) rfl (s_cons (op_call Tryd.call45 (evs_cons (v := (.agg (aggA acc))) rfl evs_nil) (c_May (w0 := w102) (a := acc)) ?_)))))))))))
 rintro _ w129 ⟨rfl, hcall⟩
 refine ⟨_, rfl, ?_⟩
 have hst : St w0 w129 [.blk g97 45 (aggA acc), .blk g95 45 #[(iV 0), (iV 0), (iV 0), (iV 0), (iV 0), (iV 0), (iV 0)]] := hst.call hcall
 refine s_cons (op_not (b := mayA acc) rfl (s_nil (then_n ?_)))
 rcases Bool.eq_false_or_eq_true (mayA acc) with b130 | b130
 ·refine cE_cond false (congrArg Value.bool (congrArg (! ·) b130)) (fun h => by cases h) (fun _ => ?_)
  refine cE_skip (then_n (cE_seq (cE_region rfl (s_cons (op_loadN (cs := (aggC acc)) Tryd.isAgg45 Tryd.sizeOf45 q99_6 (Pt.of (hst.cell 0 rfl) rfl) rfl (s_cons0 (op_storeAll hst 1 rfl Tryd.sizeOf45 q99_4 rfl rfl rfl (by simp [Value.oneCell']) (fun w131 hst => ?_))))))))
  replace hst : St w0 w131 [.blk g97 45 (aggA acc), .blk g95 45 (aggA acc)] := hst
  refine s_cons (op_assign (iV 0) rfl (s_nil (then_n (cE_ret (scope_r (postG_r _ (rvN (cs := (aggC acc)) Tryd.isAgg45 Tryd.sizeOf45 q99_4 (Pt.of (hst.cell 1 rfl) rfl) rfl (rvt (v := (iV 0)) rfl rvnil)) ?_))))))
  exact ⟨(retv2 (congrArg aggV (show acc = (allA l fr).1 from by first | exact (congrArg Prod.fst (all_may hI (by omega) (by assumption))).symm | exact (congrArg Prod.snd (all_may hI (by omega) (by assumption))).symm | exact (congrArg Prod.fst (all_not hI (by omega) (by assumption))).symm | exact (congrArg Prod.snd (all_not hI (by omega) (by assumption))).symm | exact (congrArg Prod.fst (all_stop hI (by assumption) (by omega) (by assumption))).symm | exact (congrArg Prod.snd (all_stop hI (by assumption) (by omega) (by assumption))).symm)) (congrArg iV (show 0 = (allA l fr).2 from by first | exact (congrArg Prod.fst (all_may hI (by omega) (by assumption))).symm | exact (congrArg Prod.snd (all_may hI (by omega) (by assumption))).symm | exact (congrArg Prod.fst (all_not hI (by omega) (by assumption))).symm | exact (congrArg Prod.snd (all_not hI (by omega) (by assumption))).symm | exact (congrArg Prod.fst (all_stop hI (by assumption) (by omega) (by assumption))).symm | exact (congrArg Prod.snd (all_stop hI (by assumption) (by omega) (by assumption))).symm))), hst.bare⟩
 refine cE_cond true (congrArg Value.bool (congrArg (! ·) b130)) (fun _ => ?_) (fun h => by cases h)
 refine cE_seq (cE_region rfl (s_cons (op_build (r := (.agg #[(iV 0), (iV 0), (iV 0), (iV 0), (iV 0), (iV 0), (iV 0)])) evp_nil (by simp [Instr.build, Instr.fill, Value.cells, Tryd.runUnderlying45, Tryd.zeroValue45]) (s_cons0 (op_storeAll hst 1 rfl Tryd.sizeOf45 q99_4 rfl rfl rfl (by simp [Value.oneCell']) (fun w132 hst => ?_))))))
 replace hst : St w0 w132 [.blk g97 45 (aggA acc), .blk g95 45 #[(iV 0), (iV 0), (iV 0), (iV 0), (iV 0), (iV 0), (iV 0)]] := hst
 refine s_cons (op_assign (iV 1) rfl (s_nil (then_n (cE_ret (then_r (scope_r (postG_r _ (rvN (cs := [(iV 0), (iV 0), (iV 0), (iV 0), (iV 0), (iV 0), (iV 0)]) Tryd.isAgg45 Tryd.sizeOf45 q99_4 (Pt.of (hst.cell 1 rfl) rfl) rfl (rvt (v := (iV 1)) rfl rvnil)) ?_)))))))
 exact ⟨(retv2 (congrArg aggV (show (⟨0, 0, 0, 0, 0, 0, 0⟩ : Agg) = (allA l fr).1 from by first | exact (congrArg Prod.fst (all_may hI (by omega) (by assumption))).symm | exact (congrArg Prod.snd (all_may hI (by omega) (by assumption))).symm | exact (congrArg Prod.fst (all_not hI (by omega) (by assumption))).symm | exact (congrArg Prod.snd (all_not hI (by omega) (by assumption))).symm | exact (congrArg Prod.fst (all_stop hI (by assumption) (by omega) (by assumption))).symm | exact (congrArg Prod.snd (all_stop hI (by assumption) (by omega) (by assumption))).symm)) (congrArg iV (show 1 = (allA l fr).2 from by first | exact (congrArg Prod.fst (all_may hI (by omega) (by assumption))).symm | exact (congrArg Prod.snd (all_may hI (by omega) (by assumption))).symm | exact (congrArg Prod.fst (all_not hI (by omega) (by assumption))).symm | exact (congrArg Prod.snd (all_not hI (by omega) (by assumption))).symm | exact (congrArg Prod.fst (all_stop hI (by assumption) (by omega) (by assumption))).symm | exact (congrArg Prod.snd (all_stop hI (by assumption) (by omega) (by assumption))).symm))), hst.bare⟩

end Go.Proofs.YtgibfidebdgffaaDoor
