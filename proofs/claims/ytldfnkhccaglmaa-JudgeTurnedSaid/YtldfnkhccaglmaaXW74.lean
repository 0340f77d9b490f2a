/- twinkeepref1.One, twinkeepref1.Add, twinkeepref1.Join, twinkeepref1.All -/
import Derived.Test.YtldfnkhccaglmaaXLA
import Derived.Test.YtldfnkhccaglmaaXW6
namespace Go.Proofs.Ytldfnkhccaglmaa
open Go.RowKit

set_option maxRecDepth 8000 in
theorem c_rOne (w0 : World) (s : Sample) (fr : Int) :
  Calls Try.prog 45 #[(.agg #[(iV s.T), (iV s.V)]), (iV fr)] w0 fun e w' => e = .returned (.agg #[(iV fr), (iV 1), (iV s.V), (iV s.V), (iV s.V), (iV s.V), (iV s.V)]) ∧ St w0 w' [] := by
 refine calls_G (n := 17) (rs := [.cell 4 29]) Try.func45 rfl rfl rfl (by simp) ?_
 have hst := St.start w0
 refine cE_seq (cE_region rfl (s_cons (op_box (v := (.agg #[(iV s.T), (iV s.V)])) (cs := #[(iV s.T), (iV s.V)]) hst rfl rfl (fun g1 w2 hst _ => ?_))))
 refine s_cons (op_alloc (cs := #[(iV 0), (iV 0), (iV 0), (iV 0), (iV 0), (iV 0), (iV 0)]) hst Try.zeroValue29 rfl (fun g3 w4 hst _ => ?_))
 refine s_nil (then_n (cE_seq (cE_region rfl (s_cons (op_move (iV fr) rfl (s_cons (op_fieldAddr (s := 0) Try.underlying51 rfl rfl Try.sizeOf2 rfl (s_cons (op_load1 (u := (iV s.V)) Try.isAgg2 rfl ((hst.cell 1 rfl).drop 1) (s_cons (op_fieldAddr (s := 0) Try.underlying51 rfl rfl Try.sizeOf2 rfl (s_cons (op_load1 (u := (iV s.V)) Try.isAgg2 rfl ((hst.cell 1 rfl).drop 1) (s_cons (op_fieldAddr (s := 0) Try.underlying51 rfl rfl Try.sizeOf2 rfl ?_)))))))))))))))
 refine s_cons (op_load1 (u := (iV s.V)) Try.isAgg2 rfl ((hst.cell 1 rfl).drop 1) (s_cons (op_fieldAddr (s := 0) Try.underlying51 rfl rfl Try.sizeOf2 rfl (s_cons (op_load1 (u := (iV s.V)) Try.isAgg2 rfl ((hst.cell 1 rfl).drop 1) (s_cons (op_fieldAddr (s := 0) Try.underlying51 rfl rfl Try.sizeOf2 rfl (s_cons (op_load1 (u := (iV s.V)) Try.isAgg2 rfl ((hst.cell 1 rfl).drop 1) (s_cons (op_build (r := (.agg #[(iV fr), (iV 1), (iV s.V), (iV s.V), (iV s.V), (iV s.V), (iV s.V)])) (evp_cons (v := (iV fr)) rfl (evp_cons (v := (iV 1)) rfl (evp_cons (v := (iV s.V)) rfl (evp_cons (v := (iV s.V)) rfl (evp_cons (v := (iV s.V)) rfl (evp_cons (v := (iV s.V)) rfl (evp_cons (v := (iV s.V)) rfl evp_nil))))))) (by simp [Instr.build, Instr.fill, Value.cells, Try.runUnderlying29, Try.zeroValue29]) ?_)))))))))))
 refine s_cons0 (op_storeAll hst 0 rfl Try.sizeOf29 rfl rfl rfl rfl (by simp [Value.oneCell']) (fun w5 hst => ?_))
 refine s_nil (then_n (cE_ret (postG_r _ (rvN (cs := [(iV fr), (iV 1), (iV s.V), (iV s.V), (iV s.V), (iV s.V), (iV s.V)]) Try.isAgg29 Try.sizeOf29 rfl (Pt.of (hst.cell 0 rfl) rfl) rfl rvnil) ?_)))
 exact ⟨rfl, hst.bare⟩

set_option maxRecDepth 8000 in
theorem c_rAdd (w0 : World) (a : Int) (b : Int) (a0 : -9223372036854775808 ≤ a) (b0 : -9223372036854775808 ≤ b) (a1 : a ≤ 9223372036854775807) (b1 : b ≤ 9223372036854775807) :
  Calls Try.prog 57 #[(iV a), (iV b)] w0 fun e w' => e = .returned (.tuple #[(iV (addV a b)), (.bool (addB a b))]) ∧ St w0 w' [] := by
 have hws := wsum_cases (a := a) (b := b) ⟨a0, a1⟩ ⟨b0, b1⟩
 refine calls_E (n := 36) (ts := [4, 5]) Try.func57 rfl rfl rfl (by simp) ?_
 have hst := St.start w0
 refine cE_seq (cE_region rfl (s_cons (op_assign (iV 0) rfl (s_cons (op_assign (.bool false) rfl (s_nil (then_n (cE_seq (cE_region rfl (s_cons (op_move (iV a) rfl (s_cons (op_conv (k := .i64) (a := a) (a % 18446744073709551616) Try.underlying112 (by rw [Try.underlying2]; rfl) rfl (IntKind.wrap_u64 _) (s_cons (op_move (iV b) rfl (s_cons (op_conv (k := .i64) (a := b) (b % 18446744073709551616) Try.underlying112 (by rw [Try.underlying2]; rfl) rfl (IntKind.wrap_u64 _) ?_)))))))))))))))))
 refine s_cons (op_add (k := .u64) (a := (a % 18446744073709551616)) (b := (b % 18446744073709551616)) (((a % 18446744073709551616) + (b % 18446744073709551616)) % 18446744073709551616) rfl rfl (IntKind.wrap_u64 _) (s_cons (op_conv (k := .u64) (a := (((a % 18446744073709551616) + (b % 18446744073709551616)) % 18446744073709551616)) (wsum a b) Try.underlying2 (by rw [Try.underlying112]; rfl) rfl (add_wrap ⟨a0, a1⟩ ⟨b0, b1⟩) ?_)))
 refine s_cons (op_assign (iV (wsum a b)) rfl (s_nil (then_n (cE_seq (cE_seq (cE_region rfl (s_cons (op_move (iV a) rfl (s_cons (op_geq (k := .i64) (a := a) (b := 0) rfl rfl (s_cons (op_move (.bool (decide (0 ≤ a))) rfl ?_))))))))))))
 rcases Bool.eq_false_or_eq_true (decide (0 ≤ a)) with b6 | b6
 ·have c7 := of_decide_eq_true b6
  refine s_yes 15 rfl (congrArg Value.bool b6) (op_move (iV b) rfl (s_yes 15 rfl (congrArg Value.bool b6) (op_geq (k := .i64) (a := b) (b := 0) rfl rfl (s_cons (op_pick_t (.bool (decide (0 ≤ b))) (congrArg Value.bool b6) rfl (s_cons (op_move (.bool (decide (0 ≤ b))) rfl ?_)))))))
  rcases Bool.eq_false_or_eq_true (decide (0 ≤ b)) with b8 | b8
  ·have c9 := of_decide_eq_true b8
   refine s_yes 19 rfl (congrArg Value.bool b8) (op_move (iV (wsum a b)) rfl (s_yes 19 rfl (congrArg Value.bool b8) (op_lss (k := .i64) (a := (wsum a b)) (b := 0) rfl rfl (s_cons (op_pick_t (.bool (decide ((wsum a b) < 0))) (congrArg Value.bool b8) rfl (s_cons (op_move (.bool (decide ((wsum a b) < 0))) rfl ?_)))))))
   rcases Bool.eq_false_or_eq_true (decide ((wsum a b) < 0)) with b10 | b10
   ·have c11 := of_decide_eq_true b10
    refine s_no 23 rfl (congrArg Value.bool b10) (s_no 23 rfl (congrArg Value.bool b10) (s_no 23 rfl (congrArg Value.bool b10) (s_un 26 rfl rfl (s_un 26 rfl rfl (s_no 23 rfl (congrArg Value.bool b10) (s_no 23 rfl (congrArg Value.bool b10) (s_un 30 rfl rfl (s_un 30 rfl rfl (s_no 23 rfl (congrArg Value.bool b10) (s_cons (op_pick_t (.bool true) (congrArg Value.bool b10) rfl (s_nil (then_n ?_)))))))))))))
    refine cE_cond true rfl (fun _ => ?_) (fun h => by cases h)
    refine cE_seq (cE_region rfl (s_cons (op_assign (iV 0) rfl (s_cons (op_assign (.bool false) rfl (s_nil (then_n (cE_ret (then_r (post_r _ (res2 (v := (iV 0)) rfl (x := (.bool false)) rfl) ?_))))))))))
    exact ⟨(retv2 (congrArg iV (show 0 = (addV a b) from by (unfold addV; split <;> omega))) (congrArg Value.bool (show false = (addB a b) from by (rw [Bool.eq_iff_iff]; simp only [mayA, mayP, i64R, addB, agg_iff, true_and, and_true, decide_eq_true_eq, Bool.false_eq_true, true_iff, false_iff]; omega)))), hst.bare⟩
   have c12 := of_decide_eq_false b10
   refine s_yes 23 rfl (congrArg Value.bool b10) (op_move (iV a) rfl (s_yes 23 rfl (congrArg Value.bool b10) (op_lss (k := .i64) (a := a) (b := 0) rfl rfl (s_yes 23 rfl (congrArg Value.bool b10) (op_move (.bool (decide (a < 0))) rfl ?_)))))
   rcases Bool.eq_false_or_eq_true (decide (a < 0)) with b13 | b13
   ·have c14 := of_decide_eq_true b13
    refine s_yes 26 rfl (congrArg Value.bool b13) (op_move (iV b) rfl (s_yes 26 rfl (congrArg Value.bool b13) (op_lss (k := .i64) (a := b) (b := 0) rfl rfl (s_yes 23 rfl (congrArg Value.bool b10) (op_pick_t (.bool (decide (b < 0))) (congrArg Value.bool b13) rfl (s_yes 23 rfl (congrArg Value.bool b10) (op_move (.bool (decide (b < 0))) rfl ?_)))))))
    rcases Bool.eq_false_or_eq_true (decide (b < 0)) with b15 | b15
    ·have c16 := of_decide_eq_true b15
     refine s_yes 30 rfl (congrArg Value.bool b15) (op_move (iV (wsum a b)) rfl (s_yes 30 rfl (congrArg Value.bool b15) (op_geq (k := .i64) (a := (wsum a b)) (b := 0) rfl rfl (s_yes 23 rfl (congrArg Value.bool b10) (op_pick_t (.bool (decide (0 ≤ (wsum a b)))) (congrArg Value.bool b15) rfl (s_cons (op_pick_f (.bool (decide (0 ≤ (wsum a b)))) (congrArg Value.bool b10) rfl (s_nil (then_n ?_)))))))))
     rcases Bool.eq_false_or_eq_true (decide (0 ≤ (wsum a b))) with b17 | b17
     ·have c18 := of_decide_eq_true b17
      refine cE_cond true (congrArg Value.bool b17) (fun _ => ?_) (fun h => by cases h)
      refine cE_seq (cE_region rfl (s_cons (op_assign (iV 0) rfl (s_cons (op_assign (.bool false) rfl (s_nil (then_n (cE_ret (then_r (post_r _ (res2 (v := (iV 0)) rfl (x := (.bool false)) rfl) ?_))))))))))
      exact ⟨(retv2 (congrArg iV (show 0 = (addV a b) from by (unfold addV; split <;> omega))) (congrArg Value.bool (show false = (addB a b) from by (rw [Bool.eq_iff_iff]; simp only [mayA, mayP, i64R, addB, agg_iff, true_and, and_true, decide_eq_true_eq, Bool.false_eq_true, true_iff, false_iff]; omega)))), hst.bare⟩
     have c19 := of_decide_eq_false b17
     refine cE_cond false (congrArg Value.bool b17) (fun h => by cases h) (fun _ => ?_)
     refine cE_skip (then_n (cE_seq (cE_region rfl (s_cons (op_move (iV (wsum a b)) rfl (s_cons (op_assign (iV (wsum a b)) rfl (s_cons (op_assign (.bool true) rfl (s_nil (then_n (cE_ret (post_r _ (res2 (v := (iV (wsum a b))) rfl (x := (.bool true)) rfl) ?_)))))))))))))
     exact ⟨(retv2 (congrArg iV (show (wsum a b) = (addV a b) from by (unfold addV; split <;> omega))) (congrArg Value.bool (show true = (addB a b) from by (rw [Bool.eq_iff_iff]; simp only [mayA, mayP, i64R, addB, agg_iff, true_and, and_true, decide_eq_true_eq, Bool.false_eq_true, true_iff, false_iff]; omega)))), hst.bare⟩
    have c20 := of_decide_eq_false b15
    refine s_no 30 rfl (congrArg Value.bool b15) (s_no 30 rfl (congrArg Value.bool b15) (s_yes 23 rfl (congrArg Value.bool b10) (op_pick_f (.bool false) (congrArg Value.bool b15) rfl (s_cons (op_pick_f (.bool false) (congrArg Value.bool b10) rfl (s_nil (then_n (cE_cond false rfl (fun h => by cases h) (fun _ => ?_)))))))))
    refine cE_skip (then_n (cE_seq (cE_region rfl (s_cons (op_move (iV (wsum a b)) rfl (s_cons (op_assign (iV (wsum a b)) rfl (s_cons (op_assign (.bool true) rfl (s_nil (then_n (cE_ret (post_r _ (res2 (v := (iV (wsum a b))) rfl (x := (.bool true)) rfl) ?_)))))))))))))
    exact ⟨(retv2 (congrArg iV (show (wsum a b) = (addV a b) from by (unfold addV; split <;> omega))) (congrArg Value.bool (show true = (addB a b) from by (rw [Bool.eq_iff_iff]; simp only [mayA, mayP, i64R, addB, agg_iff, true_and, and_true, decide_eq_true_eq, Bool.false_eq_true, true_iff, false_iff]; omega)))), hst.bare⟩
   have c21 := of_decide_eq_false b13
   refine s_no 26 rfl (congrArg Value.bool b13) (s_no 26 rfl (congrArg Value.bool b13) (s_yes 23 rfl (congrArg Value.bool b10) (op_pick_f (.bool false) (congrArg Value.bool b13) rfl (s_yes 23 rfl (congrArg Value.bool b10) (op_move (.bool false) rfl (s_no 30 rfl rfl (s_no 30 rfl rfl (s_yes 23 rfl (congrArg Value.bool b10) (op_pick_f (.bool false) rfl rfl (s_cons (op_pick_f (.bool false) (congrArg Value.bool b10) rfl ?_)))))))))))
   refine s_nil (then_n (cE_cond false rfl (fun h => by cases h) (fun _ => ?_)))
   refine cE_skip (then_n (cE_seq (cE_region rfl (s_cons (op_move (iV (wsum a b)) rfl (s_cons (op_assign (iV (wsum a b)) rfl (s_cons (op_assign (.bool true) rfl (s_nil (then_n (cE_ret (post_r _ (res2 (v := (iV (wsum a b))) rfl (x := (.bool true)) rfl) ?_)))))))))))))
   exact ⟨(retv2 (congrArg iV (show (wsum a b) = (addV a b) from by (unfold addV; split <;> omega))) (congrArg Value.bool (show true = (addB a b) from by (rw [Bool.eq_iff_iff]; simp only [mayA, mayP, i64R, addB, agg_iff, true_and, and_true, decide_eq_true_eq, Bool.false_eq_true, true_iff, false_iff]; omega)))), hst.bare⟩
  have c22 := of_decide_eq_false b8
  refine s_no 19 rfl (congrArg Value.bool b8) (s_no 19 rfl (congrArg Value.bool b8) (s_cons (op_pick_f (.bool false) (congrArg Value.bool b8) rfl (s_cons (op_move (.bool false) rfl (s_yes 23 rfl rfl (op_move (iV a) rfl (s_yes 23 rfl rfl (op_lss (k := .i64) (a := a) (b := 0) rfl rfl (s_yes 23 rfl rfl (op_move (.bool (decide (a < 0))) rfl ?_)))))))))))
  rcases Bool.eq_false_or_eq_true (decide (a < 0)) with b23 | b23
  ·have c24 := of_decide_eq_true b23
   refine s_yes 26 rfl (congrArg Value.bool b23) (op_move (iV b) rfl (s_yes 26 rfl (congrArg Value.bool b23) (op_lss (k := .i64) (a := b) (b := 0) rfl rfl (s_yes 23 rfl rfl (op_pick_t (.bool (decide (b < 0))) (congrArg Value.bool b23) rfl (s_yes 23 rfl rfl (op_move (.bool (decide (b < 0))) rfl ?_)))))))
   rcases Bool.eq_false_or_eq_true (decide (b < 0)) with b25 | b25
   ·have c26 := of_decide_eq_true b25
    refine s_yes 30 rfl (congrArg Value.bool b25) (op_move (iV (wsum a b)) rfl (s_yes 30 rfl (congrArg Value.bool b25) (op_geq (k := .i64) (a := (wsum a b)) (b := 0) rfl rfl (s_yes 23 rfl rfl (op_pick_t (.bool (decide (0 ≤ (wsum a b)))) (congrArg Value.bool b25) rfl (s_cons (op_pick_f (.bool (decide (0 ≤ (wsum a b)))) rfl rfl (s_nil (then_n ?_)))))))))
    rcases Bool.eq_false_or_eq_true (decide (0 ≤ (wsum a b))) with b27 | b27
    ·have c28 := of_decide_eq_true b27
     refine cE_cond true (congrArg Value.bool b27) (fun _ => ?_) (fun h => by cases h)
     refine cE_seq (cE_region rfl (s_cons (op_assign (iV 0) rfl (s_cons (op_assign (.bool false) rfl (s_nil (then_n (cE_ret (then_r (post_r _ (res2 (v := (iV 0)) rfl (x := (.bool false)) rfl) ?_))))))))))
     exact ⟨(retv2 (congrArg iV (show 0 = (addV a b) from by (unfold addV; split <;> omega))) (congrArg Value.bool (show false = (addB a b) from by (rw [Bool.eq_iff_iff]; simp only [mayA, mayP, i64R, addB, agg_iff, true_and, and_true, decide_eq_true_eq, Bool.false_eq_true, true_iff, false_iff]; omega)))), hst.bare⟩
    have c29 := of_decide_eq_false b27
    refine cE_cond false (congrArg Value.bool b27) (fun h => by cases h) (fun _ => ?_)
    refine cE_skip (then_n (cE_seq (cE_region rfl (s_cons (op_move (iV (wsum a b)) rfl (s_cons (op_assign (iV (wsum a b)) rfl (s_cons (op_assign (.bool true) rfl (s_nil (then_n (cE_ret (post_r _ (res2 (v := (iV (wsum a b))) rfl (x := (.bool true)) rfl) ?_)))))))))))))
    exact ⟨(retv2 (congrArg iV (show (wsum a b) = (addV a b) from by (unfold addV; split <;> omega))) (congrArg Value.bool (show true = (addB a b) from by (rw [Bool.eq_iff_iff]; simp only [mayA, mayP, i64R, addB, agg_iff, true_and, and_true, decide_eq_true_eq, Bool.false_eq_true, true_iff, false_iff]; omega)))), hst.bare⟩
   have c30 := of_decide_eq_false b25
   refine s_no 30 rfl (congrArg Value.bool b25) (s_no 30 rfl (congrArg Value.bool b25) (s_yes 23 rfl rfl (op_pick_f (.bool false) (congrArg Value.bool b25) rfl (s_cons (op_pick_f (.bool false) rfl rfl (s_nil (then_n (cE_cond false rfl (fun h => by cases h) (fun _ => ?_)))))))))
   refine cE_skip (then_n (cE_seq (cE_region rfl (s_cons (op_move (iV (wsum a b)) rfl (s_cons (op_assign (iV (wsum a b)) rfl (s_cons (op_assign (.bool true) rfl (s_nil (then_n (cE_ret (post_r _ (res2 (v := (iV (wsum a b))) rfl (x := (.bool true)) rfl) ?_)))))))))))))
   exact ⟨(retv2 (congrArg iV (show (wsum a b) = (addV a b) from by (unfold addV; split <;> omega))) (congrArg Value.bool (show true = (addB a b) from by (rw [Bool.eq_iff_iff]; simp only [mayA, mayP, i64R, addB, agg_iff, true_and, and_true, decide_eq_true_eq, Bool.false_eq_true, true_iff, false_iff]; omega)))), hst.bare⟩
  have c31 := of_decide_eq_false b23
  refine s_no 26 rfl (congrArg Value.bool b23) (s_no 26 rfl (congrArg Value.bool b23) (s_yes 23 rfl rfl (op_pick_f (.bool false) (congrArg Value.bool b23) rfl (s_yes 23 rfl rfl (op_move (.bool false) rfl (s_no 30 rfl rfl (s_no 30 rfl rfl (s_yes 23 rfl rfl (op_pick_f (.bool false) rfl rfl (s_cons (op_pick_f (.bool false) rfl rfl (s_nil (then_n (cE_cond false rfl (fun h => by cases h) (fun _ => ?_)))))))))))))))
  refine cE_skip (then_n (cE_seq (cE_region rfl (s_cons (op_move (iV (wsum a b)) rfl (s_cons (op_assign (iV (wsum a b)) rfl (s_cons (op_assign (.bool true) rfl (s_nil (then_n (cE_ret (post_r _ (res2 (v := (iV (wsum a b))) rfl (x := (.bool true)) rfl) ?_)))))))))))))
  exact ⟨(retv2 (congrArg iV (show (wsum a b) = (addV a b) from by (unfold addV; split <;> omega))) (congrArg Value.bool (show true = (addB a b) from by (rw [Bool.eq_iff_iff]; simp only [mayA, mayP, i64R, addB, agg_iff, true_and, and_true, decide_eq_true_eq, Bool.false_eq_true, true_iff, false_iff]; omega)))), hst.bare⟩
 have c32 := of_decide_eq_false b6
 refine s_no 15 rfl (congrArg Value.bool b6) (s_no 15 rfl (congrArg Value.bool b6) (s_cons (op_pick_f (.bool false) (congrArg Value.bool b6) rfl (s_cons (op_move (.bool false) rfl (s_no 19 rfl rfl (s_no 19 rfl rfl (s_cons (op_pick_f (.bool false) rfl rfl (s_cons (op_move (.bool false) rfl (s_yes 23 rfl rfl (op_move (iV a) rfl (s_yes 23 rfl rfl (op_lss (k := .i64) (a := a) (b := 0) rfl rfl ?_)))))))))))))))
 refine s_yes 23 rfl rfl (op_move (.bool (decide (a < 0))) rfl ?_)
 rcases Bool.eq_false_or_eq_true (decide (a < 0)) with b33 | b33
 ·have c34 := of_decide_eq_true b33
  refine s_yes 26 rfl (congrArg Value.bool b33) (op_move (iV b) rfl (s_yes 26 rfl (congrArg Value.bool b33) (op_lss (k := .i64) (a := b) (b := 0) rfl rfl (s_yes 23 rfl rfl (op_pick_t (.bool (decide (b < 0))) (congrArg Value.bool b33) rfl (s_yes 23 rfl rfl (op_move (.bool (decide (b < 0))) rfl ?_)))))))
  rcases Bool.eq_false_or_eq_true (decide (b < 0)) with b35 | b35
  ·have c36 := of_decide_eq_true b35
   refine s_yes 30 rfl (congrArg Value.bool b35) (op_move (iV (wsum a b)) rfl (s_yes 30 rfl (congrArg Value.bool b35) (op_geq (k := .i64) (a := (wsum a b)) (b := 0) rfl rfl (s_yes 23 rfl rfl (op_pick_t (.bool (decide (0 ≤ (wsum a b)))) (congrArg Value.bool b35) rfl (s_cons (op_pick_f (.bool (decide (0 ≤ (wsum a b)))) rfl rfl (s_nil (then_n ?_)))))))))
   rcases Bool.eq_false_or_eq_true (decide (0 ≤ (wsum a b))) with b37 | b37
   ·have c38 := of_decide_eq_true b37
    refine cE_cond true (congrArg Value.bool b37) (fun _ => ?_) (fun h => by cases h)
    refine cE_seq (cE_region rfl (s_cons (op_assign (iV 0) rfl (s_cons (op_assign (.bool false) rfl (s_nil (then_n (cE_ret (then_r (post_r _ (res2 (v := (iV 0)) rfl (x := (.bool false)) rfl) ?_))))))))))
    exact ⟨(retv2 (congrArg iV (show 0 = (addV a b) from by (unfold addV; split <;> omega))) (congrArg Value.bool (show false = (addB a b) from by (rw [Bool.eq_iff_iff]; simp only [mayA, mayP, i64R, addB, agg_iff, true_and, and_true, decide_eq_true_eq, Bool.false_eq_true, true_iff, false_iff]; omega)))), hst.bare⟩
   have c39 := of_decide_eq_false b37
   refine cE_cond false (congrArg Value.bool b37) (fun h => by cases h) (fun _ => ?_)
   refine cE_skip (then_n (cE_seq (cE_region rfl (s_cons (op_move (iV (wsum a b)) rfl (s_cons (op_assign (iV (wsum a b)) rfl (s_cons (op_assign (.bool true) rfl (s_nil (then_n (cE_ret (post_r _ (res2 (v := (iV (wsum a b))) rfl (x := (.bool true)) rfl) ?_)))))))))))))
   exact ⟨(retv2 (congrArg iV (show (wsum a b) = (addV a b) from by (unfold addV; split <;> omega))) (congrArg Value.bool (show true = (addB a b) from by (rw [Bool.eq_iff_iff]; simp only [mayA, mayP, i64R, addB, agg_iff, true_and, and_true, decide_eq_true_eq, Bool.false_eq_true, true_iff, false_iff]; omega)))), hst.bare⟩
  have c40 := of_decide_eq_false b35
  refine s_no 30 rfl (congrArg Value.bool b35) (s_no 30 rfl (congrArg Value.bool b35) (s_yes 23 rfl rfl (op_pick_f (.bool false) (congrArg Value.bool b35) rfl (s_cons (op_pick_f (.bool false) rfl rfl (s_nil (then_n (cE_cond false rfl (fun h => by cases h) (fun _ => ?_)))))))))
  refine cE_skip (then_n (cE_seq (cE_region rfl (s_cons (op_move (iV (wsum a b)) rfl (s_cons (op_assign (iV (wsum a b)) rfl (s_cons (op_assign (.bool true) rfl (s_nil (then_n (cE_ret (post_r _ (res2 (v := (iV (wsum a b))) rfl (x := (.bool true)) rfl) ?_)))))))))))))
  exact ⟨(retv2 (congrArg iV (show (wsum a b) = (addV a b) from by (unfold addV; split <;> omega))) (congrArg Value.bool (show true = (addB a b) from by (rw [Bool.eq_iff_iff]; simp only [mayA, mayP, i64R, addB, agg_iff, true_and, and_true, decide_eq_true_eq, Bool.false_eq_true, true_iff, false_iff]; omega)))), hst.bare⟩
 have c41 := of_decide_eq_false b33
 refine s_no 26 rfl (congrArg Value.bool b33) (s_no 26 rfl (congrArg Value.bool b33) (s_yes 23 rfl rfl (op_pick_f (.bool false) (congrArg Value.bool b33) rfl (s_yes 23 rfl rfl (op_move (.bool false) rfl (s_no 30 rfl rfl (s_no 30 rfl rfl (s_yes 23 rfl rfl (op_pick_f (.bool false) rfl rfl (s_cons (op_pick_f (.bool false) rfl rfl (s_nil (then_n (cE_cond false rfl (fun h => by cases h) (fun _ => ?_)))))))))))))))
 refine cE_skip (then_n (cE_seq (cE_region rfl (s_cons (op_move (iV (wsum a b)) rfl (s_cons (op_assign (iV (wsum a b)) rfl (s_cons (op_assign (.bool true) rfl (s_nil (then_n (cE_ret (post_r _ (res2 (v := (iV (wsum a b))) rfl (x := (.bool true)) rfl) ?_)))))))))))))
 exact ⟨(retv2 (congrArg iV (show (wsum a b) = (addV a b) from by (unfold addV; split <;> omega))) (congrArg Value.bool (show true = (addB a b) from by (rw [Bool.eq_iff_iff]; simp only [mayA, mayP, i64R, addB, agg_iff, true_and, and_true, decide_eq_true_eq, Bool.false_eq_true, true_iff, false_iff]; omega)))), hst.bare⟩

set_option maxRecDepth 8000 in
set_option maxHeartbeats 4000000 in
theorem c_rJoin (w0 : World) (a : Agg) (b : Agg) (ha : a.ok) (hb : b.ok) :
  Calls Try.prog 46 #[(.agg (aggA a)), (.agg (aggA b))] w0 fun e w' => e = .returned (.tuple #[(.agg (aggA ((joinA a b).1))), (iV ((joinA a b).2))]) ∧ St w0 w' [] := by
 refine calls_G (n := 59) (rs := [.cell 4 29, .tmp 5]) Try.func46 rfl rfl rfl (by simp) ?_
 have hst := St.start w0
 refine cE_seq (cE_region rfl (s_cons (op_box (v := (.agg (aggA a))) (cs := (aggA a)) hst rfl rfl (fun g42 w43 hst _ => ?_))))
 refine s_cons (op_box (v := (.agg (aggA b))) (cs := (aggA b)) hst rfl rfl (fun g44 w45 hst _ => ?_))
 refine s_cons (op_alloc (cs := #[(iV 0), (iV 0), (iV 0), (iV 0), (iV 0), (iV 0), (iV 0)]) hst Try.zeroValue29 rfl (fun g46 w47 hst _ => ?_))
 refine s_cons (op_assign (iV 0) rfl (s_nil (then_n (cE_seq (cE_seq (cE_region rfl (s_cons (op_loadN (cs := (aggC a)) Try.isAgg29 Try.sizeOf29 rfl (Pt.of (hst.cell 2 rfl) rfl) rfl (s_cons (op_call Try.call30 (evs_cons (v := (.agg (aggA a))) rfl evs_nil) (c_rMay (w0 := w47) (a := a)) ?_))))))))))
 rintro _ w48 ⟨rfl, hcall⟩
 refine ⟨_, rfl, ?_⟩
 have hst := hst.call hcall
 refine s_cons (op_not (b := mayA a) rfl (s_cons (op_move (.bool (!(mayA a))) rfl ?_)))
 rcases Bool.eq_false_or_eq_true (mayA a) with b49 | b49
 ·have hma := mayA_true b49
  refine s_yes 11 rfl (congrArg Value.bool (congrArg (! ·) b49)) (op_loadN (cs := (aggC b)) Try.isAgg29 Try.sizeOf29 rfl (Pt.of (hst.cell 1 rfl) rfl) rfl (s_yes 11 rfl (congrArg Value.bool (congrArg (! ·) b49)) (op_call Try.call30 (evs_cons (v := (.agg (aggA b))) rfl evs_nil) (c_rMay (w0 := w48) (a := b)) ?_)))
  rintro _ w50 ⟨rfl, hcall⟩
  refine ⟨_, rfl, ?_⟩
  have hst := hst.call hcall
  refine s_yes 11 rfl (congrArg Value.bool (congrArg (! ·) b49)) (op_not (b := mayA b) rfl (s_cons (op_pick_f (.bool (!(mayA b))) (congrArg Value.bool (congrArg (! ·) b49)) rfl (s_cons (op_move (.bool (!(mayA b))) rfl ?_)))))
  rcases Bool.eq_false_or_eq_true (mayA b) with b51 | b51
  ·have hmb := mayA_true b51
   refine s_yes 16 rfl (congrArg Value.bool (congrArg (! ·) b51)) (op_fieldAddr (s := 0) Try.underlying29 rfl rfl Try.sizeOf2 rfl (s_yes 16 rfl (congrArg Value.bool (congrArg (! ·) b51)) (op_load1 (u := (iV a.Count)) Try.isAgg2 rfl ((hst.cell 2 rfl).drop 1) (s_yes 16 rfl (congrArg Value.bool (congrArg (! ·) b51)) (op_fieldAddr (s := 0) Try.underlying29 rfl rfl Try.sizeOf2 rfl (s_yes 16 rfl (congrArg Value.bool (congrArg (! ·) b51)) (op_load1 (u := (iV b.Count)) Try.isAgg2 rfl ((hst.cell 1 rfl).drop 1) ?_)))))))
   refine s_yes 16 rfl (congrArg Value.bool (congrArg (! ·) b51)) (op_add (k := .i64) (a := a.Count) (b := b.Count) (a.Count + b.Count) rfl rfl (xi64 (by omega) (by omega)) (s_yes 16 rfl (congrArg Value.bool (congrArg (! ·) b51)) (op_gtr (k := .i64) (a := (a.Count + b.Count)) (b := 1099511627776) rfl rfl (s_cons (op_pick_f (.bool (decide (1099511627776 < (a.Count + b.Count)))) (congrArg Value.bool (congrArg (! ·) b51)) rfl ?_)))))
   refine s_nil (then_n ?_)
   rcases Bool.eq_false_or_eq_true (decide (1099511627776 < (a.Count + b.Count))) with b52 | b52
   ·have c53 := of_decide_eq_true b52
    refine cE_cond true (congrArg Value.bool b52) (fun _ => ?_) (fun h => by cases h)
    refine cE_seq (cE_region rfl (s_cons (op_build (r := (.agg #[(iV 0), (iV 0), (iV 0), (iV 0), (iV 0), (iV 0), (iV 0)])) evp_nil (by simp [Instr.build, Instr.fill, Value.cells, Try.runUnderlying29, Try.zeroValue29]) (s_cons0 (op_storeAll hst 0 rfl Try.sizeOf29 rfl rfl rfl rfl (by simp [Value.oneCell']) (fun w54 hst => ?_))))))
    refine s_cons (op_assign (iV 1) rfl (s_nil (then_n (cE_ret (then_r (postG_r _ (rvN (cs := [(iV 0), (iV 0), (iV 0), (iV 0), (iV 0), (iV 0), (iV 0)]) Try.isAgg29 Try.sizeOf29 rfl (Pt.of (hst.cell 0 rfl) rfl) rfl (rvt (v := (iV 1)) rfl rvnil)) ?_))))))
    exact ⟨(retv2 (congrArg aggV (show (⟨0, 0, 0, 0, 0, 0, 0⟩ : Agg) = (joinA a b).1 from by (unfold joinA; (repeat' split) <;> first | rfl | (exfalso; simp_all; try omega)))) (congrArg iV (show 1 = (joinA a b).2 from by (unfold joinA; (repeat' split) <;> first | rfl | (exfalso; simp_all; try omega))))), hst.bare⟩
   have c55 := of_decide_eq_false b52
   refine cE_cond false (congrArg Value.bool b52) (fun h => by cases h) (fun _ => ?_)
   refine cE_skip (then_n (cE_seq (cE_region rfl (s_cons (op_fieldAddr (s := 0) Try.underlying29 rfl rfl Try.sizeOf2 rfl (s_cons (op_load1 (u := (iV a.Sum)) Try.isAgg2 rfl ((hst.cell 2 rfl).drop 2) (s_cons (op_fieldAddr (s := 0) Try.underlying29 rfl rfl Try.sizeOf2 rfl (s_cons (op_load1 (u := (iV b.Sum)) Try.isAgg2 rfl ((hst.cell 1 rfl).drop 2) (s_cons (op_call Try.call57 (evs_cons (v := (iV a.Sum)) rfl (evs_cons (v := (iV b.Sum)) rfl evs_nil)) (c_rAdd (w0 := w50) (a := a.Sum) (b := b.Sum) (a0 := (by omega)) (b0 := (by omega)) (a1 := (by omega)) (b1 := (by omega))) ?_)))))))))))))
   rintro _ w56 ⟨rfl, hcall⟩
   refine ⟨_, rfl, ?_⟩
   have hst := hst.call hcall
   refine s_cons (op_move (.tuple #[(iV (addV a.Sum b.Sum)), (.bool (addB a.Sum b.Sum))]) rfl (s_cons (op_extract (iV (addV a.Sum b.Sum)) rfl rfl (s_cons (op_extract (.bool (addB a.Sum b.Sum)) rfl rfl (s_cons (op_assign (iV (addV a.Sum b.Sum)) rfl (s_cons (op_assign (.bool (addB a.Sum b.Sum)) rfl (s_nil (then_n (cE_seq (cE_seq (cE_region rfl (s_cons (op_move (.bool (addB a.Sum b.Sum)) rfl ?_))))))))))))))))
   refine s_cons (op_not (b := addB a.Sum b.Sum) rfl (s_nil (then_n ?_)))
   rcases Bool.eq_false_or_eq_true (addB a.Sum b.Sum) with b57 | b57
   ·refine cE_cond false (congrArg Value.bool (congrArg (! ·) b57)) (fun h => by cases h) (fun _ => ?_)
    refine cE_skip (then_n (cE_seq (cE_region rfl (s_cons (op_fieldAddr (s := 0) Try.underlying29 rfl rfl Try.sizeOf2 rfl (s_cons (op_load1 (u := (iV a.From)) Try.isAgg2 rfl (hst.cell 2 rfl) (s_cons (op_fieldAddr (s := 0) Try.underlying29 rfl rfl Try.sizeOf2 rfl (s_cons (op_load1 (u := (iV a.Count)) Try.isAgg2 rfl ((hst.cell 2 rfl).drop 1) (s_cons (op_fieldAddr (s := 0) Try.underlying29 rfl rfl Try.sizeOf2 rfl ?_)))))))))))))
    refine s_cons (op_load1 (u := (iV b.Count)) Try.isAgg2 rfl ((hst.cell 1 rfl).drop 1) (s_cons (op_add (k := .i64) (a := a.Count) (b := b.Count) (a.Count + b.Count) rfl rfl (xi64 (by omega) (by omega)) (s_cons (op_move (iV (addV a.Sum b.Sum)) rfl (s_cons (op_fieldAddr (s := 0) Try.underlying29 rfl rfl Try.sizeOf2 rfl (s_cons (op_load1 (u := (iV a.Min)) Try.isAgg2 rfl ((hst.cell 2 rfl).drop 3) ?_)))))))))
    refine s_cons (op_fieldAddr (s := 0) Try.underlying29 rfl rfl Try.sizeOf2 rfl (s_cons (op_load1 (u := (iV b.Min)) Try.isAgg2 rfl ((hst.cell 1 rfl).drop 3) (s_cons (op_min2 (k := .i64) (a := a.Min) (b := b.Min) rfl rfl (s_cons (op_fieldAddr (s := 0) Try.underlying29 rfl rfl Try.sizeOf2 rfl (s_cons (op_load1 (u := (iV a.Max)) Try.isAgg2 rfl ((hst.cell 2 rfl).drop 4) (s_cons (op_fieldAddr (s := 0) Try.underlying29 rfl rfl Try.sizeOf2 rfl ?_)))))))))))
    refine s_cons (op_load1 (u := (iV b.Max)) Try.isAgg2 rfl ((hst.cell 1 rfl).drop 4) (s_cons (op_max2 (k := .i64) (a := a.Max) (b := b.Max) rfl rfl (s_cons (op_fieldAddr (s := 0) Try.underlying29 rfl rfl Try.sizeOf2 rfl (s_cons (op_load1 (u := (iV a.First)) Try.isAgg2 rfl ((hst.cell 2 rfl).drop 5) (s_cons (op_fieldAddr (s := 0) Try.underlying29 rfl rfl Try.sizeOf2 rfl (s_cons (op_load1 (u := (iV b.Last)) Try.isAgg2 rfl ((hst.cell 1 rfl).drop 6) ?_)))))))))))
    refine s_cons (op_build (r := (.agg #[(iV a.From), (iV (a.Count + b.Count)), (iV (addV a.Sum b.Sum)), (iV (min a.Min b.Min)), (iV (max a.Max b.Max)), (iV a.First), (iV b.Last)])) (evp_cons (v := (iV a.From)) rfl (evp_cons (v := (iV (a.Count + b.Count))) rfl (evp_cons (v := (iV (addV a.Sum b.Sum))) rfl (evp_cons (v := (iV (min a.Min b.Min))) rfl (evp_cons (v := (iV (max a.Max b.Max))) rfl (evp_cons (v := (iV a.First)) rfl (evp_cons (v := (iV b.Last)) rfl evp_nil))))))) (by simp [Instr.build, Instr.fill, Value.cells, Try.runUnderlying29, Try.zeroValue29]) ?_)
    refine s_cons0 (op_storeAll hst 0 rfl Try.sizeOf29 rfl rfl rfl rfl (by simp [Value.oneCell']) (fun w58 hst => ?_))
    refine s_cons (op_assign (iV 0) rfl (s_nil (then_n (cE_ret (postG_r _ (rvN (cs := [(iV a.From), (iV (a.Count + b.Count)), (iV (addV a.Sum b.Sum)), (iV (min a.Min b.Min)), (iV (max a.Max b.Max)), (iV a.First), (iV b.Last)]) Try.isAgg29 Try.sizeOf29 rfl (Pt.of (hst.cell 0 rfl) rfl) rfl (rvt (v := (iV 0)) rfl rvnil)) ?_)))))
    exact ⟨(retv2 (congrArg aggV (show (⟨a.From, (a.Count + b.Count), (addV a.Sum b.Sum), (min a.Min b.Min), (max a.Max b.Max), a.First, b.Last⟩ : Agg) = (joinA a b).1 from by (unfold joinA; (repeat' split) <;> first | rfl | (exfalso; simp_all; try omega)))) (congrArg iV (show 0 = (joinA a b).2 from by (unfold joinA; (repeat' split) <;> first | rfl | (exfalso; simp_all; try omega))))), hst.bare⟩
   refine cE_cond true (congrArg Value.bool (congrArg (! ·) b57)) (fun _ => ?_) (fun h => by cases h)
   refine cE_seq (cE_region rfl (s_cons (op_build (r := (.agg #[(iV 0), (iV 0), (iV 0), (iV 0), (iV 0), (iV 0), (iV 0)])) evp_nil (by simp [Instr.build, Instr.fill, Value.cells, Try.runUnderlying29, Try.zeroValue29]) (s_cons0 (op_storeAll hst 0 rfl Try.sizeOf29 rfl rfl rfl rfl (by simp [Value.oneCell']) (fun w59 hst => ?_))))))
   refine s_cons (op_assign (iV 3) rfl (s_nil (then_n (cE_ret (then_r (postG_r _ (rvN (cs := [(iV 0), (iV 0), (iV 0), (iV 0), (iV 0), (iV 0), (iV 0)]) Try.isAgg29 Try.sizeOf29 rfl (Pt.of (hst.cell 0 rfl) rfl) rfl (rvt (v := (iV 3)) rfl rvnil)) ?_))))))
   exact ⟨(retv2 (congrArg aggV (show (⟨0, 0, 0, 0, 0, 0, 0⟩ : Agg) = (joinA a b).1 from by (unfold joinA; (repeat' split) <;> first | rfl | (exfalso; simp_all; try omega)))) (congrArg iV (show 3 = (joinA a b).2 from by (unfold joinA; (repeat' split) <;> first | rfl | (exfalso; simp_all; try omega))))), hst.bare⟩
  refine s_no 16 rfl (congrArg Value.bool (congrArg (! ·) b51)) (s_no 16 rfl (congrArg Value.bool (congrArg (! ·) b51)) (s_no 16 rfl (congrArg Value.bool (congrArg (! ·) b51)) (s_no 16 rfl (congrArg Value.bool (congrArg (! ·) b51)) (s_no 16 rfl (congrArg Value.bool (congrArg (! ·) b51)) (s_no 16 rfl (congrArg Value.bool (congrArg (! ·) b51)) (s_cons (op_pick_t (.bool true) (congrArg Value.bool (congrArg (! ·) b51)) rfl ?_)))))))
  refine s_nil (then_n (cE_cond true rfl (fun _ => ?_) (fun h => by cases h)))
  refine cE_seq (cE_region rfl (s_cons (op_build (r := (.agg #[(iV 0), (iV 0), (iV 0), (iV 0), (iV 0), (iV 0), (iV 0)])) evp_nil (by simp [Instr.build, Instr.fill, Value.cells, Try.runUnderlying29, Try.zeroValue29]) (s_cons0 (op_storeAll hst 0 rfl Try.sizeOf29 rfl rfl rfl rfl (by simp [Value.oneCell']) (fun w60 hst => ?_))))))
  refine s_cons (op_assign (iV 1) rfl (s_nil (then_n (cE_ret (then_r (postG_r _ (rvN (cs := [(iV 0), (iV 0), (iV 0), (iV 0), (iV 0), (iV 0), (iV 0)]) Try.isAgg29 Try.sizeOf29 rfl (Pt.of (hst.cell 0 rfl) rfl) rfl (rvt (v := (iV 1)) rfl rvnil)) ?_))))))
  exact ⟨(retv2 (congrArg aggV (show (⟨0, 0, 0, 0, 0, 0, 0⟩ : Agg) = (joinA a b).1 from by (unfold joinA; (repeat' split) <;> first | rfl | (exfalso; simp_all; try omega)))) (congrArg iV (show 1 = (joinA a b).2 from by (unfold joinA; (repeat' split) <;> first | rfl | (exfalso; simp_all; try omega))))), hst.bare⟩
 refine s_no 11 rfl (congrArg Value.bool (congrArg (! ·) b49)) (s_no 11 rfl (congrArg Value.bool (congrArg (! ·) b49)) (s_no 11 rfl (congrArg Value.bool (congrArg (! ·) b49)) (s_cons (op_pick_t (.bool true) (congrArg Value.bool (congrArg (! ·) b49)) rfl (s_cons (op_move (.bool true) rfl (s_no 16 rfl rfl (s_no 16 rfl rfl (s_no 16 rfl rfl (s_no 16 rfl rfl (s_no 16 rfl rfl (s_no 16 rfl rfl ?_))))))))))))
 refine s_cons (op_pick_t (.bool true) rfl rfl (s_nil (then_n (cE_cond true rfl (fun _ => ?_) (fun h => by cases h)))))
 refine cE_seq (cE_region rfl (s_cons (op_build (r := (.agg #[(iV 0), (iV 0), (iV 0), (iV 0), (iV 0), (iV 0), (iV 0)])) evp_nil (by simp [Instr.build, Instr.fill, Value.cells, Try.runUnderlying29, Try.zeroValue29]) (s_cons0 (op_storeAll hst 0 rfl Try.sizeOf29 rfl rfl rfl rfl (by simp [Value.oneCell']) (fun w61 hst => ?_))))))
 refine s_cons (op_assign (iV 1) rfl (s_nil (then_n (cE_ret (then_r (postG_r _ (rvN (cs := [(iV 0), (iV 0), (iV 0), (iV 0), (iV 0), (iV 0), (iV 0)]) Try.isAgg29 Try.sizeOf29 rfl (Pt.of (hst.cell 0 rfl) rfl) rfl (rvt (v := (iV 1)) rfl rvnil)) ?_))))))
 exact ⟨(retv2 (congrArg aggV (show (⟨0, 0, 0, 0, 0, 0, 0⟩ : Agg) = (joinA a b).1 from by (unfold joinA; (repeat' split) <;> first | rfl | (exfalso; simp_all; try omega)))) (congrArg iV (show 1 = (joinA a b).2 from by (unfold joinA; (repeat' split) <;> first | rfl | (exfalso; simp_all; try omega))))), hst.bare⟩

set_option maxRecDepth 8000 in
set_option maxHeartbeats 2000000 in
theorem c_rAll (w0 : World) (v_l : Value) (l : List Sample) (h_l : Sl w0 sampE v_l l) (fr : Int) (hl : ∀ s ∈ l, s.ok) (fr0 : -9223372036854775808 ≤ fr) (fr1 : fr ≤ 9223372036854775807) (hn : l.length ≤ 1000000) :
  Calls Try.prog 33 #[v_l, (iV fr)] w0 fun e w' => e = .returned (.tuple #[(.agg (aggA ((allA l fr).1))), (iV ((allA l fr).2))]) ∧ St w0 w' [] := by
 refine calls_G (n := 50) (rs := [.cell 4 29, .tmp 5]) Try.func33 rfl rfl rfl (by simp) ?_
 have hst := St.start w0
 refine cE_seq (cE_region rfl (s_cons (op_alloc (cs := #[(iV 0), (iV 0), (iV 0), (iV 0), (iV 0), (iV 0), (iV 0)]) hst Try.zeroValue29 rfl (fun g62 w63 hst _ => ?_))))
 refine s_cons (op_assign (iV 0) rfl (s_nil (then_n (cE_seq (cE_seq (cE_region rfl (s_cons (op_move v_l rfl (s_cons (op_len (E := sampE) (xs := l) Try.underlying23 rfl h_l (s_cons (op_eql (k := .i64) (a := (l.length : Int)) (b := 0) rfl rfl (s_cons (op_move (.bool (decide ((l.length : Int) = 0))) rfl ?_))))))))))))))
 rcases Bool.eq_false_or_eq_true (decide ((l.length : Int) = 0)) with b64 | b64
 ·have c65 := of_decide_eq_true b64
  refine s_no 13 rfl (congrArg Value.bool b64) (s_no 13 rfl (congrArg Value.bool b64) (s_cons (op_pick_t (.bool true) (congrArg Value.bool b64) rfl (s_cons (op_move (.bool true) rfl (s_no 17 rfl rfl (s_no 17 rfl rfl (s_cons (op_pick_t (.bool true) rfl rfl (s_nil (then_n (cE_cond true rfl (fun _ => ?_) (fun h => by cases h)))))))))))))
  refine cE_seq (cE_region rfl (s_cons (op_build (r := (.agg #[(iV 0), (iV 0), (iV 0), (iV 0), (iV 0), (iV 0), (iV 0)])) evp_nil (by simp [Instr.build, Instr.fill, Value.cells, Try.runUnderlying29, Try.zeroValue29]) (s_cons0 (op_storeAll hst 0 rfl Try.sizeOf29 rfl rfl rfl rfl (by simp [Value.oneCell']) (fun w66 hst => ?_))))))
  refine s_cons (op_assign (iV 1) rfl (s_nil (then_n (cE_ret (then_r (postG_r _ (rvN (cs := [(iV 0), (iV 0), (iV 0), (iV 0), (iV 0), (iV 0), (iV 0)]) Try.isAgg29 Try.sizeOf29 rfl (Pt.of (hst.cell 0 rfl) rfl) rfl (rvt (v := (iV 1)) rfl rvnil)) ?_))))))
  exact ⟨(retv2 (congrArg aggV (show (⟨0, 0, 0, 0, 0, 0, 0⟩ : Agg) = (allA l fr).1 from by exact (congrArg Prod.fst (all_out (by omega))).symm)) (congrArg iV (show 1 = (allA l fr).2 from by exact (congrArg Prod.snd (all_out (by omega))).symm))), hst.bare⟩
 have c67 := of_decide_eq_false b64
 refine s_yes 13 rfl (congrArg Value.bool b64) (op_move (iV fr) rfl (s_yes 13 rfl (congrArg Value.bool b64) (op_lss (k := .i64) (a := fr) (b := 0) rfl rfl (s_cons (op_pick_f (.bool (decide (fr < 0))) (congrArg Value.bool b64) rfl (s_cons (op_move (.bool (decide (fr < 0))) rfl ?_)))))))
 rcases Bool.eq_false_or_eq_true (decide (fr < 0)) with b68 | b68
 ·have c69 := of_decide_eq_true b68
  refine s_no 17 rfl (congrArg Value.bool b68) (s_no 17 rfl (congrArg Value.bool b68) (s_cons (op_pick_t (.bool true) (congrArg Value.bool b68) rfl (s_nil (then_n (cE_cond true rfl (fun _ => ?_) (fun h => by cases h)))))))
  refine cE_seq (cE_region rfl (s_cons (op_build (r := (.agg #[(iV 0), (iV 0), (iV 0), (iV 0), (iV 0), (iV 0), (iV 0)])) evp_nil (by simp [Instr.build, Instr.fill, Value.cells, Try.runUnderlying29, Try.zeroValue29]) (s_cons0 (op_storeAll hst 0 rfl Try.sizeOf29 rfl rfl rfl rfl (by simp [Value.oneCell']) (fun w70 hst => ?_))))))
  refine s_cons (op_assign (iV 1) rfl (s_nil (then_n (cE_ret (then_r (postG_r _ (rvN (cs := [(iV 0), (iV 0), (iV 0), (iV 0), (iV 0), (iV 0), (iV 0)]) Try.isAgg29 Try.sizeOf29 rfl (Pt.of (hst.cell 0 rfl) rfl) rfl (rvt (v := (iV 1)) rfl rvnil)) ?_))))))
  exact ⟨(retv2 (congrArg aggV (show (⟨0, 0, 0, 0, 0, 0, 0⟩ : Agg) = (allA l fr).1 from by exact (congrArg Prod.fst (all_out (by omega))).symm)) (congrArg iV (show 1 = (allA l fr).2 from by exact (congrArg Prod.snd (all_out (by omega))).symm))), hst.bare⟩
 have c71 := of_decide_eq_false b68
 refine s_yes 17 rfl (congrArg Value.bool b68) (op_move (iV fr) rfl (s_yes 17 rfl (congrArg Value.bool b68) (op_gtr (k := .i64) (a := fr) (b := 1099511627776) rfl rfl (s_cons (op_pick_f (.bool (decide (1099511627776 < fr))) (congrArg Value.bool b68) rfl (s_nil (then_n ?_)))))))
 rcases Bool.eq_false_or_eq_true (decide (1099511627776 < fr)) with b72 | b72
 ·have c73 := of_decide_eq_true b72
  refine cE_cond true (congrArg Value.bool b72) (fun _ => ?_) (fun h => by cases h)
  refine cE_seq (cE_region rfl (s_cons (op_build (r := (.agg #[(iV 0), (iV 0), (iV 0), (iV 0), (iV 0), (iV 0), (iV 0)])) evp_nil (by simp [Instr.build, Instr.fill, Value.cells, Try.runUnderlying29, Try.zeroValue29]) (s_cons0 (op_storeAll hst 0 rfl Try.sizeOf29 rfl rfl rfl rfl (by simp [Value.oneCell']) (fun w74 hst => ?_))))))
  refine s_cons (op_assign (iV 1) rfl (s_nil (then_n (cE_ret (then_r (postG_r _ (rvN (cs := [(iV 0), (iV 0), (iV 0), (iV 0), (iV 0), (iV 0), (iV 0)]) Try.isAgg29 Try.sizeOf29 rfl (Pt.of (hst.cell 0 rfl) rfl) rfl (rvt (v := (iV 1)) rfl rvnil)) ?_))))))
  exact ⟨(retv2 (congrArg aggV (show (⟨0, 0, 0, 0, 0, 0, 0⟩ : Agg) = (allA l fr).1 from by exact (congrArg Prod.fst (all_out (by omega))).symm)) (congrArg iV (show 1 = (allA l fr).2 from by exact (congrArg Prod.snd (all_out (by omega))).symm))), hst.bare⟩
 have c75 := of_decide_eq_false b72
 refine cE_cond false (congrArg Value.bool b72) (fun h => by cases h) (fun _ => ?_)
 refine cE_skip (then_n (cE_seq (cE_region rfl (s_cons (op_move v_l rfl (s_cons (op_indexAddrN (E := sampE) (xs := l) 0 Try.underlying23 Try.sizeOf51 rfl h_l rfl (by omega) (by omega) (fun a76 o77 p78 => ?_))))))))
 refine s_cons (op_loadN (cs := [(iV ((l[0]'(by omega)).T)), (iV ((l[0]'(by omega)).V))]) Try.isAgg51 Try.sizeOf51 rfl (Pt.of (p78.below hst.below) rfl) rfl (s_cons (op_move (iV fr) rfl (s_cons (op_call Try.call45 (evs_cons (v := (.agg #[(iV ((l[0]'(by omega)).T)), (iV ((l[0]'(by omega)).V))])) rfl (evs_cons (v := (iV fr)) rfl evs_nil)) (c_rOne (w0 := w63) (s := (l[0]'(by omega))) (fr := fr)) ?_)))))
 rintro _ w79 ⟨rfl, hcall⟩
 refine ⟨_, rfl, ?_⟩
 have hst := hst.call hcall
 refine s_cons (op_alloc (cs := #[(iV 0), (iV 0), (iV 0), (iV 0), (iV 0), (iV 0), (iV 0)]) hst Try.zeroValue29 rfl (fun g80 w81 hst _ => ?_))
 refine s_cons0 (op_storeAll hst 0 rfl Try.sizeOf29 rfl rfl rfl rfl (by simp [Value.oneCell']) (fun w82 hst => ?_))
 refine s_nil (then_n (cE_seq (cE_seq (cE_region rfl (s_cons (op_assign (iV 1) rfl (s_nil (then_n (cE_block (cE_loop (fun (m : Nat) (ρ : Env) (w : World) => ∃ (acc : Agg) (i : Nat), m = l.length - i ∧ ρ 0 = v_l ∧ ρ 1 = (iV fr) ∧ ρ 4 = (.pointer (some ⟨g62, 0, none⟩)) ∧ ρ 6 = (.pointer (some ⟨g80, 0, none⟩)) ∧ ρ 7 = (iV (i : Int)) ∧ St w0 w [.blk g80 29 (aggA acc), .blk g62 29 #[(iV 0), (iV 0), (iV 0), (iV 0), (iV 0), (iV 0), (iV 0)]] ∧ (i ≤ l.length) ∧ acc.ok ∧ (mayP acc) ∧ (allA l fr = goA acc (l.drop i) fr)) id _ ⟨(⟨fr, 1, (l[0]'(by omega)).V, (l[0]'(by omega)).V, (l[0]'(by omega)).V, (l[0]'(by omega)).V, (l[0]'(by omega)).V⟩ : Agg), 1, rfl, rfl, rfl, rfl, rfl, (congrArg iV (show 1 = _ from by omega)), (hst.sub (.cons_cons _ (.cons_cons _ .slnil))), (by omega), (by exact oneA_ok (hl _ (List.getElem_mem _)).2 ⟨fr0, fr1⟩), (by exact one_may (by omega) (by omega)), (by exact all_one (by omega))⟩ ?_))))))))))
 rintro m84 ρ85 w86 ⟨acc, i, hm84, q83_0, q83_1, q83_4, q83_6, q83_7, hst, hi, hok, hmp, hI⟩
 have hel := fun (h : i < l.length) => oneA_ok (hl _ (List.getElem_mem h)).2 ⟨fr0, fr1⟩
 refine cE_seq (cE_seq (cE_region rfl (s_cons (op_move (iV (i : Int)) q83_7 (s_cons (op_move v_l q83_0 (s_cons (op_len (E := sampE) (xs := l) Try.underlying23 rfl h_l (s_cons (op_lss (k := .i64) (a := (i : Int)) (b := (l.length : Int)) rfl rfl (s_nil (then_n ?_))))))))))))
 rcases Bool.eq_false_or_eq_true (decide ((i : Int) < (l.length : Int))) with b87 | b87
 ·have c88 := of_decide_eq_true b87
  refine cE_cond true (congrArg Value.bool b87) (fun _ => ?_) (fun h => by cases h)
  refine cE_skip (then_n (cE_seq (cE_block (cE_seq (cE_regionM (fun (D : Nat → Bool) (w : World) => St w0 w [.blk g80 29 (aggA acc), .blk g62 29 #[(iV 0), (iV 0), (iV 0), (iV 0), (iV 0), (iV 0), (iV 0)]] ∧ (D 12 = false → St w0 w [.blk g80 29 (aggA acc), .blk g62 29 #[(iV 0), (iV 0), (iV 0), (iV 0), (iV 0), (iV 0), (iV 0)]]) ∧ (D 12 = true → St w0 w [.blk g80 29 (aggA acc), .blk g62 29 #[(iV 0), (iV 0), (iV 0), (iV 0), (iV 0), (iV 0), (iV 0)]])) [[(6, none)], [(0, none)], [(7, none)], [(35, some 1), (36, some 2)], [(37, some 3)], [(1, none)], [(38, some 4), (39, some 5)], [(34, some 0), (40, some 6)], [(41, some 7)], [(33, some 8)], [(33, some 8)], [], [(8, some 11), (42, some 9)], [(43, some 10)]] [12] [(kEq (.agg (aggA acc))), (kEq v_l), (kEq (iV (i : Int))), (kPt0 w0 [(iV ((l[i]'(by omega)).T)), (iV ((l[i]'(by omega)).V))]), (kEq (.agg #[(iV ((l[i]'(by omega)).T)), (iV ((l[i]'(by omega)).V))])), (kEq (iV fr)), (kEq (.agg #[(iV fr), (iV 1), (iV ((l[i]'(by omega)).V)), (iV ((l[i]'(by omega)).V)), (iV ((l[i]'(by omega)).V)), (iV ((l[i]'(by omega)).V)), (iV ((l[i]'(by omega)).V))])), (kEq (.tuple #[(.agg (aggA ((joinA acc (⟨fr, 1, (l[i]'(by omega)).V, (l[i]'(by omega)).V, (l[i]'(by omega)).V, (l[i]'(by omega)).V, (l[i]'(by omega)).V⟩ : Agg)).1))), (iV ((joinA acc (⟨fr, 1, (l[i]'(by omega)).V, (l[i]'(by omega)).V, (l[i]'(by omega)).V, (l[i]'(by omega)).V, (l[i]'(by omega)).V⟩ : Agg)).2))])), (kEq (.tuple #[(.agg (aggA ((joinA acc (⟨fr, 1, (l[i]'(by omega)).V, (l[i]'(by omega)).V, (l[i]'(by omega)).V, (l[i]'(by omega)).V, (l[i]'(by omega)).V⟩ : Agg)).1))), (iV ((joinA acc (⟨fr, 1, (l[i]'(by omega)).V, (l[i]'(by omega)).V, (l[i]'(by omega)).V, (l[i]'(by omega)).V, (l[i]'(by omega)).V⟩ : Agg)).2))])), (kEq (.agg (aggA ((joinA acc (⟨fr, 1, (l[i]'(by omega)).V, (l[i]'(by omega)).V, (l[i]'(by omega)).V, (l[i]'(by omega)).V, (l[i]'(by omega)).V⟩ : Agg)).1)))), (kEq (iV ((joinA acc (⟨fr, 1, (l[i]'(by omega)).V, (l[i]'(by omega)).V, (l[i]'(by omega)).V, (l[i]'(by omega)).V, (l[i]'(by omega)).V⟩ : Agg)).2))), (fun (D : Nat → Bool) (v : Value) (w : World) => ∃ g94 : Nat, v = .pointer (some ⟨g94, 0, none⟩) ∧ (D 12 = false → St w0 w [.blk g94 29 #[(iV 0), (iV 0), (iV 0), (iV 0), (iV 0), (iV 0), (iV 0)], .blk g80 29 (aggA acc), .blk g62 29 #[(iV 0), (iV 0), (iV 0), (iV 0), (iV 0), (iV 0), (iV 0)]]) ∧ (D 12 = true → St w0 w [.blk g94 29 (aggA ((joinA acc (⟨fr, 1, (l[i]'(by omega)).V, (l[i]'(by omega)).V, (l[i]'(by omega)).V, (l[i]'(by omega)).V, (l[i]'(by omega)).V⟩ : Agg)).1)), .blk g80 29 (aggA acc), .blk g62 29 #[(iV 0), (iV 0), (iV 0), (iV 0), (iV 0), (iV 0), (iV 0)]])), kAny, (kEq (iV ((joinA acc (⟨fr, 1, (l[i]'(by omega)).V, (l[i]'(by omega)).V, (l[i]'(by omega)).V, (l[i]'(by omega)).V, (l[i]'(by omega)).V⟩ : Agg)).2)))] ⟨mEq, mEq, mEq, mPt0, mEq, mEq, mEq, mEq, mEq, mEq, mEq, (fun D D' v w w' hD hb ⟨g, h1, h2⟩ => ⟨g, h1, (fun x0 => (h2.1 ((hD 12 (by decide)).symm.trans x0)).ext hb), (fun x0 => (h2.2 ((hD 12 (by decide)).symm.trans x0)).ext hb)⟩), mAny, mEq, trivial⟩ (by kernel_rfl) rfl (by kernel_rfl) ⟨hst.drewW.sub (.cons_cons _ (.cons_cons _ .slnil)), (fun _ => hst.drewW), (fun h => absurd h Bool.false_ne_true)⟩ (fun hM => ⟨?_, ?_, ?_, ?_, ?_, ?_, ?_, ?_, ?_, ?_, ?_, ?_, ?_, ?_, trivial⟩) ?_)))))
  ·rintro D ρo wo nD eD cD jD aD ⟨f6, _⟩
   have hst := jD.2.1 (not_yet nD (fun hm => (cD 12 0 hm (by kernel_rfl))))
   exact go_plain (op_loadN (cs := (aggC acc)) Try.isAgg29 Try.sizeOf29 (f6.trans q83_6) (Pt.of (hst.cell 0 rfl) rfl) rfl (kN0 (i := 0) hM (by decide) (by exact jD) (by exact rfl)))
  ·rintro D ρo wo nD eD cD jD aD ⟨f0, _⟩
   exact go_plain (op_move v_l (f0.trans q83_0) (kN0 (i := 1) hM (by decide) (by exact jD) (by exact rfl)))
  ·rintro D ρo wo nD eD cD jD aD ⟨f7, _⟩
   exact go_plain (op_move (iV (i : Int)) (f7.trans q83_7) (kN0 (i := 2) hM (by decide) (by exact jD) (by exact rfl)))
  ·rintro D ρo wo nD eD cD jD aD ⟨f35, f36, _⟩
   refine go_plain (op_indexAddrN (E := sampE) (xs := l) i Try.underlying23 Try.sizeOf51 f35 h_l f36 (by omega) (by omega) (fun a98 o99 p100 => ?_))
   exact (kN0 (i := 3) hM (by decide) (by exact jD) (by exact ⟨_, _, rfl, p100⟩))
  ·rintro D ρo wo nD eD cD jD aD ⟨f37, _⟩
   have hst := jD.2.1 (not_yet nD (fun hm => (cD 12 4 hm (by kernel_rfl))))
   obtain ⟨a101, o102, e103, p104⟩ := f37
   exact go_plain (op_loadN (cs := [(iV ((l[i]'(by omega)).T)), (iV ((l[i]'(by omega)).V))]) Try.isAgg51 Try.sizeOf51 e103 (Pt.of (p104.below hst.below) rfl) rfl (kN0 (i := 4) hM (by decide) (by exact jD) (by exact rfl)))
  ·rintro D ρo wo nD eD cD jD aD ⟨f1, _⟩
   exact go_plain (op_move (iV fr) (f1.trans q83_1) (kN0 (i := 5) hM (by decide) (by exact jD) (by exact rfl)))
  ·rintro D ρo wo nD eD cD jD aD ⟨f38, f39, _⟩
   refine go_plain (op_call Try.call45 (evs_cons (v := (.agg #[(iV ((l[i]'(by omega)).T)), (iV ((l[i]'(by omega)).V))])) f38 (evs_cons (v := (iV fr)) f39 evs_nil)) (c_rOne (w0 := wo) (s := (l[i]'(by omega))) (fr := fr)) ?_)
   rintro _ w105 ⟨rfl, hcall⟩
   refine ⟨_, rfl, ?_⟩
   exact kN (i := 6) hM (by decide) hcall.below (by exact ⟨(jD.1).ext hcall.below, (fun x0 => (jD.2.1 x0).ext hcall.below), (fun x0 => (jD.2.2 x0).ext hcall.below)⟩) (by exact rfl)
  ·rintro D ρo wo nD eD cD jD aD ⟨f34, f40, _⟩
   refine go_plain (op_call Try.call46 (evs_cons (v := (.agg (aggA acc))) f34 (evs_cons (v := (.agg #[(iV fr), (iV 1), (iV ((l[i]'(by omega)).V)), (iV ((l[i]'(by omega)).V)), (iV ((l[i]'(by omega)).V)), (iV ((l[i]'(by omega)).V)), (iV ((l[i]'(by omega)).V))])) f40 evs_nil)) (c_rJoin (w0 := wo) (a := acc) (b := (⟨fr, 1, (l[i]'(by omega)).V, (l[i]'(by omega)).V, (l[i]'(by omega)).V, (l[i]'(by omega)).V, (l[i]'(by omega)).V⟩ : Agg)) (ha := hok) (hb := (hel (by omega)))) ?_)
   rintro _ w106 ⟨rfl, hcall⟩
   refine ⟨_, rfl, ?_⟩
   exact kN (i := 7) hM (by decide) hcall.below (by exact ⟨(jD.1).ext hcall.below, (fun x0 => (jD.2.1 x0).ext hcall.below), (fun x0 => (jD.2.2 x0).ext hcall.below)⟩) (by exact rfl)
  ·rintro D ρo wo nD eD cD jD aD ⟨f41, _⟩
   exact go_plain (op_move (.tuple #[(.agg (aggA ((joinA acc (⟨fr, 1, (l[i]'(by omega)).V, (l[i]'(by omega)).V, (l[i]'(by omega)).V, (l[i]'(by omega)).V, (l[i]'(by omega)).V⟩ : Agg)).1))), (iV ((joinA acc (⟨fr, 1, (l[i]'(by omega)).V, (l[i]'(by omega)).V, (l[i]'(by omega)).V, (l[i]'(by omega)).V, (l[i]'(by omega)).V⟩ : Agg)).2))]) f41 (kN0 (i := 8) hM (by decide) (by exact jD) (by exact rfl)))
  ·rintro D ρo wo nD eD cD jD aD ⟨f33, _⟩
   exact go_plain (op_extract (.agg (aggA ((joinA acc (⟨fr, 1, (l[i]'(by omega)).V, (l[i]'(by omega)).V, (l[i]'(by omega)).V, (l[i]'(by omega)).V, (l[i]'(by omega)).V⟩ : Agg)).1))) f33 rfl (kN0 (i := 9) hM (by decide) (by exact jD) (by exact rfl)))
  ·rintro D ρo wo nD eD cD jD aD ⟨f33, _⟩
   exact go_plain (op_extract (iV ((joinA acc (⟨fr, 1, (l[i]'(by omega)).V, (l[i]'(by omega)).V, (l[i]'(by omega)).V, (l[i]'(by omega)).V, (l[i]'(by omega)).V⟩ : Agg)).2)) f33 rfl (kN0 (i := 10) hM (by decide) (by exact jD) (by exact rfl)))
  ·rintro D ρo wo nD eD cD jD aD ⟨_⟩
   have hst := jD.2.1 (not_yet nD (fun hm => (cD 12 11 hm (by kernel_rfl))))
   have hst := St.start wo
   refine go_plain (op_alloc (cs := #[(iV 0), (iV 0), (iV 0), (iV 0), (iV 0), (iV 0), (iV 0)]) hst Try.zeroValue29 rfl (fun g107 w108 hst _ => ?_))
   exact kN (i := 11) hM (by decide) hst.below (by exact ⟨(jD.1).ext hst.below, (fun x0 => (jD.2.1 x0).ext hst.below), (fun x0 => (jD.2.2 x0).ext hst.below)⟩) (by exact ⟨_, rfl, (fun y0 => (jD.2.1 y0).call hst), (fun y0 => absurd (show D 12 = true from y0) (by rw [(not_yet nD (fun hm => (cD 12 11 hm (by kernel_rfl))))]; decide))⟩)
  ·rintro D ρo wo nD eD cD jD aD ⟨f8, f42, _⟩
   obtain ⟨g109, e110, hh111⟩ := aD 11 8 (eD 11 (by kernel_rfl)) rfl
   have hst : St w0 wo [.blk g109 29 #[(iV 0), (iV 0), (iV 0), (iV 0), (iV 0), (iV 0), (iV 0)], .blk g80 29 (aggA acc), .blk g62 29 #[(iV 0), (iV 0), (iV 0), (iV 0), (iV 0), (iV 0), (iV 0)]] := hh111.1 nD
   refine go_plain (op_storeAll hst 0 rfl Try.sizeOf29 e110 f42 rfl rfl (by simp [Value.oneCell']) (fun w112 hst => ?_))
   refine ⟨by exact ⟨hst.sub (.cons _ (.cons_cons _ (.cons_cons _ .slnil))), (fun y0 => absurd y0 (fun h => Bool.noConfusion h)), (fun y0 => hst.sub (.cons _ (.cons_cons _ (.cons_cons _ .slnil))))⟩, by exact trivial, kX [11] (by exact ⟨Or.inr (Or.inr (Or.inr iEq)), Or.inr (Or.inr (Or.inr iEq)), Or.inr (Or.inr (Or.inr iEq)), Or.inr (Or.inr (Or.inr iPt0)), Or.inr (Or.inr (Or.inr iEq)), Or.inr (Or.inr (Or.inr iEq)), Or.inr (Or.inr (Or.inr iEq)), Or.inr (Or.inr (Or.inr iEq)), Or.inr (Or.inr (Or.inr iEq)), Or.inr (Or.inr (Or.inr iEq)), Or.inr (Or.inr (Or.inr iEq)), Or.inr (Or.inl (by decide)), Or.inl rfl, Or.inr (Or.inr (Or.inl (not_yet nD (fun hm => (cD 13 12 hm (by kernel_rfl)))))), trivial⟩) ?_⟩
   intro j d hj hjd hDj h
   simp only [List.mem_cons, List.not_mem_nil, or_false] at hj
   subst hj
   obtain rfl : 8 = d := Option.some.inj hjd
   exact ⟨_, e110, (fun y0 => absurd y0 (fun h => Bool.noConfusion h)), (fun y0 => hst.sub (.cons_cons _ (.cons_cons _ (.cons_cons _ .slnil))))⟩
  ·rintro D ρo wo nD eD cD jD aD ⟨f43, _⟩
   exact go_plain (op_assign (iV ((joinA acc (⟨fr, 1, (l[i]'(by omega)).V, (l[i]'(by omega)).V, (l[i]'(by omega)).V, (l[i]'(by omega)).V, (l[i]'(by omega)).V⟩ : Agg)).2)) f43 (kN0 (i := 13) hM (by decide) (by exact jD) (by exact rfl)))
  intro ρ114 w115 Dw115 hallw115 hJw115 hRw115 hkw115
  obtain ⟨g116, uw115_8, hhw115⟩ := hRw115 11 8 rfl
  have hst : St w0 w115 [.blk g116 29 (aggA ((joinA acc (⟨fr, 1, (l[i]'(by omega)).V, (l[i]'(by omega)).V, (l[i]'(by omega)).V, (l[i]'(by omega)).V, (l[i]'(by omega)).V⟩ : Agg)).1)), .blk g80 29 (aggA acc), .blk g62 29 #[(iV 0), (iV 0), (iV 0), (iV 0), (iV 0), (iV 0), (iV 0)]] := hhw115.2 (hallw115 12 (show 12 < 14 from by decide))
  have uw115_0 := (hkw115 0 rfl).trans q83_0
  have uw115_1 := (hkw115 1 rfl).trans q83_1
  have uw115_4 := (hkw115 4 rfl).trans q83_4
  have uw115_6 := (hkw115 6 rfl).trans q83_6
  have uw115_7 := (hkw115 7 rfl).trans q83_7
  have uw115_9 : ρ114 9 = (iV ((joinA acc (⟨fr, 1, (l[i]'(by omega)).V, (l[i]'(by omega)).V, (l[i]'(by omega)).V, (l[i]'(by omega)).V, (l[i]'(by omega)).V⟩ : Agg)).2)) := hRw115 13 9 rfl
  refine then_n (cE_seq (cE_seq (cE_region rfl (s_cons (op_move (iV ((joinA acc (⟨fr, 1, (l[i]'(by omega)).V, (l[i]'(by omega)).V, (l[i]'(by omega)).V, (l[i]'(by omega)).V, (l[i]'(by omega)).V⟩ : Agg)).2)) uw115_9 (s_cons (op_neq (k := .i64) (a := (joinA acc (⟨fr, 1, (l[i]'(by omega)).V, (l[i]'(by omega)).V, (l[i]'(by omega)).V, (l[i]'(by omega)).V, (l[i]'(by omega)).V⟩ : Agg)).2) (b := 0) rfl rfl ?_)))))))
  refine s_nil (then_n ?_)
  rcases Bool.eq_false_or_eq_true (decide (((joinA acc (⟨fr, 1, (l[i]'(by omega)).V, (l[i]'(by omega)).V, (l[i]'(by omega)).V, (l[i]'(by omega)).V, (l[i]'(by omega)).V⟩ : Agg)).2) = 0)) with b117 | b117
  ·have c118 := of_decide_eq_true b117
   refine cE_cond false (congrArg Value.bool (congrArg (! ·) b117)) (fun h => by cases h) (fun _ => ?_)
   refine cE_skip (then_n (cE_region rfl (s_cons (op_loadN (cs := (aggC ((joinA acc (⟨fr, 1, (l[i]'(by omega)).V, (l[i]'(by omega)).V, (l[i]'(by omega)).V, (l[i]'(by omega)).V, (l[i]'(by omega)).V⟩ : Agg)).1))) Try.isAgg29 Try.sizeOf29 uw115_8 (Pt.of (hst.cell 0 rfl) rfl) rfl (s_cons0 (op_storeAll hst 1 rfl Try.sizeOf29 uw115_6 rfl rfl rfl (by simp [Value.oneCell']) (fun w119 hst => ?_)))))))
   refine s_nil (block_n (then_n (cE_region rfl (s_cons (op_move (iV (i : Int)) uw115_7 (s_cons (op_add (k := .i64) (a := (i : Int)) (b := 1) ((i : Int) + 1) rfl rfl (xi64 (by omega) (by omega)) (s_cons (op_assign (iV ((i : Int) + 1)) rfl (s_nil (then_n ?_)))))))))))
   exact ⟨_, ⟨((joinA acc (⟨fr, 1, (l[i]'(by omega)).V, (l[i]'(by omega)).V, (l[i]'(by omega)).V, (l[i]'(by omega)).V, (l[i]'(by omega)).V⟩ : Agg)).1), (i + 1), rfl, uw115_0, uw115_1, uw115_4, uw115_6, (congrArg iV (show ((i : Int) + 1) = _ from by omega)), (hst.sub (.cons _ (.cons_cons _ (.cons_cons _ .slnil)))), (by omega), (by exact joinA_ok hok (hel (by omega))), (by exact join_may (by assumption)), (by exact hI.trans (go_of (by omega) (by omega) (by omega) (by assumption)))⟩, (by simp only [id]; omega)⟩
  have c120 := of_decide_eq_false b117
  refine cE_cond true (congrArg Value.bool (congrArg (! ·) b117)) (fun _ => ?_) (fun h => by cases h)
  refine cE_seq (cE_region rfl (s_cons (op_build (r := (.agg #[(iV 0), (iV 0), (iV 0), (iV 0), (iV 0), (iV 0), (iV 0)])) evp_nil (by simp [Instr.build, Instr.fill, Value.cells, Try.runUnderlying29, Try.zeroValue29]) (s_cons (op_move (iV ((joinA acc (⟨fr, 1, (l[i]'(by omega)).V, (l[i]'(by omega)).V, (l[i]'(by omega)).V, (l[i]'(by omega)).V, (l[i]'(by omega)).V⟩ : Agg)).2)) uw115_9 (s_cons0 (op_storeAll hst 2 rfl Try.sizeOf29 uw115_4 rfl rfl rfl (by simp [Value.oneCell']) (fun w121 hst => ?_))))))))
  refine s_cons (op_assign (iV ((joinA acc (⟨fr, 1, (l[i]'(by omega)).V, (l[i]'(by omega)).V, (l[i]'(by omega)).V, (l[i]'(by omega)).V, (l[i]'(by omega)).V⟩ : Agg)).2)) rfl (s_nil (then_n (cE_ret (then_r (block_r (then_r (then_r (block_r (then_r (postG_r _ (rvN (cs := [(iV 0), (iV 0), (iV 0), (iV 0), (iV 0), (iV 0), (iV 0)]) Try.isAgg29 Try.sizeOf29 uw115_4 (Pt.of (hst.cell 2 rfl) rfl) rfl (rvt (v := (iV ((joinA acc (⟨fr, 1, (l[i]'(by omega)).V, (l[i]'(by omega)).V, (l[i]'(by omega)).V, (l[i]'(by omega)).V, (l[i]'(by omega)).V⟩ : Agg)).2))) rfl rvnil)) ?_)))))))))))
  exact ⟨(retv2 (congrArg aggV (show (⟨0, 0, 0, 0, 0, 0, 0⟩ : Agg) = (allA l fr).1 from by exact (congrArg Prod.fst (hI.trans (go_stop (by omega) (by assumption)))).symm)) (congrArg iV (show (joinA acc (⟨fr, 1, (l[i]'(by omega)).V, (l[i]'(by omega)).V, (l[i]'(by omega)).V, (l[i]'(by omega)).V, (l[i]'(by omega)).V⟩ : Agg)).2 = (allA l fr).2 from by exact (congrArg Prod.snd (hI.trans (go_stop (by omega) (by assumption)))).symm))), hst.bare⟩
 have c122 := of_decide_eq_false b87
 refine cE_cond false (congrArg Value.bool b87) (fun h => by cases h) (fun _ => ?_)
 refine cE_exit (then_x (then_x (block_hit (then_n (cE_seq (cE_region rfl (s_cons (op_loadN (cs := (aggC acc)) Try.isAgg29 Try.sizeOf29 q83_6 (Pt.of (hst.cell 0 rfl) rfl) rfl (s_cons0 (op_storeAll hst 1 rfl Try.sizeOf29 q83_4 rfl rfl rfl (by simp [Value.oneCell']) (fun w123 hst => ?_)))))))))))
 refine s_cons (op_assign (iV 0) rfl (s_nil (then_n (cE_ret (postG_r _ (rvN (cs := (aggC acc)) Try.isAgg29 Try.sizeOf29 q83_4 (Pt.of (hst.cell 1 rfl) rfl) rfl (rvt (v := (iV 0)) rfl rvnil)) ?_)))))
 exact ⟨(retv2 (congrArg aggV (show acc = (allA l fr).1 from by exact (congrArg Prod.fst (hI.trans (go_end (by omega) hmp))).symm)) (congrArg iV (show 0 = (allA l fr).2 from by exact (congrArg Prod.snd (hI.trans (go_end (by omega) hmp))).symm))), hst.bare⟩

end Go.Proofs.Ytldfnkhccaglmaa
