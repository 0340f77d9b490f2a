/- twinkeepref1.One, twinkeepref1.Add, twinkeepref1.Join, twinkeepref1.All, twinkeepref1.Raw, twinkeepref1.Down -/
import Derived.Test.YthanfecefjfbjaaXLA
import Derived.Test.YthanfecefjfbjaaXW6
namespace Go.Proofs.Ythanfecefjfbjaa
open Go.RowKit

set_option maxRecDepth 8000 in
theorem c_rOne (w0 : World) (s : Sample) (fr : Int) :
  Calls Try.prog 23 #[(.agg #[(iV s.T), (iV s.V)]), (iV fr)] w0 fun e w' => e = .returned (.agg #[(iV fr), (iV 1), (iV s.V), (iV s.V), (iV s.V), (iV s.V), (iV s.V)]) ∧ St w0 w' [] := by
 refine calls_G (n := 17) (rs := [.cell 4 37]) Try.func23 rfl rfl rfl (by simp) ?_
 have hst := St.start w0
 refine cE_seq (cE_region rfl (s_cons (op_box (v := (.agg #[(iV s.T), (iV s.V)])) (cs := #[(iV s.T), (iV s.V)]) hst rfl rfl (fun g1 w2 hst _ => ?_))))
 refine s_cons (op_alloc (cs := #[(iV 0), (iV 0), (iV 0), (iV 0), (iV 0), (iV 0), (iV 0)]) hst Try.zeroValue37 rfl (fun g3 w4 hst _ => ?_))
 refine s_nil (then_n (cE_seq (cE_region rfl (s_cons (op_move (iV fr) rfl (s_cons (op_fieldAddr (s := 0) Try.underlying51 rfl rfl Try.sizeOf2 rfl (s_cons (op_load1 (u := (iV s.V)) Try.isAgg2 rfl ((hst.cell 1 rfl).drop 1) (s_cons (op_fieldAddr (s := 0) Try.underlying51 rfl rfl Try.sizeOf2 rfl (s_cons (op_load1 (u := (iV s.V)) Try.isAgg2 rfl ((hst.cell 1 rfl).drop 1) (s_cons (op_fieldAddr (s := 0) Try.underlying51 rfl rfl Try.sizeOf2 rfl ?_)))))))))))))))
 refine s_cons (op_load1 (u := (iV s.V)) Try.isAgg2 rfl ((hst.cell 1 rfl).drop 1) (s_cons (op_fieldAddr (s := 0) Try.underlying51 rfl rfl Try.sizeOf2 rfl (s_cons (op_load1 (u := (iV s.V)) Try.isAgg2 rfl ((hst.cell 1 rfl).drop 1) (s_cons (op_fieldAddr (s := 0) Try.underlying51 rfl rfl Try.sizeOf2 rfl (s_cons (op_load1 (u := (iV s.V)) Try.isAgg2 rfl ((hst.cell 1 rfl).drop 1) (s_cons (op_build (r := (.agg #[(iV fr), (iV 1), (iV s.V), (iV s.V), (iV s.V), (iV s.V), (iV s.V)])) (evp_cons (v := (iV fr)) rfl (evp_cons (v := (iV 1)) rfl (evp_cons (v := (iV s.V)) rfl (evp_cons (v := (iV s.V)) rfl (evp_cons (v := (iV s.V)) rfl (evp_cons (v := (iV s.V)) rfl (evp_cons (v := (iV s.V)) rfl evp_nil))))))) (by simp [Instr.build, Instr.fill, Value.cells, Try.runUnderlying37, Try.zeroValue37]) ?_)))))))))))
 refine s_cons0 (op_storeAll hst 0 rfl Try.sizeOf37 rfl rfl rfl rfl (by simp [Value.oneCell']) (fun w5 hst => ?_))
 refine s_nil (then_n (cE_ret (postG_r _ (rvN (cs := [(iV fr), (iV 1), (iV s.V), (iV s.V), (iV s.V), (iV s.V), (iV s.V)]) Try.isAgg37 Try.sizeOf37 rfl (Pt.of (hst.cell 0 rfl) rfl) rfl rvnil) ?_)))
 exact ⟨rfl, hst.bare⟩

set_option maxRecDepth 8000 in
theorem c_rAdd (w0 : World) (a : Int) (b : Int) (a0 : -9223372036854775808 ≤ a) (b0 : -9223372036854775808 ≤ b) (a1 : a ≤ 9223372036854775807) (b1 : b ≤ 9223372036854775807) :
  Calls Try.prog 57 #[(iV a), (iV b)] w0 fun e w' => e = .returned (.tuple #[(iV (addV a b)), (.bool (addB a b))]) ∧ St w0 w' [] := by
 have hws := wsum_cases (a := a) (b := b) ⟨a0, a1⟩ ⟨b0, b1⟩
 refine calls_E (n := 36) (ts := [4, 5]) Try.func57 rfl rfl rfl (by simp) ?_
 have hst := St.start w0
 refine cE_seq (cE_region rfl (s_cons (op_assign (iV 0) rfl (s_cons (op_assign (.bool false) rfl (s_nil (then_n (cE_seq (cE_region rfl (s_cons (op_move (iV a) rfl (s_cons (op_conv (k := .i64) (a := a) (a % 18446744073709551616) Try.underlying100 (by rw [Try.underlying2]; rfl) rfl (IntKind.wrap_u64 _) (s_cons (op_move (iV b) rfl (s_cons (op_conv (k := .i64) (a := b) (b % 18446744073709551616) Try.underlying100 (by rw [Try.underlying2]; rfl) rfl (IntKind.wrap_u64 _) ?_)))))))))))))))))
 refine s_cons (op_add (k := .u64) (a := (a % 18446744073709551616)) (b := (b % 18446744073709551616)) (((a % 18446744073709551616) + (b % 18446744073709551616)) % 18446744073709551616) rfl rfl (IntKind.wrap_u64 _) (s_cons (op_conv (k := .u64) (a := (((a % 18446744073709551616) + (b % 18446744073709551616)) % 18446744073709551616)) (wsum a b) Try.underlying2 (by rw [Try.underlying100]; rfl) rfl (add_wrap ⟨a0, a1⟩ ⟨b0, b1⟩) ?_)))
 refine s_cons (op_assign (iV (wsum a b)) rfl (s_nil (then_n (cE_seq (cE_seq (cE_region rfl (s_cons (op_move (iV a) rfl (s_cons (op_geq (k := .i64) (a := a) (b := 0) rfl rfl (s_cons (op_move (.bool (decide (0 ≤ a))) rfl ?_))))))))))))
 rcases Bool.eq_false_or_eq_true (decide (0 ≤ a)) with b6 | b6
 ·have c7 := of_decide_eq_true b6
  refine s_yes 15 rfl (congrArg Value.bool b6) (op_move (iV b) rfl (s_yes 15 rfl (congrArg Value.bool b6) (op_geq (k := .i64) (a := b) (b := 0) rfl rfl (s_cons (op_pick_t (.bool (decide (0 ≤ b))) (congrArg Value.bool b6) rfl (s_cons (op_move (.bool (decide (0 ≤ b))) rfl ?_)))))))
  rcases Bool.eq_false_or_eq_true (decide (0 ≤ b)) with b8 | b8
  ·have c9 := of_decide_eq_true b8
   refine s_yes 19 rfl (congrArg Value.bool b8) (op_move (iV (wsum a b)) rfl (s_yes 19 rfl (congrArg Value.bool b8) (op_lss (k := .i64) (a := (wsum a b)) (b := 0) rfl rfl (s_cons (op_pick_t (.bool (decide ((wsum a b) < 0))) (congrArg Value.bool b8) rfl (s_cons (op_move (.bool (decide ((wsum a b) < 0))) rfl ?_)))))))
   rcases Bool.eq_false_or_eq_true (decide ((wsum a b) < 0)) with b10 | b10
   ·have c11 := of_decide_eq_true b10
    refine s_no 23 rfl (congrArg Value.bool b10) (s_no 23 rfl (congrArg Value.bool b10) (s_no 23 rfl (congrArg Value.bool b10) (s_un 26 rfl rfl (s_un 26 rfl rfl (s_no 23 rfl (congrArg Value.bool b10) (s_no 23 rfl (congrArg Value.bool b10) (s_un 30 rfl rfl (s_un 30 rfl rfl (s_no 23 rfl (congrArg Value.bool b10) (s_cons (op_pick_t (.bool true) (congrArg Value.bool b10) rfl (s_nil (then_n ?_)))))))))))))
    refine cE_cond true rfl (fun _ => ?_) (fun h => by cases h)
    refine cE_seq (cE_region rfl (s_cons (op_assign (iV 0) rfl (s_cons (op_assign (.bool false) rfl (s_nil (then_n (cE_ret (then_r (post_r _ (res2 (v := (iV 0)) rfl (x := (.bool false)) rfl) ?_))))))))))
    exact ⟨(retv2 (congrArg iV (show 0 = (addV a b) from by (unfold addV; split <;> omega))) (congrArg Value.bool (show false = (addB a b) from by (rw [Bool.eq_iff_iff]; simp only [mayA, mayP, i64R, addB, agg_iff, true_and, and_true, decide_eq_true_eq, Bool.false_eq_true, true_iff, false_iff]; omega)))), hst.bare⟩
   have c12 := of_decide_eq_false b10
   refine s_yes 23 rfl (congrArg Value.bool b10) (op_move (iV a) rfl (s_yes 23 rfl (congrArg Value.bool b10) (op_lss (k := .i64) (a := a) (b := 0) rfl rfl (s_yes 23 rfl (congrArg Value.bool b10) (op_move (.bool (decide (a < 0))) rfl ?_)))))
   rcases Bool.eq_false_or_eq_true (decide (a < 0)) with b13 | b13
   ·have c14 := of_decide_eq_true b13
    refine s_yes 26 rfl (congrArg Value.bool b13) (op_move (iV b) rfl (s_yes 26 rfl (congrArg Value.bool b13) (op_lss (k := .i64) (a := b) (b := 0) rfl rfl (s_yes 23 rfl (congrArg Value.bool b10) (op_pick_t (.bool (decide (b < 0))) (congrArg Value.bool b13) rfl (s_yes 23 rfl (congrArg Value.bool b10) (op_move (.bool (decide (b < 0))) rfl ?_)))))))
    rcases Bool.eq_false_or_eq_true (decide (b < 0)) with b15 | b15
    ·have c16 := of_decide_eq_true b15
     refine s_yes 30 rfl (congrArg Value.bool b15) (op_move (iV (wsum a b)) rfl (s_yes 30 rfl (congrArg Value.bool b15) (op_geq (k := .i64) (a := (wsum a b)) (b := 0) rfl rfl (s_yes 23 rfl (congrArg Value.bool b10) (op_pick_t (.bool (decide (0 ≤ (wsum a b)))) (congrArg Value.bool b15) rfl (s_cons (op_pick_f (.bool (decide (0 ≤ (wsum a b)))) (congrArg Value.bool b10) rfl (s_nil (then_n ?_)))))))))
     rcases Bool.eq_false_or_eq_true (decide (0 ≤ (wsum a b))) with b17 | b17
     ·have c18 := of_decide_eq_true b17
      refine cE_cond true (congrArg Value.bool b17) (fun _ => ?_) (fun h => by cases h)
      refine cE_seq (cE_region rfl (s_cons (op_assign (iV 0) rfl (s_cons (op_assign (.bool false) rfl (s_nil (then_n (cE_ret (then_r (post_r _ (res2 (v := (iV 0)) rfl (x := (.bool false)) rfl) ?_))))))))))
      exact ⟨(retv2 (congrArg iV (show 0 = (addV a b) from by (unfold addV; split <;> omega))) (congrArg Value.bool (show false = (addB a b) from by (rw [Bool.eq_iff_iff]; simp only [mayA, mayP, i64R, addB, agg_iff, true_and, and_true, decide_eq_true_eq, Bool.false_eq_true, true_iff, false_iff]; omega)))), hst.bare⟩
     have c19 := of_decide_eq_false b17
     refine cE_cond false (congrArg Value.bool b17) (fun h => by cases h) (fun _ => ?_)
     refine cE_skip (then_n (cE_seq (cE_region rfl (s_cons (op_move (iV (wsum a b)) rfl (s_cons (op_assign (iV (wsum a b)) rfl (s_cons (op_assign (.bool true) rfl (s_nil (then_n (cE_ret (post_r _ (res2 (v := (iV (wsum a b))) rfl (x := (.bool true)) rfl) ?_)))))))))))))
     exact ⟨(retv2 (congrArg iV (show (wsum a b) = (addV a b) from by (unfold addV; split <;> omega))) (congrArg Value.bool (show true = (addB a b) from by (rw [Bool.eq_iff_iff]; simp only [mayA, mayP, i64R, addB, agg_iff, true_and, and_true, decide_eq_true_eq, Bool.false_eq_true, true_iff, false_iff]; omega)))), hst.bare⟩
    have c20 := of_decide_eq_false b15
    refine s_no 30 rfl (congrArg Value.bool b15) (s_no 30 rfl (congrArg Value.bool b15) (s_yes 23 rfl (congrArg Value.bool b10) (op_pick_f (.bool false) (congrArg Value.bool b15) rfl (s_cons (op_pick_f (.bool false) (congrArg Value.bool b10) rfl (s_nil (then_n (cE_cond false rfl (fun h => by cases h) (fun _ => ?_)))))))))
    refine cE_skip (then_n (cE_seq (cE_region rfl (s_cons (op_move (iV (wsum a b)) rfl (s_cons (op_assign (iV (wsum a b)) rfl (s_cons (op_assign (.bool true) rfl (s_nil (then_n (cE_ret (post_r _ (res2 (v := (iV (wsum a b))) rfl (x := (.bool true)) rfl) ?_)))))))))))))
    exact ⟨(retv2 (congrArg iV (show (wsum a b) = (addV a b) from by (unfold addV; split <;> omega))) (congrArg Value.bool (show true = (addB a b) from by (rw [Bool.eq_iff_iff]; simp only [mayA, mayP, i64R, addB, agg_iff, true_and, and_true, decide_eq_true_eq, Bool.false_eq_true, true_iff, false_iff]; omega)))), hst.bare⟩
   have c21 := of_decide_eq_false b13
   refine s_no 26 rfl (congrArg Value.bool b13) (s_no 26 rfl (congrArg Value.bool b13) (s_yes 23 rfl (congrArg Value.bool b10) (op_pick_f (.bool false) (congrArg Value.bool b13) rfl (s_yes 23 rfl (congrArg Value.bool b10) (op_move (.bool false) rfl (s_no 30 rfl rfl (s_no 30 rfl rfl (s_yes 23 rfl (congrArg Value.bool b10) (op_pick_f (.bool false) rfl rfl (s_cons (op_pick_f (.bool false) (congrArg Value.bool b10) rfl ?_)))))))))))
   refine s_nil (then_n (cE_cond false rfl (fun h => by cases h) (fun _ => ?_)))
   refine cE_skip (then_n (cE_seq (cE_region rfl (s_cons (op_move (iV (wsum a b)) rfl (s_cons (op_assign (iV (wsum a b)) rfl (s_cons (op_assign (.bool true) rfl (s_nil (then_n (cE_ret (post_r _ (res2 (v := (iV (wsum a b))) rfl (x := (.bool true)) rfl) ?_)))))))))))))
   exact ⟨(retv2 (congrArg iV (show (wsum a b) = (addV a b) from by (unfold addV; split <;> omega))) (congrArg Value.bool (show true = (addB a b) from by (rw [Bool.eq_iff_iff]; simp only [mayA, mayP, i64R, addB, agg_iff, true_and, and_true, decide_eq_true_eq, Bool.false_eq_true, true_iff, false_iff]; omega)))), hst.bare⟩
  have c22 := of_decide_eq_false b8
  refine s_no 19 rfl (congrArg Value.bool b8) (s_no 19 rfl (congrArg Value.bool b8) (s_cons (op_pick_f (.bool false) (congrArg Value.bool b8) rfl (s_cons (op_move (.bool false) rfl (s_yes 23 rfl rfl (op_move (iV a) rfl (s_yes 23 rfl rfl (op_lss (k := .i64) (a := a) (b := 0) rfl rfl (s_yes 23 rfl rfl (op_move (.bool (decide (a < 0))) rfl ?_)))))))))))
  rcases Bool.eq_false_or_eq_true (decide (a < 0)) with b23 | b23
  ·have c24 := of_decide_eq_true b23
   refine s_yes 26 rfl (congrArg Value.bool b23) (op_move (iV b) rfl (s_yes 26 rfl (congrArg Value.bool b23) (op_lss (k := .i64) (a := b) (b := 0) rfl rfl (s_yes 23 rfl rfl (op_pick_t (.bool (decide (b < 0))) (congrArg Value.bool b23) rfl (s_yes 23 rfl rfl (op_move (.bool (decide (b < 0))) rfl ?_)))))))
   rcases Bool.eq_false_or_eq_true (decide (b < 0)) with b25 | b25
   ·have c26 := of_decide_eq_true b25
    refine s_yes 30 rfl (congrArg Value.bool b25) (op_move (iV (wsum a b)) rfl (s_yes 30 rfl (congrArg Value.bool b25) (op_geq (k := .i64) (a := (wsum a b)) (b := 0) rfl rfl (s_yes 23 rfl rfl (op_pick_t (.bool (decide (0 ≤ (wsum a b)))) (congrArg Value.bool b25) rfl (s_cons (op_pick_f (.bool (decide (0 ≤ (wsum a b)))) rfl rfl (s_nil (then_n ?_)))))))))
    rcases Bool.eq_false_or_eq_true (decide (0 ≤ (wsum a b))) with b27 | b27
    ·have c28 := of_decide_eq_true b27
     refine cE_cond true (congrArg Value.bool b27) (fun _ => ?_) (fun h => by cases h)
     refine cE_seq (cE_region rfl (s_cons (op_assign (iV 0) rfl (s_cons (op_assign (.bool false) rfl (s_nil (then_n (cE_ret (then_r (post_r _ (res2 (v := (iV 0)) rfl (x := (.bool false)) rfl) ?_))))))))))
     exact ⟨(retv2 (congrArg iV (show 0 = (addV a b) from by (unfold addV; split <;> omega))) (congrArg Value.bool (show false = (addB a b) from by (rw [Bool.eq_iff_iff]; simp only [mayA, mayP, i64R, addB, agg_iff, true_and, and_true, decide_eq_true_eq, Bool.false_eq_true, true_iff, false_iff]; omega)))), hst.bare⟩
    have c29 := of_decide_eq_false b27
    refine cE_cond false (congrArg Value.bool b27) (fun h => by cases h) (fun _ => ?_)
    refine cE_skip (then_n (cE_seq (cE_region rfl (s_cons (op_move (iV (wsum a b)) rfl (s_cons (op_assign (iV (wsum a b)) rfl (s_cons (op_assign (.bool true) rfl (s_nil (then_n (cE_ret (post_r _ (res2 (v := (iV (wsum a b))) rfl (x := (.bool true)) rfl) ?_)))))))))))))
    exact ⟨(retv2 (congrArg iV (show (wsum a b) = (addV a b) from by (unfold addV; split <;> omega))) (congrArg Value.bool (show true = (addB a b) from by (rw [Bool.eq_iff_iff]; simp only [mayA, mayP, i64R, addB, agg_iff, true_and, and_true, decide_eq_true_eq, Bool.false_eq_true, true_iff, false_iff]; omega)))), hst.bare⟩
   have c30 := of_decide_eq_false b25
   refine s_no 30 rfl (congrArg Value.bool b25) (s_no 30 rfl (congrArg Value.bool b25) (s_yes 23 rfl rfl (op_pick_f (.bool false) (congrArg Value.bool b25) rfl (s_cons (op_pick_f (.bool false) rfl rfl (s_nil (then_n (cE_cond false rfl (fun h => by cases h) (fun _ => ?_)))))))))
   refine cE_skip (then_n (cE_seq (cE_region rfl (s_cons (op_move (iV (wsum a b)) rfl (s_cons (op_assign (iV (wsum a b)) rfl (s_cons (op_assign (.bool true) rfl (s_nil (then_n (cE_ret (post_r _ (res2 (v := (iV (wsum a b))) rfl (x := (.bool true)) rfl) ?_)))))))))))))
   exact ⟨(retv2 (congrArg iV (show (wsum a b) = (addV a b) from by (unfold addV; split <;> omega))) (congrArg Value.bool (show true = (addB a b) from by (rw [Bool.eq_iff_iff]; simp only [mayA, mayP, i64R, addB, agg_iff, true_and, and_true, decide_eq_true_eq, Bool.false_eq_true, true_iff, false_iff]; omega)))), hst.bare⟩
  have c31 := of_decide_eq_false b23
  refine s_no 26 rfl (congrArg Value.bool b23) (s_no 26 rfl (congrArg Value.bool b23) (s_yes 23 rfl rfl (op_pick_f (.bool false) (congrArg Value.bool b23) rfl (s_yes 23 rfl rfl (op_move (.bool false) rfl (s_no 30 rfl rfl (s_no 30 rfl rfl (s_yes 23 rfl rfl (op_pick_f (.bool false) rfl rfl (s_cons (op_pick_f (.bool false) rfl rfl (s_nil (then_n (cE_cond false rfl (fun h => by cases h) (fun _ => ?_)))))))))))))))
  refine cE_skip (then_n (cE_seq (cE_region rfl (s_cons (op_move (iV (wsum a b)) rfl (s_cons (op_assign (iV (wsum a b)) rfl (s_cons (op_assign (.bool true) rfl (s_nil (then_n (cE_ret (post_r _ (res2 (v := (iV (wsum a b))) rfl (x := (.bool true)) rfl) ?_)))))))))))))
  exact ⟨(retv2 (congrArg iV (show (wsum a b) = (addV a b) from by (unfold addV; split <;> omega))) (congrArg Value.bool (show true = (addB a b) from by (rw [Bool.eq_iff_iff]; simp only [mayA, mayP, i64R, addB, agg_iff, true_and, and_true, decide_eq_true_eq, Bool.false_eq_true, true_iff, false_iff]; omega)))), hst.bare⟩
 have c32 := of_decide_eq_false b6
 refine s_no 15 rfl (congrArg Value.bool b6) (s_no 15 rfl (congrArg Value.bool b6) (s_cons (op_pick_f (.bool false) (congrArg Value.bool b6) rfl (s_cons (op_move (.bool false) rfl (s_no 19 rfl rfl (s_no 19 rfl rfl (s_cons (op_pick_f (.bool false) rfl rfl (s_cons (op_move (.bool false) rfl (s_yes 23 rfl rfl (op_move (iV a) rfl (s_yes 23 rfl rfl (op_lss (k := .i64) (a := a) (b := 0) rfl rfl ?_)))))))))))))))
 refine s_yes 23 rfl rfl (op_move (.bool (decide (a < 0))) rfl ?_)
 rcases Bool.eq_false_or_eq_true (decide (a < 0)) with b33 | b33
 ·have c34 := of_decide_eq_true b33
  refine s_yes 26 rfl (congrArg Value.bool b33) (op_move (iV b) rfl (s_yes 26 rfl (congrArg Value.bool b33) (op_lss (k := .i64) (a := b) (b := 0) rfl rfl (s_yes 23 rfl rfl (op_pick_t (.bool (decide (b < 0))) (congrArg Value.bool b33) rfl (s_yes 23 rfl rfl (op_move (.bool (decide (b < 0))) rfl ?_)))))))
  rcases Bool.eq_false_or_eq_true (decide (b < 0)) with b35 | b35
  ·have c36 := of_decide_eq_true b35
   refine s_yes 30 rfl (congrArg Value.bool b35) (op_move (iV (wsum a b)) rfl (s_yes 30 rfl (congrArg Value.bool b35) (op_geq (k := .i64) (a := (wsum a b)) (b := 0) rfl rfl (s_yes 23 rfl rfl (op_pick_t (.bool (decide (0 ≤ (wsum a b)))) (congrArg Value.bool b35) rfl (s_cons (op_pick_f (.bool (decide (0 ≤ (wsum a b)))) rfl rfl (s_nil (then_n ?_)))))))))
   rcases Bool.eq_false_or_eq_true (decide (0 ≤ (wsum a b))) with b37 | b37
   ·have c38 := of_decide_eq_true b37
    refine cE_cond true (congrArg Value.bool b37) (fun _ => ?_) (fun h => by cases h)
    refine cE_seq (cE_region rfl (s_cons (op_assign (iV 0) rfl (s_cons (op_assign (.bool false) rfl (s_nil (then_n (cE_ret (then_r (post_r _ (res2 (v := (iV 0)) rfl (x := (.bool false)) rfl) ?_))))))))))
    exact ⟨(retv2 (congrArg iV (show 0 = (addV a b) from by (unfold addV; split <;> omega))) (congrArg Value.bool (show false = (addB a b) from by (rw [Bool.eq_iff_iff]; simp only [mayA, mayP, i64R, addB, agg_iff, true_and, and_true, decide_eq_true_eq, Bool.false_eq_true, true_iff, false_iff]; omega)))), hst.bare⟩
   have c39 := of_decide_eq_false b37
   refine cE_cond false (congrArg Value.bool b37) (fun h => by cases h) (fun _ => ?_)
   refine cE_skip (then_n (cE_seq (cE_region rfl (s_cons (op_move (iV (wsum a b)) rfl (s_cons (op_assign (iV (wsum a b)) rfl (s_cons (op_assign (.bool true) rfl (s_nil (then_n (cE_ret (post_r _ (res2 (v := (iV (wsum a b))) rfl (x := (.bool true)) rfl) ?_)))))))))))))
   exact ⟨(retv2 (congrArg iV (show (wsum a b) = (addV a b) from by (unfold addV; split <;> omega))) (congrArg Value.bool (show true = (addB a b) from by (rw [Bool.eq_iff_iff]; simp only [mayA, mayP, i64R, addB, agg_iff, true_and, and_true, decide_eq_true_eq, Bool.false_eq_true, true_iff, false_iff]; omega)))), hst.bare⟩
  have c40 := of_decide_eq_false b35
  refine s_no 30 rfl (congrArg Value.bool b35) (s_no 30 rfl (congrArg Value.bool b35) (s_yes 23 rfl rfl (op_pick_f (.bool false) (congrArg Value.bool b35) rfl (s_cons (op_pick_f (.bool false) rfl rfl (s_nil (then_n (cE_cond false rfl (fun h => by cases h) (fun _ => ?_)))))))))
  refine cE_skip (then_n (cE_seq (cE_region rfl (s_cons (op_move (iV (wsum a b)) rfl (s_cons (op_assign (iV (wsum a b)) rfl (s_cons (op_assign (.bool true) rfl (s_nil (then_n (cE_ret (post_r _ (res2 (v := (iV (wsum a b))) rfl (x := (.bool true)) rfl) ?_)))))))))))))
  exact ⟨(retv2 (congrArg iV (show (wsum a b) = (addV a b) from by (unfold addV; split <;> omega))) (congrArg Value.bool (show true = (addB a b) from by (rw [Bool.eq_iff_iff]; simp only [mayA, mayP, i64R, addB, agg_iff, true_and, and_true, decide_eq_true_eq, Bool.false_eq_true, true_iff, false_iff]; omega)))), hst.bare⟩
 have c41 := of_decide_eq_false b33
 refine s_no 26 rfl (congrArg Value.bool b33) (s_no 26 rfl (congrArg Value.bool b33) (s_yes 23 rfl rfl (op_pick_f (.bool false) (congrArg Value.bool b33) rfl (s_yes 23 rfl rfl (op_move (.bool false) rfl (s_no 30 rfl rfl (s_no 30 rfl rfl (s_yes 23 rfl rfl (op_pick_f (.bool false) rfl rfl (s_cons (op_pick_f (.bool false) rfl rfl (s_nil (then_n (cE_cond false rfl (fun h => by cases h) (fun _ => ?_)))))))))))))))
 refine cE_skip (then_n (cE_seq (cE_region rfl (s_cons (op_move (iV (wsum a b)) rfl (s_cons (op_assign (iV (wsum a b)) rfl (s_cons (op_assign (.bool true) rfl (s_nil (then_n (cE_ret (post_r _ (res2 (v := (iV (wsum a b))) rfl (x := (.bool true)) rfl) ?_)))))))))))))
 exact ⟨(retv2 (congrArg iV (show (wsum a b) = (addV a b) from by (unfold addV; split <;> omega))) (congrArg Value.bool (show true = (addB a b) from by (rw [Bool.eq_iff_iff]; simp only [mayA, mayP, i64R, addB, agg_iff, true_and, and_true, decide_eq_true_eq, Bool.false_eq_true, true_iff, false_iff]; omega)))), hst.bare⟩

set_option maxRecDepth 8000 in
set_option maxHeartbeats 4000000 in
theorem c_rJoin (w0 : World) (a : Agg) (b : Agg) (ha : a.ok) (hb : b.ok) :
  Calls Try.prog 35 #[(.agg (aggA a)), (.agg (aggA b))] w0 fun e w' => e = .returned (.tuple #[(.agg (aggA ((joinA a b).1))), (iV ((joinA a b).2))]) ∧ St w0 w' [] := by
 refine calls_G (n := 59) (rs := [.cell 4 37, .tmp 5]) Try.func35 rfl rfl rfl (by simp) ?_
 have hst := St.start w0
 refine cE_seq (cE_region rfl (s_cons (op_box (v := (.agg (aggA a))) (cs := (aggA a)) hst rfl rfl (fun g42 w43 hst _ => ?_))))
 refine s_cons (op_box (v := (.agg (aggA b))) (cs := (aggA b)) hst rfl rfl (fun g44 w45 hst _ => ?_))
 refine s_cons (op_alloc (cs := #[(iV 0), (iV 0), (iV 0), (iV 0), (iV 0), (iV 0), (iV 0)]) hst Try.zeroValue37 rfl (fun g46 w47 hst _ => ?_))
 refine s_cons (op_assign (iV 0) rfl (s_nil (then_n (cE_seq (cE_seq (cE_region rfl (s_cons (op_loadN (cs := (aggC a)) Try.isAgg37 Try.sizeOf37 rfl (Pt.of (hst.cell 2 rfl) rfl) rfl (s_cons (op_call Try.call56 (evs_cons (v := (.agg (aggA a))) rfl evs_nil) (c_rMay (w0 := w47) (a := a)) ?_))))))))))
 rintro _ w48 ⟨rfl, hcall⟩
 refine ⟨_, rfl, ?_⟩
 have hst := hst.call hcall
 refine s_cons (op_not (b := mayA a) rfl (s_cons (op_move (.bool (!(mayA a))) rfl ?_)))
 rcases Bool.eq_false_or_eq_true (mayA a) with b49 | b49
 ·have hma := mayA_true b49
  refine s_yes 11 rfl (congrArg Value.bool (congrArg (! ·) b49)) (op_loadN (cs := (aggC b)) Try.isAgg37 Try.sizeOf37 rfl (Pt.of (hst.cell 1 rfl) rfl) rfl (s_yes 11 rfl (congrArg Value.bool (congrArg (! ·) b49)) (op_call Try.call56 (evs_cons (v := (.agg (aggA b))) rfl evs_nil) (c_rMay (w0 := w48) (a := b)) ?_)))
  rintro _ w50 ⟨rfl, hcall⟩
  refine ⟨_, rfl, ?_⟩
  have hst := hst.call hcall
  refine s_yes 11 rfl (congrArg Value.bool (congrArg (! ·) b49)) (op_not (b := mayA b) rfl (s_cons (op_pick_f (.bool (!(mayA b))) (congrArg Value.bool (congrArg (! ·) b49)) rfl (s_cons (op_move (.bool (!(mayA b))) rfl ?_)))))
  rcases Bool.eq_false_or_eq_true (mayA b) with b51 | b51
  ·have hmb := mayA_true b51
   refine s_yes 16 rfl (congrArg Value.bool (congrArg (! ·) b51)) (op_fieldAddr (s := 0) Try.underlying37 rfl rfl Try.sizeOf2 rfl (s_yes 16 rfl (congrArg Value.bool (congrArg (! ·) b51)) (op_load1 (u := (iV a.Count)) Try.isAgg2 rfl ((hst.cell 2 rfl).drop 1) (s_yes 16 rfl (congrArg Value.bool (congrArg (! ·) b51)) (op_fieldAddr (s := 0) Try.underlying37 rfl rfl Try.sizeOf2 rfl (s_yes 16 rfl (congrArg Value.bool (congrArg (! ·) b51)) (op_load1 (u := (iV b.Count)) Try.isAgg2 rfl ((hst.cell 1 rfl).drop 1) ?_)))))))
   refine s_yes 16 rfl (congrArg Value.bool (congrArg (! ·) b51)) (op_add (k := .i64) (a := a.Count) (b := b.Count) (a.Count + b.Count) rfl rfl (xi64 (by omega) (by omega)) (s_yes 16 rfl (congrArg Value.bool (congrArg (! ·) b51)) (op_gtr (k := .i64) (a := (a.Count + b.Count)) (b := 1099511627776) rfl rfl (s_cons (op_pick_f (.bool (decide (1099511627776 < (a.Count + b.Count)))) (congrArg Value.bool (congrArg (! ·) b51)) rfl ?_)))))
   refine s_nil (then_n ?_)
   rcases Bool.eq_false_or_eq_true (decide (1099511627776 < (a.Count + b.Count))) with b52 | b52
   ·have c53 := of_decide_eq_true b52
    refine cE_cond true (congrArg Value.bool b52) (fun _ => ?_) (fun h => by cases h)
    refine cE_seq (cE_region rfl (s_cons (op_build (r := (.agg #[(iV 0), (iV 0), (iV 0), (iV 0), (iV 0), (iV 0), (iV 0)])) evp_nil (by simp [Instr.build, Instr.fill, Value.cells, Try.runUnderlying37, Try.zeroValue37]) (s_cons0 (op_storeAll hst 0 rfl Try.sizeOf37 rfl rfl rfl rfl (by simp [Value.oneCell']) (fun w54 hst => ?_))))))
    refine s_cons (op_assign (iV 1) rfl (s_nil (then_n (cE_ret (then_r (postG_r _ (rvN (cs := [(iV 0), (iV 0), (iV 0), (iV 0), (iV 0), (iV 0), (iV 0)]) Try.isAgg37 Try.sizeOf37 rfl (Pt.of (hst.cell 0 rfl) rfl) rfl (rvt (v := (iV 1)) rfl rvnil)) ?_))))))
    exact ⟨(retv2 (congrArg aggV (show (⟨0, 0, 0, 0, 0, 0, 0⟩ : Agg) = (joinA a b).1 from by (unfold joinA; (repeat' split) <;> first | rfl | (exfalso; simp_all; try omega)))) (congrArg iV (show 1 = (joinA a b).2 from by (unfold joinA; (repeat' split) <;> first | rfl | (exfalso; simp_all; try omega))))), hst.bare⟩
   have c55 := of_decide_eq_false b52
   refine cE_cond false (congrArg Value.bool b52) (fun h => by cases h) (fun _ => ?_)
   refine cE_skip (then_n (cE_seq (cE_region rfl (s_cons (op_fieldAddr (s := 0) Try.underlying37 rfl rfl Try.sizeOf2 rfl (s_cons (op_load1 (u := (iV a.Sum)) Try.isAgg2 rfl ((hst.cell 2 rfl).drop 2) (s_cons (op_fieldAddr (s := 0) Try.underlying37 rfl rfl Try.sizeOf2 rfl (s_cons (op_load1 (u := (iV b.Sum)) Try.isAgg2 rfl ((hst.cell 1 rfl).drop 2) (s_cons (op_call Try.call57 (evs_cons (v := (iV a.Sum)) rfl (evs_cons (v := (iV b.Sum)) rfl evs_nil)) (c_rAdd (w0 := w50) (a := a.Sum) (b := b.Sum) (a0 := (by omega)) (b0 := (by omega)) (a1 := (by omega)) (b1 := (by omega))) ?_)))))))))))))
   rintro _ w56 ⟨rfl, hcall⟩
   refine ⟨_, rfl, ?_⟩
   have hst := hst.call hcall
   refine s_cons (op_move (.tuple #[(iV (addV a.Sum b.Sum)), (.bool (addB a.Sum b.Sum))]) rfl (s_cons (op_extract (iV (addV a.Sum b.Sum)) rfl rfl (s_cons (op_extract (.bool (addB a.Sum b.Sum)) rfl rfl (s_cons (op_assign (iV (addV a.Sum b.Sum)) rfl (s_cons (op_assign (.bool (addB a.Sum b.Sum)) rfl (s_nil (then_n (cE_seq (cE_seq (cE_region rfl (s_cons (op_move (.bool (addB a.Sum b.Sum)) rfl ?_))))))))))))))))
   refine s_cons (op_not (b := addB a.Sum b.Sum) rfl (s_nil (then_n ?_)))
   rcases Bool.eq_false_or_eq_true (addB a.Sum b.Sum) with b57 | b57
   ·refine cE_cond false (congrArg Value.bool (congrArg (! ·) b57)) (fun h => by cases h) (fun _ => ?_)
    refine cE_skip (then_n (cE_seq (cE_region rfl (s_cons (op_fieldAddr (s := 0) Try.underlying37 rfl rfl Try.sizeOf2 rfl (s_cons (op_load1 (u := (iV a.From)) Try.isAgg2 rfl (hst.cell 2 rfl) (s_cons (op_fieldAddr (s := 0) Try.underlying37 rfl rfl Try.sizeOf2 rfl (s_cons (op_load1 (u := (iV a.Count)) Try.isAgg2 rfl ((hst.cell 2 rfl).drop 1) (s_cons (op_fieldAddr (s := 0) Try.underlying37 rfl rfl Try.sizeOf2 rfl ?_)))))))))))))
    refine s_cons (op_load1 (u := (iV b.Count)) Try.isAgg2 rfl ((hst.cell 1 rfl).drop 1) (s_cons (op_add (k := .i64) (a := a.Count) (b := b.Count) (a.Count + b.Count) rfl rfl (xi64 (by omega) (by omega)) (s_cons (op_move (iV (addV a.Sum b.Sum)) rfl (s_cons (op_fieldAddr (s := 0) Try.underlying37 rfl rfl Try.sizeOf2 rfl (s_cons (op_load1 (u := (iV a.Min)) Try.isAgg2 rfl ((hst.cell 2 rfl).drop 3) ?_)))))))))
    refine s_cons (op_fieldAddr (s := 0) Try.underlying37 rfl rfl Try.sizeOf2 rfl (s_cons (op_load1 (u := (iV b.Min)) Try.isAgg2 rfl ((hst.cell 1 rfl).drop 3) (s_cons (op_min2 (k := .i64) (a := a.Min) (b := b.Min) rfl rfl (s_cons (op_fieldAddr (s := 0) Try.underlying37 rfl rfl Try.sizeOf2 rfl (s_cons (op_load1 (u := (iV a.Max)) Try.isAgg2 rfl ((hst.cell 2 rfl).drop 4) (s_cons (op_fieldAddr (s := 0) Try.underlying37 rfl rfl Try.sizeOf2 rfl ?_)))))))))))
    refine s_cons (op_load1 (u := (iV b.Max)) Try.isAgg2 rfl ((hst.cell 1 rfl).drop 4) (s_cons (op_max2 (k := .i64) (a := a.Max) (b := b.Max) rfl rfl (s_cons (op_fieldAddr (s := 0) Try.underlying37 rfl rfl Try.sizeOf2 rfl (s_cons (op_load1 (u := (iV a.First)) Try.isAgg2 rfl ((hst.cell 2 rfl).drop 5) (s_cons (op_fieldAddr (s := 0) Try.underlying37 rfl rfl Try.sizeOf2 rfl (s_cons (op_load1 (u := (iV b.Last)) Try.isAgg2 rfl ((hst.cell 1 rfl).drop 6) ?_)))))))))))
    refine s_cons (op_build (r := (.agg #[(iV a.From), (iV (a.Count + b.Count)), (iV (addV a.Sum b.Sum)), (iV (min a.Min b.Min)), (iV (max a.Max b.Max)), (iV a.First), (iV b.Last)])) (evp_cons (v := (iV a.From)) rfl (evp_cons (v := (iV (a.Count + b.Count))) rfl (evp_cons (v := (iV (addV a.Sum b.Sum))) rfl (evp_cons (v := (iV (min a.Min b.Min))) rfl (evp_cons (v := (iV (max a.Max b.Max))) rfl (evp_cons (v := (iV a.First)) rfl (evp_cons (v := (iV b.Last)) rfl evp_nil))))))) (by simp [Instr.build, Instr.fill, Value.cells, Try.runUnderlying37, Try.zeroValue37]) ?_)
    refine s_cons0 (op_storeAll hst 0 rfl Try.sizeOf37 rfl rfl rfl rfl (by simp [Value.oneCell']) (fun w58 hst => ?_))
    refine s_cons (op_assign (iV 0) rfl (s_nil (then_n (cE_ret (postG_r _ (rvN (cs := [(iV a.From), (iV (a.Count + b.Count)), (iV (addV a.Sum b.Sum)), (iV (min a.Min b.Min)), (iV (max a.Max b.Max)), (iV a.First), (iV b.Last)]) Try.isAgg37 Try.sizeOf37 rfl (Pt.of (hst.cell 0 rfl) rfl) rfl (rvt (v := (iV 0)) rfl rvnil)) ?_)))))
    exact ⟨(retv2 (congrArg aggV (show (⟨a.From, (a.Count + b.Count), (addV a.Sum b.Sum), (min a.Min b.Min), (max a.Max b.Max), a.First, b.Last⟩ : Agg) = (joinA a b).1 from by (unfold joinA; (repeat' split) <;> first | rfl | (exfalso; simp_all; try omega)))) (congrArg iV (show 0 = (joinA a b).2 from by (unfold joinA; (repeat' split) <;> first | rfl | (exfalso; simp_all; try omega))))), hst.bare⟩
   refine cE_cond true (congrArg Value.bool (congrArg (! ·) b57)) (fun _ => ?_) (fun h => by cases h)
   refine cE_seq (cE_region rfl (s_cons (op_build (r := (.agg #[(iV 0), (iV 0), (iV 0), (iV 0), (iV 0), (iV 0), (iV 0)])) evp_nil (by simp [Instr.build, Instr.fill, Value.cells, Try.runUnderlying37, Try.zeroValue37]) (s_cons0 (op_storeAll hst 0 rfl Try.sizeOf37 rfl rfl rfl rfl (by simp [Value.oneCell']) (fun w59 hst => ?_))))))
   refine s_cons (op_assign (iV 3) rfl (s_nil (then_n (cE_ret (then_r (postG_r _ (rvN (cs := [(iV 0), (iV 0), (iV 0), (iV 0), (iV 0), (iV 0), (iV 0)]) Try.isAgg37 Try.sizeOf37 rfl (Pt.of (hst.cell 0 rfl) rfl) rfl (rvt (v := (iV 3)) rfl rvnil)) ?_))))))
   exact ⟨(retv2 (congrArg aggV (show (⟨0, 0, 0, 0, 0, 0, 0⟩ : Agg) = (joinA a b).1 from by (unfold joinA; (repeat' split) <;> first | rfl | (exfalso; simp_all; try omega)))) (congrArg iV (show 3 = (joinA a b).2 from by (unfold joinA; (repeat' split) <;> first | rfl | (exfalso; simp_all; try omega))))), hst.bare⟩
  refine s_no 16 rfl (congrArg Value.bool (congrArg (! ·) b51)) (s_no 16 rfl (congrArg Value.bool (congrArg (! ·) b51)) (s_no 16 rfl (congrArg Value.bool (congrArg (! ·) b51)) (s_no 16 rfl (congrArg Value.bool (congrArg (! ·) b51)) (s_no 16 rfl (congrArg Value.bool (congrArg (! ·) b51)) (s_no 16 rfl (congrArg Value.bool (congrArg (! ·) b51)) (s_cons (op_pick_t (.bool true) (congrArg Value.bool (congrArg (! ·) b51)) rfl ?_)))))))
  refine s_nil (then_n (cE_cond true rfl (fun _ => ?_) (fun h => by cases h)))
  refine cE_seq (cE_region rfl (s_cons (op_build (r := (.agg #[(iV 0), (iV 0), (iV 0), (iV 0), (iV 0), (iV 0), (iV 0)])) evp_nil (by simp [Instr.build, Instr.fill, Value.cells, Try.runUnderlying37, Try.zeroValue37]) (s_cons0 (op_storeAll hst 0 rfl Try.sizeOf37 rfl rfl rfl rfl (by simp [Value.oneCell']) (fun w60 hst => ?_))))))
  refine s_cons (op_assign (iV 1) rfl (s_nil (then_n (cE_ret (then_r (postG_r _ (rvN (cs := [(iV 0), (iV 0), (iV 0), (iV 0), (iV 0), (iV 0), (iV 0)]) Try.isAgg37 Try.sizeOf37 rfl (Pt.of (hst.cell 0 rfl) rfl) rfl (rvt (v := (iV 1)) rfl rvnil)) ?_))))))
  exact ⟨(retv2 (congrArg aggV (show (⟨0, 0, 0, 0, 0, 0, 0⟩ : Agg) = (joinA a b).1 from by (unfold joinA; (repeat' split) <;> first | rfl | (exfalso; simp_all; try omega)))) (congrArg iV (show 1 = (joinA a b).2 from by (unfold joinA; (repeat' split) <;> first | rfl | (exfalso; simp_all; try omega))))), hst.bare⟩
 refine s_no 11 rfl (congrArg Value.bool (congrArg (! ·) b49)) (s_no 11 rfl (congrArg Value.bool (congrArg (! ·) b49)) (s_no 11 rfl (congrArg Value.bool (congrArg (! ·) b49)) (s_cons (op_pick_t (.bool true) (congrArg Value.bool (congrArg (! ·) b49)) rfl (s_cons (op_move (.bool true) rfl (s_no 16 rfl rfl (s_no 16 rfl rfl (s_no 16 rfl rfl (s_no 16 rfl rfl (s_no 16 rfl rfl (s_no 16 rfl rfl ?_))))))))))))
 refine s_cons (op_pick_t (.bool true) rfl rfl (s_nil (then_n (cE_cond true rfl (fun _ => ?_) (fun h => by cases h)))))
 refine cE_seq (cE_region rfl (s_cons (op_build (r := (.agg #[(iV 0), (iV 0), (iV 0), (iV 0), (iV 0), (iV 0), (iV 0)])) evp_nil (by simp [Instr.build, Instr.fill, Value.cells, Try.runUnderlying37, Try.zeroValue37]) (s_cons0 (op_storeAll hst 0 rfl Try.sizeOf37 rfl rfl rfl rfl (by simp [Value.oneCell']) (fun w61 hst => ?_))))))
 refine s_cons (op_assign (iV 1) rfl (s_nil (then_n (cE_ret (then_r (postG_r _ (rvN (cs := [(iV 0), (iV 0), (iV 0), (iV 0), (iV 0), (iV 0), (iV 0)]) Try.isAgg37 Try.sizeOf37 rfl (Pt.of (hst.cell 0 rfl) rfl) rfl (rvt (v := (iV 1)) rfl rvnil)) ?_))))))
 exact ⟨(retv2 (congrArg aggV (show (⟨0, 0, 0, 0, 0, 0, 0⟩ : Agg) = (joinA a b).1 from by (unfold joinA; (repeat' split) <;> first | rfl | (exfalso; simp_all; try omega)))) (congrArg iV (show 1 = (joinA a b).2 from by (unfold joinA; (repeat' split) <;> first | rfl | (exfalso; simp_all; try omega))))), hst.bare⟩

set_option maxRecDepth 8000 in
set_option maxHeartbeats 2000000 in
theorem c_rAll (w0 : World) (v_l : Value) (l : List Sample) (h_l : Sl w0 sampE v_l l) (fr : Int) (hl : ∀ s ∈ l, s.ok) (fr0 : -9223372036854775808 ≤ fr) (fr1 : fr ≤ 9223372036854775807) (hn : l.length ≤ 1000000) :
  Calls Try.prog 22 #[v_l, (iV fr)] w0 fun e w' => e = .returned (.tuple #[(.agg (aggA ((allA l fr).1))), (iV ((allA l fr).2))]) ∧ St w0 w' [] := by
 refine calls_G (n := 50) (rs := [.cell 4 37, .tmp 5]) Try.func22 rfl rfl rfl (by simp) ?_
 have hst := St.start w0
 refine cE_seq (cE_region rfl (s_cons (op_alloc (cs := #[(iV 0), (iV 0), (iV 0), (iV 0), (iV 0), (iV 0), (iV 0)]) hst Try.zeroValue37 rfl (fun g62 w63 hst _ => ?_))))
 refine s_cons (op_assign (iV 0) rfl (s_nil (then_n (cE_seq (cE_seq (cE_region rfl (s_cons (op_move v_l rfl (s_cons (op_len (E := sampE) (xs := l) Try.underlying22 rfl h_l (s_cons (op_eql (k := .i64) (a := (l.length : Int)) (b := 0) rfl rfl (s_cons (op_move (.bool (decide ((l.length : Int) = 0))) rfl ?_))))))))))))))
 rcases Bool.eq_false_or_eq_true (decide ((l.length : Int) = 0)) with b64 | b64
 ·have c65 := of_decide_eq_true b64
  refine s_no 13 rfl (congrArg Value.bool b64) (s_no 13 rfl (congrArg Value.bool b64) (s_cons (op_pick_t (.bool true) (congrArg Value.bool b64) rfl (s_cons (op_move (.bool true) rfl (s_no 17 rfl rfl (s_no 17 rfl rfl (s_cons (op_pick_t (.bool true) rfl rfl (s_nil (then_n (cE_cond true rfl (fun _ => ?_) (fun h => by cases h)))))))))))))
  refine cE_seq (cE_region rfl (s_cons (op_build (r := (.agg #[(iV 0), (iV 0), (iV 0), (iV 0), (iV 0), (iV 0), (iV 0)])) evp_nil (by simp [Instr.build, Instr.fill, Value.cells, Try.runUnderlying37, Try.zeroValue37]) (s_cons0 (op_storeAll hst 0 rfl Try.sizeOf37 rfl rfl rfl rfl (by simp [Value.oneCell']) (fun w66 hst => ?_))))))
  refine s_cons (op_assign (iV 1) rfl (s_nil (then_n (cE_ret (then_r (postG_r _ (rvN (cs := [(iV 0), (iV 0), (iV 0), (iV 0), (iV 0), (iV 0), (iV 0)]) Try.isAgg37 Try.sizeOf37 rfl (Pt.of (hst.cell 0 rfl) rfl) rfl (rvt (v := (iV 1)) rfl rvnil)) ?_))))))
  exact ⟨(retv2 (congrArg aggV (show (⟨0, 0, 0, 0, 0, 0, 0⟩ : Agg) = (allA l fr).1 from by exact (congrArg Prod.fst (all_out (by omega))).symm)) (congrArg iV (show 1 = (allA l fr).2 from by exact (congrArg Prod.snd (all_out (by omega))).symm))), hst.bare⟩
 have c67 := of_decide_eq_false b64
 refine s_yes 13 rfl (congrArg Value.bool b64) (op_move (iV fr) rfl (s_yes 13 rfl (congrArg Value.bool b64) (op_lss (k := .i64) (a := fr) (b := 0) rfl rfl (s_cons (op_pick_f (.bool (decide (fr < 0))) (congrArg Value.bool b64) rfl (s_cons (op_move (.bool (decide (fr < 0))) rfl ?_)))))))
 rcases Bool.eq_false_or_eq_true (decide (fr < 0)) with b68 | b68
 ·have c69 := of_decide_eq_true b68
  refine s_no 17 rfl (congrArg Value.bool b68) (s_no 17 rfl (congrArg Value.bool b68) (s_cons (op_pick_t (.bool true) (congrArg Value.bool b68) rfl (s_nil (then_n (cE_cond true rfl (fun _ => ?_) (fun h => by cases h)))))))
  refine cE_seq (cE_region rfl (s_cons (op_build (r := (.agg #[(iV 0), (iV 0), (iV 0), (iV 0), (iV 0), (iV 0), (iV 0)])) evp_nil (by simp [Instr.build, Instr.fill, Value.cells, Try.runUnderlying37, Try.zeroValue37]) (s_cons0 (op_storeAll hst 0 rfl Try.sizeOf37 rfl rfl rfl rfl (by simp [Value.oneCell']) (fun w70 hst => ?_))))))
  refine s_cons (op_assign (iV 1) rfl (s_nil (then_n (cE_ret (then_r (postG_r _ (rvN (cs := [(iV 0), (iV 0), (iV 0), (iV 0), (iV 0), (iV 0), (iV 0)]) Try.isAgg37 Try.sizeOf37 rfl (Pt.of (hst.cell 0 rfl) rfl) rfl (rvt (v := (iV 1)) rfl rvnil)) ?_))))))
  exact ⟨(retv2 (congrArg aggV (show (⟨0, 0, 0, 0, 0, 0, 0⟩ : Agg) = (allA l fr).1 from by exact (congrArg Prod.fst (all_out (by omega))).symm)) (congrArg iV (show 1 = (allA l fr).2 from by exact (congrArg Prod.snd (all_out (by omega))).symm))), hst.bare⟩
 have c71 := of_decide_eq_false b68
 refine s_yes 17 rfl (congrArg Value.bool b68) (op_move (iV fr) rfl (s_yes 17 rfl (congrArg Value.bool b68) (op_gtr (k := .i64) (a := fr) (b := 1099511627776) rfl rfl (s_cons (op_pick_f (.bool (decide (1099511627776 < fr))) (congrArg Value.bool b68) rfl (s_nil (then_n ?_)))))))
 rcases Bool.eq_false_or_eq_true (decide (1099511627776 < fr)) with b72 | b72
 ·have c73 := of_decide_eq_true b72
  refine cE_cond true (congrArg Value.bool b72) (fun _ => ?_) (fun h => by cases h)
  refine cE_seq (cE_region rfl (s_cons (op_build (r := (.agg #[(iV 0), (iV 0), (iV 0), (iV 0), (iV 0), (iV 0), (iV 0)])) evp_nil (by simp [Instr.build, Instr.fill, Value.cells, Try.runUnderlying37, Try.zeroValue37]) (s_cons0 (op_storeAll hst 0 rfl Try.sizeOf37 rfl rfl rfl rfl (by simp [Value.oneCell']) (fun w74 hst => ?_))))))
  refine s_cons (op_assign (iV 1) rfl (s_nil (then_n (cE_ret (then_r (postG_r _ (rvN (cs := [(iV 0), (iV 0), (iV 0), (iV 0), (iV 0), (iV 0), (iV 0)]) Try.isAgg37 Try.sizeOf37 rfl (Pt.of (hst.cell 0 rfl) rfl) rfl (rvt (v := (iV 1)) rfl rvnil)) ?_))))))
  exact ⟨(retv2 (congrArg aggV (show (⟨0, 0, 0, 0, 0, 0, 0⟩ : Agg) = (allA l fr).1 from by exact (congrArg Prod.fst (all_out (by omega))).symm)) (congrArg iV (show 1 = (allA l fr).2 from by exact (congrArg Prod.snd (all_out (by omega))).symm))), hst.bare⟩
 have c75 := of_decide_eq_false b72
 refine cE_cond false (congrArg Value.bool b72) (fun h => by cases h) (fun _ => ?_)
 refine cE_skip (then_n (cE_seq (cE_region rfl (s_cons (op_move v_l rfl (s_cons (op_indexAddrN (E := sampE) (xs := l) 0 Try.underlying22 Try.sizeOf51 rfl h_l rfl (by omega) (by omega) (fun a76 o77 p78 => ?_))))))))
 refine s_cons (op_loadN (cs := [(iV ((l[0]'(by omega)).T)), (iV ((l[0]'(by omega)).V))]) Try.isAgg51 Try.sizeOf51 rfl (Pt.of (p78.below hst.below) rfl) rfl (s_cons (op_move (iV fr) rfl (s_cons (op_call Try.call23 (evs_cons (v := (.agg #[(iV ((l[0]'(by omega)).T)), (iV ((l[0]'(by omega)).V))])) rfl (evs_cons (v := (iV fr)) rfl evs_nil)) (c_rOne (w0 := w63) (s := (l[0]'(by omega))) (fr := fr)) ?_)))))
 rintro _ w79 ⟨rfl, hcall⟩
 refine ⟨_, rfl, ?_⟩
 have hst := hst.call hcall
 refine s_cons (op_alloc (cs := #[(iV 0), (iV 0), (iV 0), (iV 0), (iV 0), (iV 0), (iV 0)]) hst Try.zeroValue37 rfl (fun g80 w81 hst _ => ?_))
 refine s_cons0 (op_storeAll hst 0 rfl Try.sizeOf37 rfl rfl rfl rfl (by simp [Value.oneCell']) (fun w82 hst => ?_))
 refine s_nil (then_n (cE_seq (cE_seq (cE_region rfl (s_cons (op_assign (iV 1) rfl (s_nil (then_n (cE_block (cE_loop (fun (m : Nat) (ρ : Env) (w : World) => ∃ (acc : Agg) (i : Nat), m = l.length - i ∧ ρ 0 = v_l ∧ ρ 1 = (iV fr) ∧ ρ 4 = (.pointer (some ⟨g62, 0, none⟩)) ∧ ρ 6 = (.pointer (some ⟨g80, 0, none⟩)) ∧ ρ 7 = (iV (i : Int)) ∧ St w0 w [.blk g80 37 (aggA acc), .blk g62 37 #[(iV 0), (iV 0), (iV 0), (iV 0), (iV 0), (iV 0), (iV 0)]] ∧ (i ≤ l.length) ∧ acc.ok ∧ (mayP acc) ∧ (allA l fr = goA acc (l.drop i) fr)) id _ ⟨(⟨fr, 1, (l[0]'(by omega)).V, (l[0]'(by omega)).V, (l[0]'(by omega)).V, (l[0]'(by omega)).V, (l[0]'(by omega)).V⟩ : Agg), 1, rfl, rfl, rfl, rfl, rfl, (congrArg iV (show 1 = _ from by omega)), (hst.sub (.cons_cons _ (.cons_cons _ .slnil))), (by omega), (by exact oneA_ok (hl _ (List.getElem_mem _)).2 ⟨fr0, fr1⟩), (by exact one_may (by omega) (by omega)), (by exact all_one (by omega))⟩ ?_))))))))))
 rintro m84 ρ85 w86 ⟨acc, i, hm84, q83_0, q83_1, q83_4, q83_6, q83_7, hst, hi, hok, hmp, hI⟩
 have hel := fun (h : i < l.length) => oneA_ok (hl _ (List.getElem_mem h)).2 ⟨fr0, fr1⟩
 refine cE_seq (cE_seq (cE_region rfl (s_cons (op_move (iV (i : Int)) q83_7 (s_cons (op_move v_l q83_0 (s_cons (op_len (E := sampE) (xs := l) Try.underlying22 rfl h_l (s_cons (op_lss (k := .i64) (a := (i : Int)) (b := (l.length : Int)) rfl rfl (s_nil (then_n ?_))))))))))))
 rcases Bool.eq_false_or_eq_true (decide ((i : Int) < (l.length : Int))) with b87 | b87
 ·have c88 := of_decide_eq_true b87
  refine cE_cond true (congrArg Value.bool b87) (fun _ => ?_) (fun h => by cases h)
  refine cE_skip (then_n (cE_seq (cE_block (cE_seq (cE_regionM (fun (D : Nat → Bool) (w : World) => St w0 w [.blk g80 37 (aggA acc), .blk g62 37 #[(iV 0), (iV 0), (iV 0), (iV 0), (iV 0), (iV 0), (iV 0)]] ∧ (D 12 = false → St w0 w [.blk g80 37 (aggA acc), .blk g62 37 #[(iV 0), (iV 0), (iV 0), (iV 0), (iV 0), (iV 0), (iV 0)]]) ∧ (D 12 = true → St w0 w [.blk g80 37 (aggA acc), .blk g62 37 #[(iV 0), (iV 0), (iV 0), (iV 0), (iV 0), (iV 0), (iV 0)]])) [[(6, none)], [(0, none)], [(7, none)], [(35, some 1), (36, some 2)], [(37, some 3)], [(1, none)], [(38, some 4), (39, some 5)], [(34, some 0), (40, some 6)], [(41, some 7)], [(33, some 8)], [(33, some 8)], [], [(8, some 11), (42, some 9)], [(43, some 10)]] [12] [(kEq (.agg (aggA acc))), (kEq v_l), (kEq (iV (i : Int))), (kPt0 w0 [(iV ((l[i]'(by omega)).T)), (iV ((l[i]'(by omega)).V))]), (kEq (.agg #[(iV ((l[i]'(by omega)).T)), (iV ((l[i]'(by omega)).V))])), (kEq (iV fr)), (kEq (.agg #[(iV fr), (iV 1), (iV ((l[i]'(by omega)).V)), (iV ((l[i]'(by omega)).V)), (iV ((l[i]'(by omega)).V)), (iV ((l[i]'(by omega)).V)), (iV ((l[i]'(by omega)).V))])), (kEq (.tuple #[(.agg (aggA ((joinA acc (⟨fr, 1, (l[i]'(by omega)).V, (l[i]'(by omega)).V, (l[i]'(by omega)).V, (l[i]'(by omega)).V, (l[i]'(by omega)).V⟩ : Agg)).1))), (iV ((joinA acc (⟨fr, 1, (l[i]'(by omega)).V, (l[i]'(by omega)).V, (l[i]'(by omega)).V, (l[i]'(by omega)).V, (l[i]'(by omega)).V⟩ : Agg)).2))])), (kEq (.tuple #[(.agg (aggA ((joinA acc (⟨fr, 1, (l[i]'(by omega)).V, (l[i]'(by omega)).V, (l[i]'(by omega)).V, (l[i]'(by omega)).V, (l[i]'(by omega)).V⟩ : Agg)).1))), (iV ((joinA acc (⟨fr, 1, (l[i]'(by omega)).V, (l[i]'(by omega)).V, (l[i]'(by omega)).V, (l[i]'(by omega)).V, (l[i]'(by omega)).V⟩ : Agg)).2))])), (kEq (.agg (aggA ((joinA acc (⟨fr, 1, (l[i]'(by omega)).V, (l[i]'(by omega)).V, (l[i]'(by omega)).V, (l[i]'(by omega)).V, (l[i]'(by omega)).V⟩ : Agg)).1)))), (kEq (iV ((joinA acc (⟨fr, 1, (l[i]'(by omega)).V, (l[i]'(by omega)).V, (l[i]'(by omega)).V, (l[i]'(by omega)).V, (l[i]'(by omega)).V⟩ : Agg)).2))), (fun (D : Nat → Bool) (v : Value) (w : World) => ∃ g94 : Nat, v = .pointer (some ⟨g94, 0, none⟩) ∧ (D 12 = false → St w0 w [.blk g94 37 #[(iV 0), (iV 0), (iV 0), (iV 0), (iV 0), (iV 0), (iV 0)], .blk g80 37 (aggA acc), .blk g62 37 #[(iV 0), (iV 0), (iV 0), (iV 0), (iV 0), (iV 0), (iV 0)]]) ∧ (D 12 = true → St w0 w [.blk g94 37 (aggA ((joinA acc (⟨fr, 1, (l[i]'(by omega)).V, (l[i]'(by omega)).V, (l[i]'(by omega)).V, (l[i]'(by omega)).V, (l[i]'(by omega)).V⟩ : Agg)).1)), .blk g80 37 (aggA acc), .blk g62 37 #[(iV 0), (iV 0), (iV 0), (iV 0), (iV 0), (iV 0), (iV 0)]])), kAny, (kEq (iV ((joinA acc (⟨fr, 1, (l[i]'(by omega)).V, (l[i]'(by omega)).V, (l[i]'(by omega)).V, (l[i]'(by omega)).V, (l[i]'(by omega)).V⟩ : Agg)).2)))] ⟨mEq, mEq, mEq, mPt0, mEq, mEq, mEq, mEq, mEq, mEq, mEq, (fun D D' v w w' hD hb ⟨g, h1, h2⟩ => ⟨g, h1, (fun x0 => (h2.1 ((hD 12 (by decide)).symm.trans x0)).ext hb), (fun x0 => (h2.2 ((hD 12 (by decide)).symm.trans x0)).ext hb)⟩), mAny, mEq, trivial⟩ (by kernel_rfl) rfl (by kernel_rfl) ⟨hst.drewW.sub (.cons_cons _ (.cons_cons _ .slnil)), (fun _ => hst.drewW), (fun h => absurd h Bool.false_ne_true)⟩ (fun hM => ⟨?_, ?_, ?_, ?_, ?_, ?_, ?_, ?_, ?_, ?_, ?_, ?_, ?_, ?_, trivial⟩) ?_)))))
  ·rintro D ρo wo nD eD cD jD aD ⟨f6, _⟩
   have hst := jD.2.1 (not_yet nD (fun hm => (cD 12 0 hm (by kernel_rfl))))
   exact go_plain (op_loadN (cs := (aggC acc)) Try.isAgg37 Try.sizeOf37 (f6.trans q83_6) (Pt.of (hst.cell 0 rfl) rfl) rfl (kN0 (i := 0) hM (by decide) (by exact jD) (by exact rfl)))
  ·rintro D ρo wo nD eD cD jD aD ⟨f0, _⟩
   exact go_plain (op_move v_l (f0.trans q83_0) (kN0 (i := 1) hM (by decide) (by exact jD) (by exact rfl)))
  ·rintro D ρo wo nD eD cD jD aD ⟨f7, _⟩
   exact go_plain (op_move (iV (i : Int)) (f7.trans q83_7) (kN0 (i := 2) hM (by decide) (by exact jD) (by exact rfl)))
  ·rintro D ρo wo nD eD cD jD aD ⟨f35, f36, _⟩
   refine go_plain (op_indexAddrN (E := sampE) (xs := l) i Try.underlying22 Try.sizeOf51 f35 h_l f36 (by omega) (by omega) (fun a98 o99 p100 => ?_))
   exact (kN0 (i := 3) hM (by decide) (by exact jD) (by exact ⟨_, _, rfl, p100⟩))
  ·rintro D ρo wo nD eD cD jD aD ⟨f37, _⟩
   have hst := jD.2.1 (not_yet nD (fun hm => (cD 12 4 hm (by kernel_rfl))))
   obtain ⟨a101, o102, e103, p104⟩ := f37
   exact go_plain (op_loadN (cs := [(iV ((l[i]'(by omega)).T)), (iV ((l[i]'(by omega)).V))]) Try.isAgg51 Try.sizeOf51 e103 (Pt.of (p104.below hst.below) rfl) rfl (kN0 (i := 4) hM (by decide) (by exact jD) (by exact rfl)))
  ·rintro D ρo wo nD eD cD jD aD ⟨f1, _⟩
   exact go_plain (op_move (iV fr) (f1.trans q83_1) (kN0 (i := 5) hM (by decide) (by exact jD) (by exact rfl)))
  ·rintro D ρo wo nD eD cD jD aD ⟨f38, f39, _⟩
   refine go_plain (op_call Try.call23 (evs_cons (v := (.agg #[(iV ((l[i]'(by omega)).T)), (iV ((l[i]'(by omega)).V))])) f38 (evs_cons (v := (iV fr)) f39 evs_nil)) (c_rOne (w0 := wo) (s := (l[i]'(by omega))) (fr := fr)) ?_)
   rintro _ w105 ⟨rfl, hcall⟩
   refine ⟨_, rfl, ?_⟩
   exact kN (i := 6) hM (by decide) hcall.below (by exact ⟨(jD.1).ext hcall.below, (fun x0 => (jD.2.1 x0).ext hcall.below), (fun x0 => (jD.2.2 x0).ext hcall.below)⟩) (by exact rfl)
  ·rintro D ρo wo nD eD cD jD aD ⟨f34, f40, _⟩
   refine go_plain (op_call Try.call35 (evs_cons (v := (.agg (aggA acc))) f34 (evs_cons (v := (.agg #[(iV fr), (iV 1), (iV ((l[i]'(by omega)).V)), (iV ((l[i]'(by omega)).V)), (iV ((l[i]'(by omega)).V)), (iV ((l[i]'(by omega)).V)), (iV ((l[i]'(by omega)).V))])) f40 evs_nil)) (c_rJoin (w0 := wo) (a := acc) (b := (⟨fr, 1, (l[i]'(by omega)).V, (l[i]'(by omega)).V, (l[i]'(by omega)).V, (l[i]'(by omega)).V, (l[i]'(by omega)).V⟩ : Agg)) (ha := hok) (hb := (hel (by omega)))) ?_)
   rintro _ w106 ⟨rfl, hcall⟩
   refine ⟨_, rfl, ?_⟩
   exact kN (i := 7) hM (by decide) hcall.below (by exact ⟨(jD.1).ext hcall.below, (fun x0 => (jD.2.1 x0).ext hcall.below), (fun x0 => (jD.2.2 x0).ext hcall.below)⟩) (by exact rfl)
  ·rintro D ρo wo nD eD cD jD aD ⟨f41, _⟩
   exact go_plain (op_move (.tuple #[(.agg (aggA ((joinA acc (⟨fr, 1, (l[i]'(by omega)).V, (l[i]'(by omega)).V, (l[i]'(by omega)).V, (l[i]'(by omega)).V, (l[i]'(by omega)).V⟩ : Agg)).1))), (iV ((joinA acc (⟨fr, 1, (l[i]'(by omega)).V, (l[i]'(by omega)).V, (l[i]'(by omega)).V, (l[i]'(by omega)).V, (l[i]'(by omega)).V⟩ : Agg)).2))]) f41 (kN0 (i := 8) hM (by decide) (by exact jD) (by exact rfl)))
  ·rintro D ρo wo nD eD cD jD aD ⟨f33, _⟩
   exact go_plain (op_extract (.agg (aggA ((joinA acc (⟨fr, 1, (l[i]'(by omega)).V, (l[i]'(by omega)).V, (l[i]'(by omega)).V, (l[i]'(by omega)).V, (l[i]'(by omega)).V⟩ : Agg)).1))) f33 rfl (kN0 (i := 9) hM (by decide) (by exact jD) (by exact rfl)))
  ·rintro D ρo wo nD eD cD jD aD ⟨f33, _⟩
   exact go_plain (op_extract (iV ((joinA acc (⟨fr, 1, (l[i]'(by omega)).V, (l[i]'(by omega)).V, (l[i]'(by omega)).V, (l[i]'(by omega)).V, (l[i]'(by omega)).V⟩ : Agg)).2)) f33 rfl (kN0 (i := 10) hM (by decide) (by exact jD) (by exact rfl)))
  ·rintro D ρo wo nD eD cD jD aD ⟨_⟩
   have hst := jD.2.1 (not_yet nD (fun hm => (cD 12 11 hm (by kernel_rfl))))
   have hst := St.start wo
   refine go_plain (op_alloc (cs := #[(iV 0), (iV 0), (iV 0), (iV 0), (iV 0), (iV 0), (iV 0)]) hst Try.zeroValue37 rfl (fun g107 w108 hst _ => ?_))
   exact kN (i := 11) hM (by decide) hst.below (by exact ⟨(jD.1).ext hst.below, (fun x0 => (jD.2.1 x0).ext hst.below), (fun x0 => (jD.2.2 x0).ext hst.below)⟩) (by exact ⟨_, rfl, (fun y0 => (jD.2.1 y0).call hst), (fun y0 => absurd (show D 12 = true from y0) (by rw [(not_yet nD (fun hm => (cD 12 11 hm (by kernel_rfl))))]; decide))⟩)
  ·rintro D ρo wo nD eD cD jD aD ⟨f8, f42, _⟩
   obtain ⟨g109, e110, hh111⟩ := aD 11 8 (eD 11 (by kernel_rfl)) rfl
   have hst : St w0 wo [.blk g109 37 #[(iV 0), (iV 0), (iV 0), (iV 0), (iV 0), (iV 0), (iV 0)], .blk g80 37 (aggA acc), .blk g62 37 #[(iV 0), (iV 0), (iV 0), (iV 0), (iV 0), (iV 0), (iV 0)]] := hh111.1 nD
   refine go_plain (op_storeAll hst 0 rfl Try.sizeOf37 e110 f42 rfl rfl (by simp [Value.oneCell']) (fun w112 hst => ?_))
   refine ⟨by exact ⟨hst.sub (.cons _ (.cons_cons _ (.cons_cons _ .slnil))), (fun y0 => absurd y0 (fun h => Bool.noConfusion h)), (fun y0 => hst.sub (.cons _ (.cons_cons _ (.cons_cons _ .slnil))))⟩, by exact trivial, kX [11] (by exact ⟨Or.inr (Or.inr (Or.inr iEq)), Or.inr (Or.inr (Or.inr iEq)), Or.inr (Or.inr (Or.inr iEq)), Or.inr (Or.inr (Or.inr iPt0)), Or.inr (Or.inr (Or.inr iEq)), Or.inr (Or.inr (Or.inr iEq)), Or.inr (Or.inr (Or.inr iEq)), Or.inr (Or.inr (Or.inr iEq)), Or.inr (Or.inr (Or.inr iEq)), Or.inr (Or.inr (Or.inr iEq)), Or.inr (Or.inr (Or.inr iEq)), Or.inr (Or.inl (by decide)), Or.inl rfl, Or.inr (Or.inr (Or.inl (not_yet nD (fun hm => (cD 13 12 hm (by kernel_rfl)))))), trivial⟩) ?_⟩
   intro j d hj hjd hDj h
   simp only [List.mem_cons, List.not_mem_nil, or_false] at hj
   subst hj
   obtain rfl : 8 = d := Option.some.inj hjd
   exact ⟨_, e110, (fun y0 => absurd y0 (fun h => Bool.noConfusion h)), (fun y0 => hst.sub (.cons_cons _ (.cons_cons _ (.cons_cons _ .slnil))))⟩
  ·rintro D ρo wo nD eD cD jD aD ⟨f43, _⟩
   exact go_plain (op_assign (iV ((joinA acc (⟨fr, 1, (l[i]'(by omega)).V, (l[i]'(by omega)).V, (l[i]'(by omega)).V, (l[i]'(by omega)).V, (l[i]'(by omega)).V⟩ : Agg)).2)) f43 (kN0 (i := 13) hM (by decide) (by exact jD) (by exact rfl)))
  intro ρ114 w115 Dw115 hallw115 hJw115 hRw115 hkw115
  obtain ⟨g116, uw115_8, hhw115⟩ := hRw115 11 8 rfl
  have hst : St w0 w115 [.blk g116 37 (aggA ((joinA acc (⟨fr, 1, (l[i]'(by omega)).V, (l[i]'(by omega)).V, (l[i]'(by omega)).V, (l[i]'(by omega)).V, (l[i]'(by omega)).V⟩ : Agg)).1)), .blk g80 37 (aggA acc), .blk g62 37 #[(iV 0), (iV 0), (iV 0), (iV 0), (iV 0), (iV 0), (iV 0)]] := hhw115.2 (hallw115 12 (show 12 < 14 from by decide))
  have uw115_0 := (hkw115 0 rfl).trans q83_0
  have uw115_1 := (hkw115 1 rfl).trans q83_1
  have uw115_4 := (hkw115 4 rfl).trans q83_4
  have uw115_6 := (hkw115 6 rfl).trans q83_6
  have uw115_7 := (hkw115 7 rfl).trans q83_7
  have uw115_9 : ρ114 9 = (iV ((joinA acc (⟨fr, 1, (l[i]'(by omega)).V, (l[i]'(by omega)).V, (l[i]'(by omega)).V, (l[i]'(by omega)).V, (l[i]'(by omega)).V⟩ : Agg)).2)) := hRw115 13 9 rfl
  refine then_n (cE_seq (cE_seq (cE_region rfl (s_cons (op_move (iV ((joinA acc (⟨fr, 1, (l[i]'(by omega)).V, (l[i]'(by omega)).V, (l[i]'(by omega)).V, (l[i]'(by omega)).V, (l[i]'(by omega)).V⟩ : Agg)).2)) uw115_9 (s_cons (op_neq (k := .i64) (a := (joinA acc (⟨fr, 1, (l[i]'(by omega)).V, (l[i]'(by omega)).V, (l[i]'(by omega)).V, (l[i]'(by omega)).V, (l[i]'(by omega)).V⟩ : Agg)).2) (b := 0) rfl rfl ?_)))))))
  refine s_nil (then_n ?_)
  rcases Bool.eq_false_or_eq_true (decide (((joinA acc (⟨fr, 1, (l[i]'(by omega)).V, (l[i]'(by omega)).V, (l[i]'(by omega)).V, (l[i]'(by omega)).V, (l[i]'(by omega)).V⟩ : Agg)).2) = 0)) with b117 | b117
  ·have c118 := of_decide_eq_true b117
   refine cE_cond false (congrArg Value.bool (congrArg (! ·) b117)) (fun h => by cases h) (fun _ => ?_)
   refine cE_skip (then_n (cE_region rfl (s_cons (op_loadN (cs := (aggC ((joinA acc (⟨fr, 1, (l[i]'(by omega)).V, (l[i]'(by omega)).V, (l[i]'(by omega)).V, (l[i]'(by omega)).V, (l[i]'(by omega)).V⟩ : Agg)).1))) Try.isAgg37 Try.sizeOf37 uw115_8 (Pt.of (hst.cell 0 rfl) rfl) rfl (s_cons0 (op_storeAll hst 1 rfl Try.sizeOf37 uw115_6 rfl rfl rfl (by simp [Value.oneCell']) (fun w119 hst => ?_)))))))
   refine s_nil (block_n (then_n (cE_region rfl (s_cons (op_move (iV (i : Int)) uw115_7 (s_cons (op_add (k := .i64) (a := (i : Int)) (b := 1) ((i : Int) + 1) rfl rfl (xi64 (by omega) (by omega)) (s_cons (op_assign (iV ((i : Int) + 1)) rfl (s_nil (then_n ?_)))))))))))
   exact ⟨_, ⟨((joinA acc (⟨fr, 1, (l[i]'(by omega)).V, (l[i]'(by omega)).V, (l[i]'(by omega)).V, (l[i]'(by omega)).V, (l[i]'(by omega)).V⟩ : Agg)).1), (i + 1), rfl, uw115_0, uw115_1, uw115_4, uw115_6, (congrArg iV (show ((i : Int) + 1) = _ from by omega)), (hst.sub (.cons _ (.cons_cons _ (.cons_cons _ .slnil)))), (by omega), (by exact joinA_ok hok (hel (by omega))), (by exact join_may (by assumption)), (by exact hI.trans (go_of (by omega) (by omega) (by omega) (by assumption)))⟩, (by simp only [id]; omega)⟩
  have c120 := of_decide_eq_false b117
  refine cE_cond true (congrArg Value.bool (congrArg (! ·) b117)) (fun _ => ?_) (fun h => by cases h)
  refine cE_seq (cE_region rfl (s_cons (op_build (r := (.agg #[(iV 0), (iV 0), (iV 0), (iV 0), (iV 0), (iV 0), (iV 0)])) evp_nil (by simp [Instr.build, Instr.fill, Value.cells, Try.runUnderlying37, Try.zeroValue37]) (s_cons (op_move (iV ((joinA acc (⟨fr, 1, (l[i]'(by omega)).V, (l[i]'(by omega)).V, (l[i]'(by omega)).V, (l[i]'(by omega)).V, (l[i]'(by omega)).V⟩ : Agg)).2)) uw115_9 (s_cons0 (op_storeAll hst 2 rfl Try.sizeOf37 uw115_4 rfl rfl rfl (by simp [Value.oneCell']) (fun w121 hst => ?_))))))))
  refine s_cons (op_assign (iV ((joinA acc (⟨fr, 1, (l[i]'(by omega)).V, (l[i]'(by omega)).V, (l[i]'(by omega)).V, (l[i]'(by omega)).V, (l[i]'(by omega)).V⟩ : Agg)).2)) rfl (s_nil (then_n (cE_ret (then_r (block_r (then_r (then_r (block_r (then_r (postG_r _ (rvN (cs := [(iV 0), (iV 0), (iV 0), (iV 0), (iV 0), (iV 0), (iV 0)]) Try.isAgg37 Try.sizeOf37 uw115_4 (Pt.of (hst.cell 2 rfl) rfl) rfl (rvt (v := (iV ((joinA acc (⟨fr, 1, (l[i]'(by omega)).V, (l[i]'(by omega)).V, (l[i]'(by omega)).V, (l[i]'(by omega)).V, (l[i]'(by omega)).V⟩ : Agg)).2))) rfl rvnil)) ?_)))))))))))
  exact ⟨(retv2 (congrArg aggV (show (⟨0, 0, 0, 0, 0, 0, 0⟩ : Agg) = (allA l fr).1 from by exact (congrArg Prod.fst (hI.trans (go_stop (by omega) (by assumption)))).symm)) (congrArg iV (show (joinA acc (⟨fr, 1, (l[i]'(by omega)).V, (l[i]'(by omega)).V, (l[i]'(by omega)).V, (l[i]'(by omega)).V, (l[i]'(by omega)).V⟩ : Agg)).2 = (allA l fr).2 from by exact (congrArg Prod.snd (hI.trans (go_stop (by omega) (by assumption)))).symm))), hst.bare⟩
 have c122 := of_decide_eq_false b87
 refine cE_cond false (congrArg Value.bool b87) (fun h => by cases h) (fun _ => ?_)
 refine cE_exit (then_x (then_x (block_hit (then_n (cE_seq (cE_region rfl (s_cons (op_loadN (cs := (aggC acc)) Try.isAgg37 Try.sizeOf37 q83_6 (Pt.of (hst.cell 0 rfl) rfl) rfl (s_cons0 (op_storeAll hst 1 rfl Try.sizeOf37 q83_4 rfl rfl rfl (by simp [Value.oneCell']) (fun w123 hst => ?_)))))))))))
 refine s_cons (op_assign (iV 0) rfl (s_nil (then_n (cE_ret (postG_r _ (rvN (cs := (aggC acc)) Try.isAgg37 Try.sizeOf37 q83_4 (Pt.of (hst.cell 1 rfl) rfl) rfl (rvt (v := (iV 0)) rfl rvnil)) ?_)))))
 exact ⟨(retv2 (congrArg aggV (show acc = (allA l fr).1 from by exact (congrArg Prod.fst (hI.trans (go_end (by omega) hmp))).symm)) (congrArg iV (show 0 = (allA l fr).2 from by exact (congrArg Prod.snd (hI.trans (go_end (by omega) hmp))).symm))), hst.bare⟩

set_option maxRecDepth 8000 in
set_option maxHeartbeats 8000000 in
theorem c_rRaw (w0 : World) (v_l : Value) (l : List Sample) (h_l : Sl w0 sampE v_l l) (k : Int) (hl : ∀ s ∈ l, s.ok) (hn : l.length ≤ 1000000) (k0 : -9223372036854775808 ≤ k) (k1 : k ≤ 9223372036854775807) :
  Calls Try.prog 44 #[v_l, (iV k)] w0 fun e w' => ∃ (r : Value), e = .returned (.tuple #[r, (iV ((rawA l k).2))]) ∧ St w0 w' [rowT 37 aggE r ((rawA l k).1)] := by
 refine calls_E (n := 74) (ts := [4, 5]) Try.func44 rfl rfl rfl (by simp) ?_
 have hst := St.start w0
 refine cE_seq (cE_region rfl (s_cons (op_assign nS rfl (s_cons (op_assign (iV 0) rfl (s_nil (then_n (cE_seq (cE_seq (cE_region rfl (s_cons (op_move (iV k) rfl (s_cons (op_lss (k := .i64) (a := k) (b := 1) rfl rfl (s_cons (op_move (.bool (decide (k < 1))) rfl ?_))))))))))))))))
 rcases Bool.eq_false_or_eq_true (decide (k < 1)) with b124 | b124
 ·have c125 := of_decide_eq_true b124
  refine s_no 13 rfl (congrArg Value.bool b124) (s_no 13 rfl (congrArg Value.bool b124) (s_cons (op_pick_t (.bool true) (congrArg Value.bool b124) rfl (s_cons (op_move (.bool true) rfl (s_no 17 rfl rfl (s_no 17 rfl rfl (s_no 17 rfl rfl (s_cons (op_pick_t (.bool true) rfl rfl (s_nil (then_n (cE_cond true rfl (fun _ => ?_) (fun h => by cases h))))))))))))))
  refine cE_seq (cE_region rfl (s_cons (op_assign nS rfl (s_cons (op_assign (iV 1) rfl (s_nil (then_n (cE_ret (then_r (post_r _ (res2 (v := nS) rfl (x := (iV 1)) rfl) ?_))))))))))
  replace hst := hst.nilRow 37 aggE
  have e126 : [] = (rawA l k).1 := by exact (congrArg Prod.fst (raw_none (Or.inr (coarse_no (by omega))))).symm
  replace hst : St w0 w0 [rowT 37 aggE nS ((rawA l k).1)] := by rw [congrArg (fun l => rowT 37 aggE nS l) e126] at hst; exact hst
  exact ⟨nS, (retv2 rfl (congrArg iV (show 1 = (rawA l k).2 from by exact (congrArg Prod.snd (raw_none (Or.inr (coarse_no (by omega))))).symm))), hst.sub (.cons_cons _ .slnil)⟩
 have c127 := of_decide_eq_false b124
 refine s_yes 13 rfl (congrArg Value.bool b124) (op_move (iV k) rfl (s_yes 13 rfl (congrArg Value.bool b124) (op_gtr (k := .i64) (a := k) (b := 3) rfl rfl (s_cons (op_pick_f (.bool (decide (3 < k))) (congrArg Value.bool b124) rfl (s_cons (op_move (.bool (decide (3 < k))) rfl ?_)))))))
 rcases Bool.eq_false_or_eq_true (decide (3 < k)) with b128 | b128
 ·have c129 := of_decide_eq_true b128
  refine s_no 17 rfl (congrArg Value.bool b128) (s_no 17 rfl (congrArg Value.bool b128) (s_no 17 rfl (congrArg Value.bool b128) (s_cons (op_pick_t (.bool true) (congrArg Value.bool b128) rfl (s_nil (then_n (cE_cond true rfl (fun _ => ?_) (fun h => by cases h))))))))
  refine cE_seq (cE_region rfl (s_cons (op_assign nS rfl (s_cons (op_assign (iV 1) rfl (s_nil (then_n (cE_ret (then_r (post_r _ (res2 (v := nS) rfl (x := (iV 1)) rfl) ?_))))))))))
  replace hst := hst.nilRow 37 aggE
  have e130 : [] = (rawA l k).1 := by exact (congrArg Prod.fst (raw_none (Or.inr (coarse_no (by omega))))).symm
  replace hst : St w0 w0 [rowT 37 aggE nS ((rawA l k).1)] := by rw [congrArg (fun l => rowT 37 aggE nS l) e130] at hst; exact hst
  exact ⟨nS, (retv2 rfl (congrArg iV (show 1 = (rawA l k).2 from by exact (congrArg Prod.snd (raw_none (Or.inr (coarse_no (by omega))))).symm))), hst.sub (.cons_cons _ .slnil)⟩
 have c131 := of_decide_eq_false b128
 refine s_yes 17 rfl (congrArg Value.bool b128) (op_move v_l rfl (s_yes 17 rfl (congrArg Value.bool b128) (op_call Try.call31 (evs_cons (v := v_l) rfl evs_nil) (c_rRising (w0 := w0) (v_l := v_l) (l := l) (h_l := (h_l.below hst.below)) (hl := hl)) ?_)))
 rintro _ w132 ⟨rfl, hcall⟩
 refine ⟨_, rfl, ?_⟩
 have hst := hst.call hcall
 refine s_yes 17 rfl (congrArg Value.bool b128) (op_not (b := risingA l) rfl (s_cons (op_pick_f (.bool (!(risingA l))) (congrArg Value.bool b128) rfl (s_nil (then_n ?_)))))
 rcases Bool.eq_false_or_eq_true (risingA l) with b133 | b133
 ·have hri := b133
  refine cE_cond false (congrArg Value.bool (congrArg (! ·) b133)) (fun h => by cases h) (fun _ => ?_)
  refine cE_skip (then_n (cE_seq ?_))
  have hco := coarse_yes (k := k) (by omega) (by omega)
  refine cE_region rfl (s_cons (op_assign nS rfl (s_nil (then_n (cE_seq (cE_seq (cE_region rfl (s_cons (op_assign (iV 0) rfl (s_nil (then_n (cE_block ?_))))))))))))
  replace hst := hst.nilRow 37 aggE
  refine cE_loop (fun (m : Nat) (ρ : Env) (w : World) => ∃ (vo : Value) (out : List Agg) (f : Nat) (i : Nat), m = l.length - i ∧ ρ 0 = v_l ∧ ρ 1 = (iV k) ∧ ρ 7 = (iV (i : Int)) ∧ ρ 6 = vo ∧ St w0 w [rowT 37 aggE vo out] ∧ (i ≤ l.length) ∧ (l.length - i ≤ f) ∧ (out.length ≤ i) ∧ (rawA l k = rawL k f (l.drop i) out)) id _ ⟨nS, [], l.length, 0, rfl, rfl, rfl, (congrArg iV (show 0 = _ from by omega)), rfl, hst, (by omega), (by omega), (by (simp; done)), (by (unfold rawA; rw [if_pos ⟨hri, hco⟩, List.drop_zero]))⟩ ?_
  rintro m135 ρ136 w137 ⟨vo, out, f, i, hm135, q134_0, q134_1, q134_7, q134_6, hst, hi, hf, hout, hI⟩
  refine cE_seq (cE_seq (cE_region rfl (s_cons (op_move (iV (i : Int)) q134_7 (s_cons (op_move v_l q134_0 (s_cons (op_len (E := sampE) (xs := l) Try.underlying22 rfl h_l (s_cons (op_lss (k := .i64) (a := (i : Int)) (b := (l.length : Int)) rfl rfl (s_nil (then_n ?_))))))))))))
  rcases Bool.eq_false_or_eq_true (decide ((i : Int) < (l.length : Int))) with b138 | b138
  ·have c139 := of_decide_eq_true b138
   refine cE_cond true (congrArg Value.bool b138) (fun _ => ?_) (fun h => by cases h)
   refine cE_skip (then_n (cE_block (cE_seq (cE_region rfl (s_cons (op_move (iV (i : Int)) q134_7 (s_cons (op_assign (iV (i : Int)) rfl (s_nil (then_n (cE_seq (cE_block (cE_loop (fun (m : Nat) (ρ : Env) (w : World) => ∃ (n : Nat), m = l.length - n ∧ ρ 0 = v_l ∧ ρ 1 = (iV k) ∧ ρ 7 = (iV (i : Int)) ∧ ρ 6 = vo ∧ ρ 8 = (iV (n : Int)) ∧ St w0 w [rowT 37 aggE vo out] ∧ (i ≤ n) ∧ (n ≤ l.length) ∧ (winLen k (floorA ((l[i]'(by omega)).T) k) (l.drop i) = n - i + winLen k (floorA ((l[i]'(by omega)).T) k) (l.drop n))) id _ ⟨i, rfl, q134_0, q134_1, q134_7, q134_6, rfl, hst, (by omega), (by omega), (by (rw [Nat.sub_self, Nat.zero_add]; done))⟩ ?_)))))))))))))
   rintro m141 ρ142 w143 ⟨n, hm141, q140_0, q140_1, q140_7, q140_6, q140_8, hst, hn1, hnr, hw0⟩
   have hel := fun (s : Sample) (h : s ∈ l) => (hl s h).1
   refine cE_seq (cE_seq ?_)
   rcases Bool.eq_false_or_eq_true (decide ((n : Int) < (l.length : Int))) with b144 | b144
   ·have c145 := of_decide_eq_true b144
    refine cE_regionL hst [[(8, none)], [(0, none)], [(28, some 1)], [(27, some 0), (29, some 2)], [(30, some 3)], [(0, none), (31, some 4)], [(8, none), (31, some 4)], [(32, some 5), (33, some 6), (31, some 4)], [(34, some 7), (31, some 4)], [(35, some 8), (31, some 4)], [(1, none), (31, some 4)], [(36, some 9), (37, some 10), (31, some 4)], [(0, none), (31, some 4)], [(7, none), (31, some 4)], [(39, some 12), (40, some 13), (31, some 4)], [(41, some 14), (31, some 4)], [(42, some 15), (31, some 4)], [(1, none), (31, some 4)], [(43, some 16), (44, some 17), (31, some 4)], [(38, some 11), (45, some 18), (31, some 4)], [(31, some 4), (46, some 19)]] [(rEq (iV (n : Int))), (rEq v_l), (rEq (iV (l.length : Int))), (rEq (.bool (decide ((n : Int) < (l.length : Int))))), (rEq (.bool (decide ((n : Int) < (l.length : Int))))), (rEq v_l), (rEq (iV (n : Int))), (rPt [(iV ((l[n]'(by omega)).T)), (iV ((l[n]'(by omega)).V))]), (rPt [(iV ((l[n]'(by omega)).T)), (iV ((l[n]'(by omega)).V))]), (rEq (iV ((l[n]'(by omega)).T))), (rEq (iV k)), (rEq (iV (floorA ((l[n]'(by omega)).T) k))), (rEq v_l), (rEq (iV (i : Int))), (rPt [(iV ((l[i]'(by omega)).T)), (iV ((l[i]'(by omega)).V))]), (rPt [(iV ((l[i]'(by omega)).T)), (iV ((l[i]'(by omega)).V))]), (rEq (iV ((l[i]'(by omega)).T))), (rEq (iV k)), (rEq (iV (floorA ((l[i]'(by omega)).T) k))), (rEq (.bool (decide ((floorA ((l[n]'(by omega)).T) k) = (floorA ((l[i]'(by omega)).T) k))))), (rEq (.bool (decide ((floorA ((l[n]'(by omega)).T) k) = (floorA ((l[i]'(by omega)).T) k)))))] (by kernel_rfl) rfl (by kernel_rfl) ⟨sEq, sEq, sEq, sEq, sEq, sEq, sEq, sPt, sPt, sEq, sEq, sEq, sEq, sEq, sPt, sPt, sEq, sEq, sEq, sEq, sEq, trivial⟩ ⟨?_, ?_, ?_, ?_, ?_, ?_, ?_, ?_, ?_, ?_, ?_, ?_, ?_, ?_, ?_, ?_, ?_, ?_, ?_, ?_, ?_, trivial⟩ ?_
    ·rintro ρ154 w155 hj156 ⟨f8, _⟩
     have hst := hj156.2
     exact go_plain (op_move (iV (n : Int)) (f8.trans q140_8) (kS hj156 rfl))
    ·rintro ρ157 w158 hj159 ⟨f0, _⟩
     have hst := hj159.2
     exact go_plain (op_move v_l (f0.trans q140_0) (kS hj159 rfl))
    ·rintro ρ160 w161 hj162 ⟨f28, _⟩
     have hst := hj162.2
     exact go_plain (op_len (E := sampE) (xs := l) Try.underlying22 f28 h_l (kS hj162 rfl))
    ·rintro ρ163 w164 hj165 ⟨f27, f29, _⟩
     have hst := hj165.2
     exact go_plain (op_lss (k := .i64) (a := (n : Int)) (b := (l.length : Int)) f27 f29 (kS hj165 rfl))
    ·rintro ρ166 w167 hj168 ⟨f30, _⟩
     have hst := hj168.2
     exact go_plain (op_move (.bool (decide ((n : Int) < (l.length : Int)))) f30 (kS hj168 rfl))
    ·rintro ρ169 w170 hj171 ⟨f0, f31, _⟩
     have hst := hj171.2
     exact go_yes 31 rfl (f31.trans (congrArg Value.bool b144)) (op_move v_l (f0.trans q140_0) (kS hj171 rfl))
    ·rintro ρ172 w173 hj174 ⟨f8, f31, _⟩
     have hst := hj174.2
     exact go_yes 31 rfl (f31.trans (congrArg Value.bool b144)) (op_move (iV (n : Int)) (f8.trans q140_8) (kS hj174 rfl))
    ·rintro ρ175 w176 hj177 ⟨f32, f33, f31, _⟩
     have hst := hj177.2
     refine go_yes 31 rfl (f31.trans (congrArg Value.bool b144)) (op_indexAddrN (E := sampE) (xs := l) n Try.underlying22 Try.sizeOf51 f32 h_l f33 (by omega) (by omega) (fun a178 o179 p180 => ?_))
     exact kS hj177 ⟨_, _, rfl, (p180.below hst.below)⟩
    ·rintro ρ181 w182 hj183 ⟨f34, f31, _⟩
     have hst := hj183.2
     obtain ⟨a184, o185, e186, p187⟩ := f34
     exact go_yes 31 rfl (f31.trans (congrArg Value.bool b144)) (op_fieldAddr (s := 0) Try.underlying51 rfl rfl Try.sizeOf2 e186 (kS hj183 ⟨_, _, rfl, p187⟩))
    ·rintro ρ188 w189 hj190 ⟨f35, f31, _⟩
     have hst := hj190.2
     obtain ⟨a191, o192, e193, p194⟩ := f35
     exact go_yes 31 rfl (f31.trans (congrArg Value.bool b144)) (op_load1 (u := (iV ((l[n]'(by omega)).T))) Try.isAgg2 e193 p194 (kS hj190 rfl))
    ·rintro ρ195 w196 hj197 ⟨f1, f31, _⟩
     have hst := hj197.2
     exact go_yes 31 rfl (f31.trans (congrArg Value.bool b144)) (op_move (iV k) (f1.trans q140_1) (kS hj197 rfl))
    ·rintro ρ198 w199 hj200 ⟨f36, f37, f31, _⟩
     have hst := hj200.2
     refine go_yes 31 rfl (f31.trans (congrArg Value.bool b144)) (op_call Try.call53 (evs_cons (v := (iV ((l[n]'(by omega)).T))) f36 (evs_cons (v := (iV k)) f37 evs_nil)) (c_rFloor (w0 := w199) (t := (l[n]'(by omega)).T) (k := k) (t0 := (hl _ (List.getElem_mem _)).1.1) (k0 := (by omega)) (t1 := (hl _ (List.getElem_mem _)).1.2) (k1 := (by omega))) ?_)
     rintro _ w201 ⟨rfl, hcall⟩
     refine ⟨_, rfl, ?_⟩
     exact kD hj200 hcall rfl
    ·rintro ρ202 w203 hj204 ⟨f0, f31, _⟩
     have hst := hj204.2
     exact go_yes 31 rfl (f31.trans (congrArg Value.bool b144)) (op_move v_l (f0.trans q140_0) (kS hj204 rfl))
    ·rintro ρ205 w206 hj207 ⟨f7, f31, _⟩
     have hst := hj207.2
     exact go_yes 31 rfl (f31.trans (congrArg Value.bool b144)) (op_move (iV (i : Int)) (f7.trans q140_7) (kS hj207 rfl))
    ·rintro ρ208 w209 hj210 ⟨f39, f40, f31, _⟩
     have hst := hj210.2
     refine go_yes 31 rfl (f31.trans (congrArg Value.bool b144)) (op_indexAddrN (E := sampE) (xs := l) i Try.underlying22 Try.sizeOf51 f39 h_l f40 (by omega) (by omega) (fun a211 o212 p213 => ?_))
     exact kS hj210 ⟨_, _, rfl, (p213.below hst.below)⟩
    ·rintro ρ214 w215 hj216 ⟨f41, f31, _⟩
     have hst := hj216.2
     obtain ⟨a217, o218, e219, p220⟩ := f41
     exact go_yes 31 rfl (f31.trans (congrArg Value.bool b144)) (op_fieldAddr (s := 0) Try.underlying51 rfl rfl Try.sizeOf2 e219 (kS hj216 ⟨_, _, rfl, p220⟩))
    ·rintro ρ221 w222 hj223 ⟨f42, f31, _⟩
     have hst := hj223.2
     obtain ⟨a224, o225, e226, p227⟩ := f42
     exact go_yes 31 rfl (f31.trans (congrArg Value.bool b144)) (op_load1 (u := (iV ((l[i]'(by omega)).T))) Try.isAgg2 e226 p227 (kS hj223 rfl))
    ·rintro ρ228 w229 hj230 ⟨f1, f31, _⟩
     have hst := hj230.2
     exact go_yes 31 rfl (f31.trans (congrArg Value.bool b144)) (op_move (iV k) (f1.trans q140_1) (kS hj230 rfl))
    ·rintro ρ231 w232 hj233 ⟨f43, f44, f31, _⟩
     have hst := hj233.2
     refine go_yes 31 rfl (f31.trans (congrArg Value.bool b144)) (op_call Try.call53 (evs_cons (v := (iV ((l[i]'(by omega)).T))) f43 (evs_cons (v := (iV k)) f44 evs_nil)) (c_rFloor (w0 := w232) (t := (l[i]'(by omega)).T) (k := k) (t0 := (hl _ (List.getElem_mem _)).1.1) (k0 := (by omega)) (t1 := (hl _ (List.getElem_mem _)).1.2) (k1 := (by omega))) ?_)
     rintro _ w234 ⟨rfl, hcall⟩
     refine ⟨_, rfl, ?_⟩
     exact kD hj233 hcall rfl
    ·rintro ρ235 w236 hj237 ⟨f38, f45, f31, _⟩
     have hst := hj237.2
     exact go_yes 31 rfl (f31.trans (congrArg Value.bool b144)) (op_eql (k := .i64) (a := (floorA ((l[n]'(by omega)).T) k)) (b := (floorA ((l[i]'(by omega)).T) k)) f38 f45 (kS hj237 rfl))
    ·rintro ρ238 w239 hj240 ⟨f31, f46, _⟩
     have hst := hj240.2
     exact go_plain (op_pick_t (.bool (decide ((floorA ((l[n]'(by omega)).T) k) = (floorA ((l[i]'(by omega)).T) k)))) (f31.trans (congrArg Value.bool b144)) f46 (kS hj240 rfl))
    intro ρ241 w242 hbw242 hst hRw242 hkw242
    have uw242_0 := (hkw242 0 rfl).trans q140_0
    have uw242_1 := (hkw242 1 rfl).trans q140_1
    have uw242_7 := (hkw242 7 rfl).trans q140_7
    have uw242_6 := (hkw242 6 rfl).trans q140_6
    have uw242_8 := (hkw242 8 rfl).trans q140_8
    have uw242_47 : ρ241 47 = (.bool (decide ((floorA ((l[n]'(by omega)).T) k) = (floorA ((l[i]'(by omega)).T) k)))) := hRw242 20 47 rfl
    refine then_n ?_
    rcases Bool.eq_false_or_eq_true (decide ((floorA ((l[n]'(by omega)).T) k) = (floorA ((l[i]'(by omega)).T) k))) with b243 | b243
    ·have c244 := of_decide_eq_true b243
     refine cE_cond true (uw242_47.trans (congrArg Value.bool b243)) (fun _ => ?_) (fun h => by cases h)
     refine cE_skip (then_n (cE_block (cE_region rfl (s_cons (op_move (iV (n : Int)) uw242_8 (s_cons (op_add (k := .i64) (a := (n : Int)) (b := 1) ((n : Int) + 1) rfl rfl (xi64 (by omega) (by omega)) (s_cons (op_assign (iV ((n : Int) + 1)) rfl (s_nil (block_n (then_n ?_))))))))))))
     exact ⟨_, ⟨(n + 1), rfl, uw242_0, uw242_1, uw242_7, uw242_6, (congrArg iV (show ((n : Int) + 1) = _ from by omega)), hst, (by omega), (by omega), (by exact hw0.trans (by rw [win_go (by omega) (by assumption)]; omega))⟩, (by simp only [id]; omega)⟩
    have c245 := of_decide_eq_false b243
    refine cE_cond false (uw242_47.trans (congrArg Value.bool b243)) (fun h => by cases h) (fun _ => ?_)
    refine cE_exit (then_x (then_x (block_hit (then_n (cE_seq ?_)))))
    have hw : winLen k (floorA ((l[i]'(by omega)).T) k) (l.drop i) = n - i := hw0.trans (by rw [win_no (by omega) (by assumption), Nat.add_zero])
    have hnp := win_pos' (k := k) (l := l) (i := i) (by omega)
    rw [hw] at hnp
    have hfr := floorA_r ((l[i]'(by omega)).T) k
    refine cE_regionM (fun (D : Nat → Bool) (w : World) => St w0 w [rowT 37 aggE vo out] ∧ (D 16 = false → St w0 w [rowT 37 aggE vo out]) ∧ (D 16 = true → St w0 w [rowT 37 aggE vo out])) [[(0, none)], [(7, none)], [(8, none)], [(51, some 0), (52, some 1), (53, some 2)], [(0, none)], [(7, none)], [(55, some 4), (56, some 5)], [(57, some 6)], [(58, some 7)], [(1, none)], [(59, some 8), (60, some 9)], [(54, some 3), (61, some 10)], [(62, some 11)], [(50, some 12)], [(50, some 12)], [], [(9, some 15), (63, some 13)], [(64, some 14)]] [16] [(kEq v_l), (kEq (iV (i : Int))), (kEq (iV (n : Int))), (kSl0 w0 sampE ((l.take n).drop i)), (kEq v_l), (kEq (iV (i : Int))), (kPt0 w0 [(iV ((l[i]'(by omega)).T)), (iV ((l[i]'(by omega)).V))]), (kPt0 w0 [(iV ((l[i]'(by omega)).T)), (iV ((l[i]'(by omega)).V))]), (kEq (iV ((l[i]'(by omega)).T))), (kEq (iV k)), (kEq (iV (floorA ((l[i]'(by omega)).T) k))), (kEq (.tuple #[(.agg (aggA ((allA ((l.take n).drop i) (floorA ((l[i]'(by omega)).T) k)).1))), (iV ((allA ((l.take n).drop i) (floorA ((l[i]'(by omega)).T) k)).2))])), (kEq (.tuple #[(.agg (aggA ((allA ((l.take n).drop i) (floorA ((l[i]'(by omega)).T) k)).1))), (iV ((allA ((l.take n).drop i) (floorA ((l[i]'(by omega)).T) k)).2))])), (kEq (.agg (aggA ((allA ((l.take n).drop i) (floorA ((l[i]'(by omega)).T) k)).1)))), (kEq (iV ((allA ((l.take n).drop i) (floorA ((l[i]'(by omega)).T) k)).2))), (fun (D : Nat → Bool) (v : Value) (w : World) => ∃ g253 : Nat, v = .pointer (some ⟨g253, 0, none⟩) ∧ (D 16 = false → St w0 w [.blk g253 37 #[(iV 0), (iV 0), (iV 0), (iV 0), (iV 0), (iV 0), (iV 0)], rowT 37 aggE vo out]) ∧ (D 16 = true → St w0 w [.blk g253 37 (aggA ((allA ((l.take n).drop i) (floorA ((l[i]'(by omega)).T) k)).1)), rowT 37 aggE vo out])), kAny, (kEq (iV ((allA ((l.take n).drop i) (floorA ((l[i]'(by omega)).T) k)).2)))] ⟨mEq, mEq, mEq, mSl0, mEq, mEq, mPt0, mPt0, mEq, mEq, mEq, mEq, mEq, mEq, mEq, (fun D D' v w w' hD hb ⟨g, h1, h2⟩ => ⟨g, h1, (fun x0 => (h2.1 ((hD 16 (by decide)).symm.trans x0)).ext hb), (fun x0 => (h2.2 ((hD 16 (by decide)).symm.trans x0)).ext hb)⟩), mAny, mEq, trivial⟩ (by kernel_rfl) rfl (by kernel_rfl) ⟨hst.drewW.sub (.cons_cons _ .slnil), (fun _ => hst.drewW), (fun h => absurd h Bool.false_ne_true)⟩ (fun hM => ⟨?_, ?_, ?_, ?_, ?_, ?_, ?_, ?_, ?_, ?_, ?_, ?_, ?_, ?_, ?_, ?_, ?_, ?_, trivial⟩) ?_
    ·rintro D ρo wo nD eD cD jD aD ⟨f0, _⟩
     exact go_plain (op_move v_l (f0.trans uw242_0) (kN0 (i := 0) hM (by decide) (by exact jD) (by exact rfl)))
    ·rintro D ρo wo nD eD cD jD aD ⟨f7, _⟩
     exact go_plain (op_move (iV (i : Int)) (f7.trans uw242_7) (kN0 (i := 1) hM (by decide) (by exact jD) (by exact rfl)))
    ·rintro D ρo wo nD eD cD jD aD ⟨f8, _⟩
     exact go_plain (op_move (iV (n : Int)) (f8.trans uw242_8) (kN0 (i := 2) hM (by decide) (by exact jD) (by exact rfl)))
    ·rintro D ρo wo nD eD cD jD aD ⟨f51, f52, f53, _⟩
     refine go_plain (op_slice_bothN i n (E := sampE) (xs := l) Try.underlying22 Try.sizeOf51 f51 h_l f52 f53 (by omega) (by omega) (by omega) (by omega) (fun v257 hs258 => ?_))
     exact (kN0 (i := 3) hM (by decide) (by exact jD) (by exact hs258))
    ·rintro D ρo wo nD eD cD jD aD ⟨f0, _⟩
     exact go_plain (op_move v_l (f0.trans uw242_0) (kN0 (i := 4) hM (by decide) (by exact jD) (by exact rfl)))
    ·rintro D ρo wo nD eD cD jD aD ⟨f7, _⟩
     exact go_plain (op_move (iV (i : Int)) (f7.trans uw242_7) (kN0 (i := 5) hM (by decide) (by exact jD) (by exact rfl)))
    ·rintro D ρo wo nD eD cD jD aD ⟨f55, f56, _⟩
     refine go_plain (op_indexAddrN (E := sampE) (xs := l) i Try.underlying22 Try.sizeOf51 f55 h_l f56 (by omega) (by omega) (fun a259 o260 p261 => ?_))
     exact (kN0 (i := 6) hM (by decide) (by exact jD) (by exact ⟨_, _, rfl, p261⟩))
    ·rintro D ρo wo nD eD cD jD aD ⟨f57, _⟩
     obtain ⟨a262, o263, e264, p265⟩ := f57
     exact go_plain (op_fieldAddr (s := 0) Try.underlying51 rfl rfl Try.sizeOf2 e264 (kN0 (i := 7) hM (by decide) (by exact jD) (by exact ⟨_, _, rfl, p265⟩)))
    ·rintro D ρo wo nD eD cD jD aD ⟨f58, _⟩
     have hst := jD.2.1 (not_yet nD (fun hm => (cD 16 8 hm (by kernel_rfl))))
     obtain ⟨a266, o267, e268, p269⟩ := f58
     exact go_plain (op_load1 (u := (iV ((l[i]'(by omega)).T))) Try.isAgg2 e268 (p269.below hst.below) (kN0 (i := 8) hM (by decide) (by exact jD) (by exact rfl)))
    ·rintro D ρo wo nD eD cD jD aD ⟨f1, _⟩
     exact go_plain (op_move (iV k) (f1.trans uw242_1) (kN0 (i := 9) hM (by decide) (by exact jD) (by exact rfl)))
    ·rintro D ρo wo nD eD cD jD aD ⟨f59, f60, _⟩
     refine go_plain (op_call Try.call53 (evs_cons (v := (iV ((l[i]'(by omega)).T))) f59 (evs_cons (v := (iV k)) f60 evs_nil)) (c_rFloor (w0 := wo) (t := (l[i]'(by omega)).T) (k := k) (t0 := (hl _ (List.getElem_mem _)).1.1) (k0 := (by omega)) (t1 := (hl _ (List.getElem_mem _)).1.2) (k1 := (by omega))) ?_)
     rintro _ w270 ⟨rfl, hcall⟩
     refine ⟨_, rfl, ?_⟩
     exact kN (i := 10) hM (by decide) hcall.below (by exact ⟨(jD.1).ext hcall.below, (fun x0 => (jD.2.1 x0).ext hcall.below), (fun x0 => (jD.2.2 x0).ext hcall.below)⟩) (by exact rfl)
    ·rintro D ρo wo nD eD cD jD aD ⟨f54, f61, _⟩
     have hst := jD.2.1 (not_yet nD (fun hm => (cD 16 11 hm (by kernel_rfl))))
     obtain ⟨v272, e273⟩ : ∃ x, ρo 54 = x := ⟨_, rfl⟩
     have hs271 := f54
     replace hs271 : Sl w0 sampE v272 ((l.take n).drop i) := e273 ▸ hs271
     refine go_plain (op_call Try.call22 (evs_cons (v := v272) e273 (evs_cons (v := (iV (floorA ((l[i]'(by omega)).T) k))) f61 evs_nil)) (c_rAll (w0 := wo) (v_l := v272) (l := ((l.take n).drop i)) (h_l := (hs271.below hst.below)) (fr := (floorA ((l[i]'(by omega)).T) k)) (hl := (fun s h => hl s (List.mem_of_mem_take (List.mem_of_mem_drop h)))) (fr0 := (by omega)) (fr1 := (by omega)) (hn := (by simp; omega))) ?_)
     rintro _ w274 ⟨rfl, hcall⟩
     refine ⟨_, rfl, ?_⟩
     exact kN (i := 11) hM (by decide) hcall.below (by exact ⟨(jD.1).ext hcall.below, (fun x0 => (jD.2.1 x0).ext hcall.below), (fun x0 => (jD.2.2 x0).ext hcall.below)⟩) (by exact rfl)
    ·rintro D ρo wo nD eD cD jD aD ⟨f62, _⟩
     exact go_plain (op_move (.tuple #[(.agg (aggA ((allA ((l.take n).drop i) (floorA ((l[i]'(by omega)).T) k)).1))), (iV ((allA ((l.take n).drop i) (floorA ((l[i]'(by omega)).T) k)).2))]) f62 (kN0 (i := 12) hM (by decide) (by exact jD) (by exact rfl)))
    ·rintro D ρo wo nD eD cD jD aD ⟨f50, _⟩
     exact go_plain (op_extract (.agg (aggA ((allA ((l.take n).drop i) (floorA ((l[i]'(by omega)).T) k)).1))) f50 rfl (kN0 (i := 13) hM (by decide) (by exact jD) (by exact rfl)))
    ·rintro D ρo wo nD eD cD jD aD ⟨f50, _⟩
     exact go_plain (op_extract (iV ((allA ((l.take n).drop i) (floorA ((l[i]'(by omega)).T) k)).2)) f50 rfl (kN0 (i := 14) hM (by decide) (by exact jD) (by exact rfl)))
    ·rintro D ρo wo nD eD cD jD aD ⟨_⟩
     have hst := jD.2.1 (not_yet nD (fun hm => (cD 16 15 hm (by kernel_rfl))))
     have hst := St.start wo
     refine go_plain (op_alloc (cs := #[(iV 0), (iV 0), (iV 0), (iV 0), (iV 0), (iV 0), (iV 0)]) hst Try.zeroValue37 rfl (fun g275 w276 hst _ => ?_))
     exact kN (i := 15) hM (by decide) hst.below (by exact ⟨(jD.1).ext hst.below, (fun x0 => (jD.2.1 x0).ext hst.below), (fun x0 => (jD.2.2 x0).ext hst.below)⟩) (by exact ⟨_, rfl, (fun y0 => (jD.2.1 y0).call hst), (fun y0 => absurd (show D 16 = true from y0) (by rw [(not_yet nD (fun hm => (cD 16 15 hm (by kernel_rfl))))]; decide))⟩)
    ·rintro D ρo wo nD eD cD jD aD ⟨f9, f63, _⟩
     obtain ⟨g277, e278, hh279⟩ := aD 15 9 (eD 15 (by kernel_rfl)) rfl
     have hst : St w0 wo [.blk g277 37 #[(iV 0), (iV 0), (iV 0), (iV 0), (iV 0), (iV 0), (iV 0)], rowT 37 aggE vo out] := hh279.1 nD
     refine go_plain (op_storeAll hst 0 rfl Try.sizeOf37 e278 f63 rfl rfl (by simp [Value.oneCell']) (fun w280 hst => ?_))
     refine ⟨by exact ⟨hst.sub (.cons _ (.cons_cons _ .slnil)), (fun y0 => absurd y0 (fun h => Bool.noConfusion h)), (fun y0 => hst.sub (.cons _ (.cons_cons _ .slnil)))⟩, by exact trivial, kX [15] (by exact ⟨Or.inr (Or.inr (Or.inr iEq)), Or.inr (Or.inr (Or.inr iEq)), Or.inr (Or.inr (Or.inr iEq)), Or.inr (Or.inr (Or.inr iSl0)), Or.inr (Or.inr (Or.inr iEq)), Or.inr (Or.inr (Or.inr iEq)), Or.inr (Or.inr (Or.inr iPt0)), Or.inr (Or.inr (Or.inr iPt0)), Or.inr (Or.inr (Or.inr iEq)), Or.inr (Or.inr (Or.inr iEq)), Or.inr (Or.inr (Or.inr iEq)), Or.inr (Or.inr (Or.inr iEq)), Or.inr (Or.inr (Or.inr iEq)), Or.inr (Or.inr (Or.inr iEq)), Or.inr (Or.inr (Or.inr iEq)), Or.inr (Or.inl (by decide)), Or.inl rfl, Or.inr (Or.inr (Or.inl (not_yet nD (fun hm => (cD 17 16 hm (by kernel_rfl)))))), trivial⟩) ?_⟩
     intro j d hj hjd hDj h
     simp only [List.mem_cons, List.not_mem_nil, or_false] at hj
     subst hj
     obtain rfl : 9 = d := Option.some.inj hjd
     exact ⟨_, e278, (fun y0 => absurd y0 (fun h => Bool.noConfusion h)), (fun y0 => hst.sub (.cons_cons _ (.cons_cons _ .slnil)))⟩
    ·rintro D ρo wo nD eD cD jD aD ⟨f64, _⟩
     exact go_plain (op_assign (iV ((allA ((l.take n).drop i) (floorA ((l[i]'(by omega)).T) k)).2)) f64 (kN0 (i := 17) hM (by decide) (by exact jD) (by exact rfl)))
    intro ρ282 w283 Dw283 hallw283 hJw283 hRw283 hkw283
    obtain ⟨g284, uw283_9, hhw283⟩ := hRw283 15 9 rfl
    have hst : St w0 w283 [.blk g284 37 (aggA ((allA ((l.take n).drop i) (floorA ((l[i]'(by omega)).T) k)).1)), rowT 37 aggE vo out] := hhw283.2 (hallw283 16 (show 16 < 18 from by decide))
    have uw283_0 := (hkw283 0 rfl).trans uw242_0
    have uw283_1 := (hkw283 1 rfl).trans uw242_1
    have uw283_6 := (hkw283 6 rfl).trans uw242_6
    have uw283_8 := (hkw283 8 rfl).trans uw242_8
    have uw283_10 : ρ282 10 = (iV ((allA ((l.take n).drop i) (floorA ((l[i]'(by omega)).T) k)).2)) := hRw283 17 10 rfl
    refine then_n (cE_seq (cE_seq (cE_region rfl (s_cons (op_move (iV ((allA ((l.take n).drop i) (floorA ((l[i]'(by omega)).T) k)).2)) uw283_10 (s_cons (op_neq (k := .i64) (a := (allA ((l.take n).drop i) (floorA ((l[i]'(by omega)).T) k)).2) (b := 0) rfl rfl (s_nil (then_n ?_)))))))))
    rcases Bool.eq_false_or_eq_true (decide (((allA ((l.take n).drop i) (floorA ((l[i]'(by omega)).T) k)).2) = 0)) with b285 | b285
    ·have c286 := of_decide_eq_true b285
     refine cE_cond false (congrArg Value.bool (congrArg (! ·) b285)) (fun h => by cases h) (fun _ => ?_)
     refine cE_skip (then_n (cE_seq (cE_region rfl (s_cons (op_move vo uw283_6 (s_cons (op_loadN (cs := (aggC ((allA ((l.take n).drop i) (floorA ((l[i]'(by omega)).T) k)).1))) Try.isAgg37 Try.sizeOf37 uw283_9 (Pt.of (hst.cell 0 rfl) rfl) rfl (s_cons (op_buildSlice (E := aggE) [((allA ((l.take n).drop i) (floorA ((l[i]'(by omega)).T) k)).1)] hst Try.underlying23 Try.sizeOf37 Try.zeroValue37 (evp_cons (v := (.agg (aggA ((allA ((l.take n).drop i) (floorA ((l[i]'(by omega)).T) k)).1)))) rfl evp_nil) (parts_cons rfl parts_nil) rfl (by decide) (fun v287 w288 hst => ?_))))))))))
     refine s_cons (op_append (E := aggE) (xs := out) (ys := [((allA ((l.take n).drop i) (floorA ((l[i]'(by omega)).T) k)).1)]) (z := (.agg #[(iV 0), (iV 0), (iV 0), (iV 0), (iV 0), (iV 0), (iV 0)])) (bytes := 56) hst 2 rfl Try.underlying23 (by kernel_rfl) rfl rfl rfl (hst.sl 0 rfl) (by (simp; omega)) (by (simp; omega)) (fun v289 w290 hst => ?_))
     refine s_cons (op_assign v289 rfl (s_nil (then_n (cE_region rfl (s_cons (op_move (iV (n : Int)) uw283_8 (s_cons (op_assign (iV (n : Int)) rfl (s_nil (block_n (then_n ?_)))))))))))
     exact ⟨_, ⟨v289, (out ++ ([((allA ((l.take n).drop i) (floorA ((l[i]'(by omega)).T) k)).1)])), (f - 1), n, rfl, uw283_0, uw283_1, rfl, rfl, (hst.sub (.cons _ (.cons _ (.cons_cons _ .slnil)))), (by omega), (by omega), (by (simp; omega)), (by exact hI.trans (rrw_go (by omega) hf hw (by assumption) (by omega)))⟩, (by simp only [id]; omega)⟩
    have c291 := of_decide_eq_false b285
    refine cE_cond true (congrArg Value.bool (congrArg (! ·) b285)) (fun _ => ?_) (fun h => by cases h)
    refine cE_seq (cE_region rfl (s_cons (op_move (iV ((allA ((l.take n).drop i) (floorA ((l[i]'(by omega)).T) k)).2)) uw283_10 (s_cons (op_assign nS rfl (s_cons (op_assign (iV ((allA ((l.take n).drop i) (floorA ((l[i]'(by omega)).T) k)).2)) rfl (s_nil (then_n (cE_ret (then_r (block_r (then_r (block_r (then_r (post_r _ (res2 (v := nS) rfl (x := (iV ((allA ((l.take n).drop i) (floorA ((l[i]'(by omega)).T) k)).2))) rfl) ?_))))))))))))))))
    replace hst := hst.nilRow 37 aggE
    have e292 : [] = (rawA l k).1 := by exact (congrArg Prod.fst (hI.trans (rrw_stop (by omega) hf hw (by assumption)))).symm
    replace hst : St w0 w283 [rowT 37 aggE nS ((rawA l k).1), .blk g284 37 (aggA ((allA ((l.take n).drop i) (floorA ((l[i]'(by omega)).T) k)).1)), rowT 37 aggE vo out] := by rw [congrArg (fun l => rowT 37 aggE nS l) e292] at hst; exact hst
    exact ⟨nS, (retv2 rfl (congrArg iV (show (allA ((l.take n).drop i) (floorA ((l[i]'(by omega)).T) k)).2 = (rawA l k).2 from by exact (congrArg Prod.snd (hI.trans (rrw_stop (by omega) hf hw (by assumption)))).symm))), hst.sub (.cons_cons _ (.cons _ (.cons _ .slnil)))⟩
   have c293 := of_decide_eq_false b144
   refine cE_regionL hst [[(8, none)], [(0, none)], [(28, some 1)], [(27, some 0), (29, some 2)], [(30, some 3)], [(0, none), (31, some 4)], [(8, none), (31, some 4)], [(32, some 5), (33, some 6), (31, some 4)], [(34, some 7), (31, some 4)], [(35, some 8), (31, some 4)], [(1, none), (31, some 4)], [(36, some 9), (37, some 10), (31, some 4)], [(0, none), (31, some 4)], [(7, none), (31, some 4)], [(39, some 12), (40, some 13), (31, some 4)], [(41, some 14), (31, some 4)], [(42, some 15), (31, some 4)], [(1, none), (31, some 4)], [(43, some 16), (44, some 17), (31, some 4)], [(38, some 11), (45, some 18), (31, some 4)], [(31, some 4), (46, some 19)]] [(rEq (iV (n : Int))), (rEq v_l), (rEq (iV (l.length : Int))), (rEq (.bool (decide ((n : Int) < (l.length : Int))))), (rEq (.bool (decide ((n : Int) < (l.length : Int))))), (rEq undef), (rEq undef), (rEq undef), (rEq undef), (rEq undef), (rEq undef), (rEq undef), (rEq undef), (rEq undef), (rEq undef), (rEq undef), (rEq undef), (rEq undef), (rEq undef), (rEq undef), (rEq (.bool false))] (by kernel_rfl) rfl (by kernel_rfl) ⟨sEq, sEq, sEq, sEq, sEq, sEq, sEq, sEq, sEq, sEq, sEq, sEq, sEq, sEq, sEq, sEq, sEq, sEq, sEq, sEq, sEq, trivial⟩ ⟨?_, ?_, ?_, ?_, ?_, ?_, ?_, ?_, ?_, ?_, ?_, ?_, ?_, ?_, ?_, ?_, ?_, ?_, ?_, ?_, ?_, trivial⟩ ?_
   ·rintro ρ294 w295 hj296 ⟨f8, _⟩
    have hst := hj296.2
    exact go_plain (op_move (iV (n : Int)) (f8.trans q140_8) (kS hj296 rfl))
   ·rintro ρ297 w298 hj299 ⟨f0, _⟩
    have hst := hj299.2
    exact go_plain (op_move v_l (f0.trans q140_0) (kS hj299 rfl))
   ·rintro ρ300 w301 hj302 ⟨f28, _⟩
    have hst := hj302.2
    exact go_plain (op_len (E := sampE) (xs := l) Try.underlying22 f28 h_l (kS hj302 rfl))
   ·rintro ρ303 w304 hj305 ⟨f27, f29, _⟩
    have hst := hj305.2
    exact go_plain (op_lss (k := .i64) (a := (n : Int)) (b := (l.length : Int)) f27 f29 (kS hj305 rfl))
   ·rintro ρ306 w307 hj308 ⟨f30, _⟩
    have hst := hj308.2
    exact go_plain (op_move (.bool (decide ((n : Int) < (l.length : Int)))) f30 (kS hj308 rfl))
   ·rintro ρ309 w310 hj311 ⟨f0, f31, _⟩
    have hst := hj311.2
    exact go_no 31 rfl (f31.trans (congrArg Value.bool b144)) (kS hj311 rfl)
   ·rintro ρ312 w313 hj314 ⟨f8, f31, _⟩
    have hst := hj314.2
    exact go_no 31 rfl (f31.trans (congrArg Value.bool b144)) (kS hj314 rfl)
   ·rintro ρ315 w316 hj317 ⟨f32, f33, f31, _⟩
    have hst := hj317.2
    exact go_no 31 rfl (f31.trans (congrArg Value.bool b144)) (kS hj317 rfl)
   ·rintro ρ318 w319 hj320 ⟨f34, f31, _⟩
    have hst := hj320.2
    exact go_no 31 rfl (f31.trans (congrArg Value.bool b144)) (kS hj320 rfl)
   ·rintro ρ321 w322 hj323 ⟨f35, f31, _⟩
    have hst := hj323.2
    exact go_no 31 rfl (f31.trans (congrArg Value.bool b144)) (kS hj323 rfl)
   ·rintro ρ324 w325 hj326 ⟨f1, f31, _⟩
    have hst := hj326.2
    exact go_no 31 rfl (f31.trans (congrArg Value.bool b144)) (kS hj326 rfl)
   ·rintro ρ327 w328 hj329 ⟨f36, f37, f31, _⟩
    have hst := hj329.2
    exact go_no 31 rfl (f31.trans (congrArg Value.bool b144)) (kS hj329 rfl)
   ·rintro ρ330 w331 hj332 ⟨f0, f31, _⟩
    have hst := hj332.2
    exact go_no 31 rfl (f31.trans (congrArg Value.bool b144)) (kS hj332 rfl)
   ·rintro ρ333 w334 hj335 ⟨f7, f31, _⟩
    have hst := hj335.2
    exact go_no 31 rfl (f31.trans (congrArg Value.bool b144)) (kS hj335 rfl)
   ·rintro ρ336 w337 hj338 ⟨f39, f40, f31, _⟩
    have hst := hj338.2
    exact go_no 31 rfl (f31.trans (congrArg Value.bool b144)) (kS hj338 rfl)
   ·rintro ρ339 w340 hj341 ⟨f41, f31, _⟩
    have hst := hj341.2
    exact go_no 31 rfl (f31.trans (congrArg Value.bool b144)) (kS hj341 rfl)
   ·rintro ρ342 w343 hj344 ⟨f42, f31, _⟩
    have hst := hj344.2
    exact go_no 31 rfl (f31.trans (congrArg Value.bool b144)) (kS hj344 rfl)
   ·rintro ρ345 w346 hj347 ⟨f1, f31, _⟩
    have hst := hj347.2
    exact go_no 31 rfl (f31.trans (congrArg Value.bool b144)) (kS hj347 rfl)
   ·rintro ρ348 w349 hj350 ⟨f43, f44, f31, _⟩
    have hst := hj350.2
    exact go_no 31 rfl (f31.trans (congrArg Value.bool b144)) (kS hj350 rfl)
   ·rintro ρ351 w352 hj353 ⟨f38, f45, f31, _⟩
    have hst := hj353.2
    exact go_no 31 rfl (f31.trans (congrArg Value.bool b144)) (kS hj353 rfl)
   ·rintro ρ354 w355 hj356 ⟨f31, f46, _⟩
    have hst := hj356.2
    exact go_plain (op_pick_f (.bool false) (f31.trans (congrArg Value.bool b144)) rfl (kS hj356 rfl))
   intro ρ357 w358 hbw358 hst hRw358 hkw358
   have uw358_0 := (hkw358 0 rfl).trans q140_0
   have uw358_1 := (hkw358 1 rfl).trans q140_1
   have uw358_7 := (hkw358 7 rfl).trans q140_7
   have uw358_6 := (hkw358 6 rfl).trans q140_6
   have uw358_8 := (hkw358 8 rfl).trans q140_8
   have uw358_47 : ρ357 47 = (.bool false) := hRw358 20 47 rfl
   refine then_n (cE_cond false uw358_47 (fun h => by cases h) (fun _ => ?_))
   refine cE_exit (then_x (then_x (block_hit (then_n (cE_seq ?_)))))
   have hw : winLen k (floorA ((l[i]'(by omega)).T) k) (l.drop i) = n - i := hw0.trans (by rw [win_end (by omega), Nat.add_zero])
   have hnp := win_pos' (k := k) (l := l) (i := i) (by omega)
   rw [hw] at hnp
   have hfr := floorA_r ((l[i]'(by omega)).T) k
   refine cE_regionM (fun (D : Nat → Bool) (w : World) => St w0 w [rowT 37 aggE vo out] ∧ (D 16 = false → St w0 w [rowT 37 aggE vo out]) ∧ (D 16 = true → St w0 w [rowT 37 aggE vo out])) [[(0, none)], [(7, none)], [(8, none)], [(51, some 0), (52, some 1), (53, some 2)], [(0, none)], [(7, none)], [(55, some 4), (56, some 5)], [(57, some 6)], [(58, some 7)], [(1, none)], [(59, some 8), (60, some 9)], [(54, some 3), (61, some 10)], [(62, some 11)], [(50, some 12)], [(50, some 12)], [], [(9, some 15), (63, some 13)], [(64, some 14)]] [16] [(kEq v_l), (kEq (iV (i : Int))), (kEq (iV (n : Int))), (kSl0 w0 sampE ((l.take n).drop i)), (kEq v_l), (kEq (iV (i : Int))), (kPt0 w0 [(iV ((l[i]'(by omega)).T)), (iV ((l[i]'(by omega)).V))]), (kPt0 w0 [(iV ((l[i]'(by omega)).T)), (iV ((l[i]'(by omega)).V))]), (kEq (iV ((l[i]'(by omega)).T))), (kEq (iV k)), (kEq (iV (floorA ((l[i]'(by omega)).T) k))), (kEq (.tuple #[(.agg (aggA ((allA ((l.take n).drop i) (floorA ((l[i]'(by omega)).T) k)).1))), (iV ((allA ((l.take n).drop i) (floorA ((l[i]'(by omega)).T) k)).2))])), (kEq (.tuple #[(.agg (aggA ((allA ((l.take n).drop i) (floorA ((l[i]'(by omega)).T) k)).1))), (iV ((allA ((l.take n).drop i) (floorA ((l[i]'(by omega)).T) k)).2))])), (kEq (.agg (aggA ((allA ((l.take n).drop i) (floorA ((l[i]'(by omega)).T) k)).1)))), (kEq (iV ((allA ((l.take n).drop i) (floorA ((l[i]'(by omega)).T) k)).2))), (fun (D : Nat → Bool) (v : Value) (w : World) => ∃ g366 : Nat, v = .pointer (some ⟨g366, 0, none⟩) ∧ (D 16 = false → St w0 w [.blk g366 37 #[(iV 0), (iV 0), (iV 0), (iV 0), (iV 0), (iV 0), (iV 0)], rowT 37 aggE vo out]) ∧ (D 16 = true → St w0 w [.blk g366 37 (aggA ((allA ((l.take n).drop i) (floorA ((l[i]'(by omega)).T) k)).1)), rowT 37 aggE vo out])), kAny, (kEq (iV ((allA ((l.take n).drop i) (floorA ((l[i]'(by omega)).T) k)).2)))] ⟨mEq, mEq, mEq, mSl0, mEq, mEq, mPt0, mPt0, mEq, mEq, mEq, mEq, mEq, mEq, mEq, (fun D D' v w w' hD hb ⟨g, h1, h2⟩ => ⟨g, h1, (fun x0 => (h2.1 ((hD 16 (by decide)).symm.trans x0)).ext hb), (fun x0 => (h2.2 ((hD 16 (by decide)).symm.trans x0)).ext hb)⟩), mAny, mEq, trivial⟩ (by kernel_rfl) rfl (by kernel_rfl) ⟨hst.drewW.sub (.cons_cons _ .slnil), (fun _ => hst.drewW), (fun h => absurd h Bool.false_ne_true)⟩ (fun hM => ⟨?_, ?_, ?_, ?_, ?_, ?_, ?_, ?_, ?_, ?_, ?_, ?_, ?_, ?_, ?_, ?_, ?_, ?_, trivial⟩) ?_
   ·rintro D ρo wo nD eD cD jD aD ⟨f0, _⟩
    exact go_plain (op_move v_l (f0.trans uw358_0) (kN0 (i := 0) hM (by decide) (by exact jD) (by exact rfl)))
   ·rintro D ρo wo nD eD cD jD aD ⟨f7, _⟩
    exact go_plain (op_move (iV (i : Int)) (f7.trans uw358_7) (kN0 (i := 1) hM (by decide) (by exact jD) (by exact rfl)))
   ·rintro D ρo wo nD eD cD jD aD ⟨f8, _⟩
    exact go_plain (op_move (iV (n : Int)) (f8.trans uw358_8) (kN0 (i := 2) hM (by decide) (by exact jD) (by exact rfl)))
   ·rintro D ρo wo nD eD cD jD aD ⟨f51, f52, f53, _⟩
    refine go_plain (op_slice_bothN i n (E := sampE) (xs := l) Try.underlying22 Try.sizeOf51 f51 h_l f52 f53 (by omega) (by omega) (by omega) (by omega) (fun v370 hs371 => ?_))
    exact (kN0 (i := 3) hM (by decide) (by exact jD) (by exact hs371))
   ·rintro D ρo wo nD eD cD jD aD ⟨f0, _⟩
    exact go_plain (op_move v_l (f0.trans uw358_0) (kN0 (i := 4) hM (by decide) (by exact jD) (by exact rfl)))
   ·rintro D ρo wo nD eD cD jD aD ⟨f7, _⟩
    exact go_plain (op_move (iV (i : Int)) (f7.trans uw358_7) (kN0 (i := 5) hM (by decide) (by exact jD) (by exact rfl)))
   ·rintro D ρo wo nD eD cD jD aD ⟨f55, f56, _⟩
    refine go_plain (op_indexAddrN (E := sampE) (xs := l) i Try.underlying22 Try.sizeOf51 f55 h_l f56 (by omega) (by omega) (fun a372 o373 p374 => ?_))
    exact (kN0 (i := 6) hM (by decide) (by exact jD) (by exact ⟨_, _, rfl, p374⟩))
   ·rintro D ρo wo nD eD cD jD aD ⟨f57, _⟩
    obtain ⟨a375, o376, e377, p378⟩ := f57
    exact go_plain (op_fieldAddr (s := 0) Try.underlying51 rfl rfl Try.sizeOf2 e377 (kN0 (i := 7) hM (by decide) (by exact jD) (by exact ⟨_, _, rfl, p378⟩)))
   ·rintro D ρo wo nD eD cD jD aD ⟨f58, _⟩
    have hst := jD.2.1 (not_yet nD (fun hm => (cD 16 8 hm (by kernel_rfl))))
    obtain ⟨a379, o380, e381, p382⟩ := f58
    exact go_plain (op_load1 (u := (iV ((l[i]'(by omega)).T))) Try.isAgg2 e381 (p382.below hst.below) (kN0 (i := 8) hM (by decide) (by exact jD) (by exact rfl)))
   ·rintro D ρo wo nD eD cD jD aD ⟨f1, _⟩
    exact go_plain (op_move (iV k) (f1.trans uw358_1) (kN0 (i := 9) hM (by decide) (by exact jD) (by exact rfl)))
   ·rintro D ρo wo nD eD cD jD aD ⟨f59, f60, _⟩
    refine go_plain (op_call Try.call53 (evs_cons (v := (iV ((l[i]'(by omega)).T))) f59 (evs_cons (v := (iV k)) f60 evs_nil)) (c_rFloor (w0 := wo) (t := (l[i]'(by omega)).T) (k := k) (t0 := (hl _ (List.getElem_mem _)).1.1) (k0 := (by omega)) (t1 := (hl _ (List.getElem_mem _)).1.2) (k1 := (by omega))) ?_)
    rintro _ w383 ⟨rfl, hcall⟩
    refine ⟨_, rfl, ?_⟩
    exact kN (i := 10) hM (by decide) hcall.below (by exact ⟨(jD.1).ext hcall.below, (fun x0 => (jD.2.1 x0).ext hcall.below), (fun x0 => (jD.2.2 x0).ext hcall.below)⟩) (by exact rfl)
   ·rintro D ρo wo nD eD cD jD aD ⟨f54, f61, _⟩
    have hst := jD.2.1 (not_yet nD (fun hm => (cD 16 11 hm (by kernel_rfl))))
    obtain ⟨v385, e386⟩ : ∃ x, ρo 54 = x := ⟨_, rfl⟩
    have hs384 := f54
    replace hs384 : Sl w0 sampE v385 ((l.take n).drop i) := e386 ▸ hs384
    refine go_plain (op_call Try.call22 (evs_cons (v := v385) e386 (evs_cons (v := (iV (floorA ((l[i]'(by omega)).T) k))) f61 evs_nil)) (c_rAll (w0 := wo) (v_l := v385) (l := ((l.take n).drop i)) (h_l := (hs384.below hst.below)) (fr := (floorA ((l[i]'(by omega)).T) k)) (hl := (fun s h => hl s (List.mem_of_mem_take (List.mem_of_mem_drop h)))) (fr0 := (by omega)) (fr1 := (by omega)) (hn := (by simp; omega))) ?_)
    rintro _ w387 ⟨rfl, hcall⟩
    refine ⟨_, rfl, ?_⟩
    exact kN (i := 11) hM (by decide) hcall.below (by exact ⟨(jD.1).ext hcall.below, (fun x0 => (jD.2.1 x0).ext hcall.below), (fun x0 => (jD.2.2 x0).ext hcall.below)⟩) (by exact rfl)
   ·rintro D ρo wo nD eD cD jD aD ⟨f62, _⟩
    exact go_plain (op_move (.tuple #[(.agg (aggA ((allA ((l.take n).drop i) (floorA ((l[i]'(by omega)).T) k)).1))), (iV ((allA ((l.take n).drop i) (floorA ((l[i]'(by omega)).T) k)).2))]) f62 (kN0 (i := 12) hM (by decide) (by exact jD) (by exact rfl)))
   ·rintro D ρo wo nD eD cD jD aD ⟨f50, _⟩
    exact go_plain (op_extract (.agg (aggA ((allA ((l.take n).drop i) (floorA ((l[i]'(by omega)).T) k)).1))) f50 rfl (kN0 (i := 13) hM (by decide) (by exact jD) (by exact rfl)))
   ·rintro D ρo wo nD eD cD jD aD ⟨f50, _⟩
    exact go_plain (op_extract (iV ((allA ((l.take n).drop i) (floorA ((l[i]'(by omega)).T) k)).2)) f50 rfl (kN0 (i := 14) hM (by decide) (by exact jD) (by exact rfl)))
   ·rintro D ρo wo nD eD cD jD aD ⟨_⟩
    have hst := jD.2.1 (not_yet nD (fun hm => (cD 16 15 hm (by kernel_rfl))))
    have hst := St.start wo
    refine go_plain (op_alloc (cs := #[(iV 0), (iV 0), (iV 0), (iV 0), (iV 0), (iV 0), (iV 0)]) hst Try.zeroValue37 rfl (fun g388 w389 hst _ => ?_))
    exact kN (i := 15) hM (by decide) hst.below (by exact ⟨(jD.1).ext hst.below, (fun x0 => (jD.2.1 x0).ext hst.below), (fun x0 => (jD.2.2 x0).ext hst.below)⟩) (by exact ⟨_, rfl, (fun y0 => (jD.2.1 y0).call hst), (fun y0 => absurd (show D 16 = true from y0) (by rw [(not_yet nD (fun hm => (cD 16 15 hm (by kernel_rfl))))]; decide))⟩)
   ·rintro D ρo wo nD eD cD jD aD ⟨f9, f63, _⟩
    obtain ⟨g390, e391, hh392⟩ := aD 15 9 (eD 15 (by kernel_rfl)) rfl
    have hst : St w0 wo [.blk g390 37 #[(iV 0), (iV 0), (iV 0), (iV 0), (iV 0), (iV 0), (iV 0)], rowT 37 aggE vo out] := hh392.1 nD
    refine go_plain (op_storeAll hst 0 rfl Try.sizeOf37 e391 f63 rfl rfl (by simp [Value.oneCell']) (fun w393 hst => ?_))
    refine ⟨by exact ⟨hst.sub (.cons _ (.cons_cons _ .slnil)), (fun y0 => absurd y0 (fun h => Bool.noConfusion h)), (fun y0 => hst.sub (.cons _ (.cons_cons _ .slnil)))⟩, by exact trivial, kX [15] (by exact ⟨Or.inr (Or.inr (Or.inr iEq)), Or.inr (Or.inr (Or.inr iEq)), Or.inr (Or.inr (Or.inr iEq)), Or.inr (Or.inr (Or.inr iSl0)), Or.inr (Or.inr (Or.inr iEq)), Or.inr (Or.inr (Or.inr iEq)), Or.inr (Or.inr (Or.inr iPt0)), Or.inr (Or.inr (Or.inr iPt0)), Or.inr (Or.inr (Or.inr iEq)), Or.inr (Or.inr (Or.inr iEq)), Or.inr (Or.inr (Or.inr iEq)), Or.inr (Or.inr (Or.inr iEq)), Or.inr (Or.inr (Or.inr iEq)), Or.inr (Or.inr (Or.inr iEq)), Or.inr (Or.inr (Or.inr iEq)), Or.inr (Or.inl (by decide)), Or.inl rfl, Or.inr (Or.inr (Or.inl (not_yet nD (fun hm => (cD 17 16 hm (by kernel_rfl)))))), trivial⟩) ?_⟩
    intro j d hj hjd hDj h
    simp only [List.mem_cons, List.not_mem_nil, or_false] at hj
    subst hj
    obtain rfl : 9 = d := Option.some.inj hjd
    exact ⟨_, e391, (fun y0 => absurd y0 (fun h => Bool.noConfusion h)), (fun y0 => hst.sub (.cons_cons _ (.cons_cons _ .slnil)))⟩
   ·rintro D ρo wo nD eD cD jD aD ⟨f64, _⟩
    exact go_plain (op_assign (iV ((allA ((l.take n).drop i) (floorA ((l[i]'(by omega)).T) k)).2)) f64 (kN0 (i := 17) hM (by decide) (by exact jD) (by exact rfl)))
   intro ρ395 w396 Dw396 hallw396 hJw396 hRw396 hkw396
   obtain ⟨g397, uw396_9, hhw396⟩ := hRw396 15 9 rfl
   have hst : St w0 w396 [.blk g397 37 (aggA ((allA ((l.take n).drop i) (floorA ((l[i]'(by omega)).T) k)).1)), rowT 37 aggE vo out] := hhw396.2 (hallw396 16 (show 16 < 18 from by decide))
   have uw396_0 := (hkw396 0 rfl).trans uw358_0
   have uw396_1 := (hkw396 1 rfl).trans uw358_1
   have uw396_6 := (hkw396 6 rfl).trans uw358_6
   have uw396_8 := (hkw396 8 rfl).trans uw358_8
   have uw396_10 : ρ395 10 = (iV ((allA ((l.take n).drop i) (floorA ((l[i]'(by omega)).T) k)).2)) := hRw396 17 10 rfl
   refine then_n (cE_seq (cE_seq (cE_region rfl (s_cons (op_move (iV ((allA ((l.take n).drop i) (floorA ((l[i]'(by omega)).T) k)).2)) uw396_10 (s_cons (op_neq (k := .i64) (a := (allA ((l.take n).drop i) (floorA ((l[i]'(by omega)).T) k)).2) (b := 0) rfl rfl (s_nil (then_n ?_)))))))))
   rcases Bool.eq_false_or_eq_true (decide (((allA ((l.take n).drop i) (floorA ((l[i]'(by omega)).T) k)).2) = 0)) with b398 | b398
   ·have c399 := of_decide_eq_true b398
    refine cE_cond false (congrArg Value.bool (congrArg (! ·) b398)) (fun h => by cases h) (fun _ => ?_)
    refine cE_skip (then_n (cE_seq (cE_region rfl (s_cons (op_move vo uw396_6 (s_cons (op_loadN (cs := (aggC ((allA ((l.take n).drop i) (floorA ((l[i]'(by omega)).T) k)).1))) Try.isAgg37 Try.sizeOf37 uw396_9 (Pt.of (hst.cell 0 rfl) rfl) rfl (s_cons (op_buildSlice (E := aggE) [((allA ((l.take n).drop i) (floorA ((l[i]'(by omega)).T) k)).1)] hst Try.underlying23 Try.sizeOf37 Try.zeroValue37 (evp_cons (v := (.agg (aggA ((allA ((l.take n).drop i) (floorA ((l[i]'(by omega)).T) k)).1)))) rfl evp_nil) (parts_cons rfl parts_nil) rfl (by decide) (fun v400 w401 hst => ?_))))))))))
    refine s_cons (op_append (E := aggE) (xs := out) (ys := [((allA ((l.take n).drop i) (floorA ((l[i]'(by omega)).T) k)).1)]) (z := (.agg #[(iV 0), (iV 0), (iV 0), (iV 0), (iV 0), (iV 0), (iV 0)])) (bytes := 56) hst 2 rfl Try.underlying23 (by kernel_rfl) rfl rfl rfl (hst.sl 0 rfl) (by (simp; omega)) (by (simp; omega)) (fun v402 w403 hst => ?_))
    refine s_cons (op_assign v402 rfl (s_nil (then_n (cE_region rfl (s_cons (op_move (iV (n : Int)) uw396_8 (s_cons (op_assign (iV (n : Int)) rfl (s_nil (block_n (then_n ?_)))))))))))
    exact ⟨_, ⟨v402, (out ++ ([((allA ((l.take n).drop i) (floorA ((l[i]'(by omega)).T) k)).1)])), (f - 1), n, rfl, uw396_0, uw396_1, rfl, rfl, (hst.sub (.cons _ (.cons _ (.cons_cons _ .slnil)))), (by omega), (by omega), (by (simp; omega)), (by exact hI.trans (rrw_go (by omega) hf hw (by assumption) (by omega)))⟩, (by simp only [id]; omega)⟩
   have c404 := of_decide_eq_false b398
   refine cE_cond true (congrArg Value.bool (congrArg (! ·) b398)) (fun _ => ?_) (fun h => by cases h)
   refine cE_seq (cE_region rfl (s_cons (op_move (iV ((allA ((l.take n).drop i) (floorA ((l[i]'(by omega)).T) k)).2)) uw396_10 (s_cons (op_assign nS rfl (s_cons (op_assign (iV ((allA ((l.take n).drop i) (floorA ((l[i]'(by omega)).T) k)).2)) rfl (s_nil (then_n (cE_ret (then_r (block_r (then_r (block_r (then_r (post_r _ (res2 (v := nS) rfl (x := (iV ((allA ((l.take n).drop i) (floorA ((l[i]'(by omega)).T) k)).2))) rfl) ?_))))))))))))))))
   replace hst := hst.nilRow 37 aggE
   have e405 : [] = (rawA l k).1 := by exact (congrArg Prod.fst (hI.trans (rrw_stop (by omega) hf hw (by assumption)))).symm
   replace hst : St w0 w396 [rowT 37 aggE nS ((rawA l k).1), .blk g397 37 (aggA ((allA ((l.take n).drop i) (floorA ((l[i]'(by omega)).T) k)).1)), rowT 37 aggE vo out] := by rw [congrArg (fun l => rowT 37 aggE nS l) e405] at hst; exact hst
   exact ⟨nS, (retv2 rfl (congrArg iV (show (allA ((l.take n).drop i) (floorA ((l[i]'(by omega)).T) k)).2 = (rawA l k).2 from by exact (congrArg Prod.snd (hI.trans (rrw_stop (by omega) hf hw (by assumption)))).symm))), hst.sub (.cons_cons _ (.cons _ (.cons _ .slnil)))⟩
  have c406 := of_decide_eq_false b138
  refine cE_cond false (congrArg Value.bool b138) (fun h => by cases h) (fun _ => ?_)
  refine cE_exit (then_x (then_x (block_hit (then_n (cE_seq (cE_region rfl (s_cons (op_move vo q134_6 (s_cons (op_assign vo rfl (s_cons (op_assign (iV 0) rfl (s_nil (then_n (cE_ret (post_r _ (res2 (v := vo) rfl (x := (iV 0)) rfl) ?_))))))))))))))))
  have e407 : out = (rawA l k).1 := by exact (congrArg Prod.fst (hI.trans (rrw_end (by omega)))).symm
  replace hst : St w0 w137 [rowT 37 aggE vo ((rawA l k).1)] := by rw [congrArg (fun l => rowT 37 aggE vo l) e407] at hst; exact hst
  exact ⟨vo, (retv2 rfl (congrArg iV (show 0 = (rawA l k).2 from by exact (congrArg Prod.snd (hI.trans (rrw_end (by omega)))).symm))), hst.sub (.cons_cons _ .slnil)⟩
 refine cE_cond true (congrArg Value.bool (congrArg (! ·) b133)) (fun _ => ?_) (fun h => by cases h)
 refine cE_seq (cE_region rfl (s_cons (op_assign nS rfl (s_cons (op_assign (iV 1) rfl (s_nil (then_n (cE_ret (then_r (post_r _ (res2 (v := nS) rfl (x := (iV 1)) rfl) ?_))))))))))
 replace hst := hst.nilRow 37 aggE
 have e408 : [] = (rawA l k).1 := by exact (congrArg Prod.fst (raw_none (Or.inl (by assumption)))).symm
 replace hst : St w0 w132 [rowT 37 aggE nS ((rawA l k).1)] := by rw [congrArg (fun l => rowT 37 aggE nS l) e408] at hst; exact hst
 exact ⟨nS, (retv2 rfl (congrArg iV (show 1 = (rawA l k).2 from by exact (congrArg Prod.snd (raw_none (Or.inl (by assumption)))).symm))), hst.sub (.cons_cons _ .slnil)⟩

set_option maxRecDepth 8000 in
set_option maxHeartbeats 8000000 in
theorem c_rDown (w0 : World) (v_l : Value) (l : List Agg) (h_l : Sl w0 aggE v_l l) (k : Int) (hl : ∀ s ∈ l, s.ok) (hn : l.length ≤ 1000000) (k0 : -9223372036854775808 ≤ k) (k1 : k ≤ 9223372036854775807) :
  Calls Try.prog 45 #[v_l, (iV k)] w0 fun e w' => ∃ (r : Value), e = .returned (.tuple #[r, (iV ((downA l k).2))]) ∧ St w0 w' [rowT 37 aggE r ((downA l k).1)] := by
 refine calls_E (n := 77) (ts := [4, 5]) Try.func45 rfl rfl rfl (by simp) ?_
 have hst := St.start w0
 refine cE_seq (cE_region rfl (s_cons (op_assign nS rfl (s_cons (op_assign (iV 0) rfl (s_nil (then_n (cE_seq (cE_seq (cE_region rfl (s_cons (op_move (iV k) rfl (s_cons (op_lss (k := .i64) (a := k) (b := 2) rfl rfl (s_cons (op_move (.bool (decide (k < 2))) rfl ?_))))))))))))))))
 rcases Bool.eq_false_or_eq_true (decide (k < 2)) with b409 | b409
 ·have c410 := of_decide_eq_true b409
  refine s_no 14 rfl (congrArg Value.bool b409) (s_no 14 rfl (congrArg Value.bool b409) (s_cons (op_pick_t (.bool true) (congrArg Value.bool b409) rfl (s_cons (op_move (.bool true) rfl (s_no 18 rfl rfl (s_no 18 rfl rfl (s_no 18 rfl rfl (s_no 18 rfl rfl (s_no 18 rfl rfl (s_cons (op_pick_t (.bool true) rfl rfl (s_nil (then_n (cE_cond true rfl (fun _ => ?_) (fun h => by cases h))))))))))))))))
  refine cE_seq (cE_region rfl (s_cons (op_assign nS rfl (s_cons (op_assign (iV 1) rfl (s_nil (then_n (cE_ret (then_r (post_r _ (res2 (v := nS) rfl (x := (iV 1)) rfl) ?_))))))))))
  replace hst := hst.nilRow 37 aggE
  have e411 : [] = (downA l k).1 := by exact (congrArg Prod.fst (down_none (Or.inl (by omega)))).symm
  replace hst : St w0 w0 [rowT 37 aggE nS ((downA l k).1)] := by rw [congrArg (fun l => rowT 37 aggE nS l) e411] at hst; exact hst
  exact ⟨nS, (retv2 rfl (congrArg iV (show 1 = (downA l k).2 from by exact (congrArg Prod.snd (down_none (Or.inl (by omega)))).symm))), hst.sub (.cons_cons _ .slnil)⟩
 have c412 := of_decide_eq_false b409
 refine s_yes 14 rfl (congrArg Value.bool b409) (op_move (iV k) rfl (s_yes 14 rfl (congrArg Value.bool b409) (op_gtr (k := .i64) (a := k) (b := 3) rfl rfl (s_cons (op_pick_f (.bool (decide (3 < k))) (congrArg Value.bool b409) rfl (s_cons (op_move (.bool (decide (3 < k))) rfl ?_)))))))
 rcases Bool.eq_false_or_eq_true (decide (3 < k)) with b413 | b413
 ·have c414 := of_decide_eq_true b413
  refine s_no 18 rfl (congrArg Value.bool b413) (s_no 18 rfl (congrArg Value.bool b413) (s_no 18 rfl (congrArg Value.bool b413) (s_no 18 rfl (congrArg Value.bool b413) (s_no 18 rfl (congrArg Value.bool b413) (s_cons (op_pick_t (.bool true) (congrArg Value.bool b413) rfl (s_nil (then_n (cE_cond true rfl (fun _ => ?_) (fun h => by cases h))))))))))
  refine cE_seq (cE_region rfl (s_cons (op_assign nS rfl (s_cons (op_assign (iV 1) rfl (s_nil (then_n (cE_ret (then_r (post_r _ (res2 (v := nS) rfl (x := (iV 1)) rfl) ?_))))))))))
  replace hst := hst.nilRow 37 aggE
  have e415 : [] = (downA l k).1 := by exact (congrArg Prod.fst (down_none (Or.inr (Or.inr (coarse_no (by omega)))))).symm
  replace hst : St w0 w0 [rowT 37 aggE nS ((downA l k).1)] := by rw [congrArg (fun l => rowT 37 aggE nS l) e415] at hst; exact hst
  exact ⟨nS, (retv2 rfl (congrArg iV (show 1 = (downA l k).2 from by exact (congrArg Prod.snd (down_none (Or.inr (Or.inr (coarse_no (by omega)))))).symm))), hst.sub (.cons_cons _ .slnil)⟩
 have c416 := of_decide_eq_false b413
 refine s_yes 18 rfl (congrArg Value.bool b413) (op_move v_l rfl (s_yes 18 rfl (congrArg Value.bool b413) (op_move (iV k) rfl (s_yes 18 rfl (congrArg Value.bool b413) (op_sub (k := .i64) (a := k) (b := 1) (k - 1) rfl rfl (xi64 (by omega) (by omega)) (s_yes 18 rfl (congrArg Value.bool b413) (op_call Try.call52 (evs_cons (v := v_l) rfl (evs_cons (v := (iV (k - 1))) rfl evs_nil)) (c_rAligned (w0 := w0) (v_l := v_l) (l := l) (h_l := (h_l.below hst.below)) (k := (k - 1)) (hl := hl) (k0 := (by omega)) (k1 := (by omega))) ?_)))))))
 rintro _ w417 ⟨rfl, hcall⟩
 refine ⟨_, rfl, ?_⟩
 have hst := hst.call hcall
 refine s_yes 18 rfl (congrArg Value.bool b413) (op_not (b := alignedA l (k - 1)) rfl (s_cons (op_pick_f (.bool (!(alignedA l (k - 1)))) (congrArg Value.bool b413) rfl (s_nil (then_n ?_)))))
 rcases Bool.eq_false_or_eq_true (alignedA l (k - 1)) with b418 | b418
 ·have hal := b418
  have ham := aligned_may hal
  refine cE_cond false (congrArg Value.bool (congrArg (! ·) b418)) (fun h => by cases h) (fun _ => ?_)
  refine cE_skip (then_n (cE_seq ?_))
  have hco := coarse_yes (k := k) (by omega) (by omega)
  refine cE_region rfl (s_cons (op_assign nS rfl (s_nil (then_n (cE_seq (cE_seq (cE_region rfl (s_cons (op_assign (iV 0) rfl (s_nil (then_n (cE_block ?_))))))))))))
  replace hst := hst.nilRow 37 aggE
  refine cE_loop (fun (m : Nat) (ρ : Env) (w : World) => ∃ (vo : Value) (out : List Agg) (i : Nat), m = l.length - i ∧ ρ 0 = v_l ∧ ρ 1 = (iV k) ∧ ρ 7 = (iV (i : Int)) ∧ ρ 6 = vo ∧ St w0 w [rowT 37 aggE vo out] ∧ (i ≤ l.length) ∧ (out.length ≤ i) ∧ (downA l k = downL k (l.drop i) out) ∧ (Fresh l out k i)) id _ ⟨nS, [], 0, rfl, rfl, rfl, (congrArg iV (show 0 = _ from by omega)), rfl, hst, (by omega), (by (simp; done)), (by exact down_start (by omega) hal hco), (by exact fresh_nil)⟩ ?_
  rintro m420 ρ421 w422 ⟨vo, out, i, hm420, q419_0, q419_1, q419_7, q419_6, hst, hi, hout, hI, hF⟩
  refine cE_seq (cE_seq (cE_region rfl (s_cons (op_move (iV (i : Int)) q419_7 (s_cons (op_move v_l q419_0 (s_cons (op_len (E := aggE) (xs := l) Try.underlying23 rfl h_l (s_cons (op_lss (k := .i64) (a := (i : Int)) (b := (l.length : Int)) rfl rfl (s_nil (then_n ?_))))))))))))
  rcases Bool.eq_false_or_eq_true (decide ((i : Int) < (l.length : Int))) with b423 | b423
  ·have c424 := of_decide_eq_true b423
   refine cE_cond true (congrArg Value.bool b423) (fun _ => ?_) (fun h => by cases h)
   refine cE_skip (then_n (cE_block (cE_seq ?_)))
   have hli := hl _ (List.getElem_mem (show i < l.length by omega))
   refine cE_region rfl (s_cons (op_move v_l q419_0 (s_cons (op_move (iV (i : Int)) q419_7 (s_cons (op_indexAddrN (E := aggE) (xs := l) i Try.underlying23 Try.sizeOf37 rfl h_l rfl (by omega) (by omega) (fun a425 o426 p427 => ?_)))))))
   refine s_cons (op_loadN (cs := (aggC (l[i]'(by omega)))) Try.isAgg37 Try.sizeOf37 rfl (Pt.of (p427.below hst.below) rfl) rfl (s_cons (op_alloc (cs := #[(iV 0), (iV 0), (iV 0), (iV 0), (iV 0), (iV 0), (iV 0)]) hst Try.zeroValue37 rfl (fun g428 w429 hst _ => ?_))))
   refine s_cons0 (op_storeAll hst 0 rfl Try.sizeOf37 rfl rfl rfl rfl (by simp [Value.oneCell']) (fun w430 hst => ?_))
   refine s_nil (then_n (cE_seq (cE_region rfl (s_cons (op_fieldAddr (s := 0) Try.underlying37 rfl rfl Try.sizeOf2 rfl (s_cons (op_load1 (u := (iV ((l[i]'(by omega)).From))) Try.isAgg2 rfl (hst.cell 0 rfl) (s_cons (op_move (iV k) q419_1 (s_cons (op_call Try.call53 (evs_cons (v := (iV ((l[i]'(by omega)).From))) rfl (evs_cons (v := (iV k)) rfl evs_nil)) (c_rFloor (w0 := w430) (t := (l[i]'(by omega)).From) (k := k) (t0 := (by omega)) (k0 := (by omega)) (t1 := (by omega)) (k1 := (by omega))) ?_)))))))))))
   rintro _ w431 ⟨rfl, hcall⟩
   refine ⟨_, rfl, ?_⟩
   have hst := hst.call hcall
   refine s_cons (op_fieldAddr (s := 0) Try.underlying37 rfl rfl Try.sizeOf2 rfl (s_cons0 (op_store1 hst 0 rfl Try.sizeOf2 rfl rfl rfl (show 0 < 7 from by decide) (fun w432 hst => ?_))))
   refine s_nil (then_n (cE_seq ?_))
   have hai := atK_ok (k := k) hli
   refine cE_region rfl (s_cons (op_move (iV (i : Int)) q419_7 (s_cons (op_add (k := .i64) (a := (i : Int)) (b := 1) ((i : Int) + 1) rfl rfl (xi64 (by omega) (by omega)) (s_cons (op_assign (iV ((i : Int) + 1)) rfl (s_nil (then_n (cE_seq (cE_block (cE_loop (fun (m : Nat) (ρ : Env) (w : World) => ∃ (a : Agg) (n : Nat), m = l.length - n ∧ ρ 0 = v_l ∧ ρ 1 = (iV k) ∧ ρ 7 = (iV (i : Int)) ∧ ρ 6 = vo ∧ ρ 8 = (.pointer (some ⟨g428, 0, none⟩)) ∧ ρ 9 = (iV (n : Int)) ∧ St w0 w [.blk g428 37 (aggA a), rowT 37 aggE vo out] ∧ (i < n) ∧ (n ≤ l.length) ∧ a.ok ∧ (downA l k = downL k (l.drop n) (out ++ [a]))) id _ ⟨(⟨(floorA ((l[i]'(by omega)).From) k), (l[i]'(by omega)).Count, (l[i]'(by omega)).Sum, (l[i]'(by omega)).Min, (l[i]'(by omega)).Max, (l[i]'(by omega)).First, (l[i]'(by omega)).Last⟩ : Agg), (i + 1), rfl, q419_0, q419_1, q419_7, q419_6, rfl, (congrArg iV (show ((i : Int) + 1) = _ from by omega)), (hst.sub (.cons_cons _ (.cons_cons _ .slnil))), (by omega), (by omega), (by exact hai), (by exact hI.trans (down_fresh (by omega) hF))⟩ ?_)))))))))))
   rintro m434 ρ435 w436 ⟨a, n, hm434, q433_0, q433_1, q433_7, q433_6, q433_8, q433_9, hst, hn1, hnr, hao, hJ⟩
   have hel := fun (s : Agg) (h : s ∈ l) => (hl s h).1
   refine cE_seq (cE_seq ?_)
   rcases Bool.eq_false_or_eq_true (decide ((n : Int) < (l.length : Int))) with b437 | b437
   ·have c438 := of_decide_eq_true b437
    refine cE_regionL hst [[(9, none)], [(0, none)], [(41, some 1)], [(40, some 0), (42, some 2)], [(43, some 3)], [(0, none), (44, some 4)], [(9, none), (44, some 4)], [(45, some 5), (46, some 6), (44, some 4)], [(47, some 7), (44, some 4)], [(48, some 8), (44, some 4)], [(1, none), (44, some 4)], [(49, some 9), (50, some 10), (44, some 4)], [(8, none), (44, some 4)], [(52, some 12), (44, some 4)], [(51, some 11), (53, some 13), (44, some 4)], [(44, some 4), (54, some 14)]] [(rEq (iV (n : Int))), (rEq v_l), (rEq (iV (l.length : Int))), (rEq (.bool (decide ((n : Int) < (l.length : Int))))), (rEq (.bool (decide ((n : Int) < (l.length : Int))))), (rEq v_l), (rEq (iV (n : Int))), (rPt (aggC (l[n]'(by omega)))), (rPt (aggC (l[n]'(by omega)))), (rEq (iV ((l[n]'(by omega)).From))), (rEq (iV k)), (rEq (iV (floorA ((l[n]'(by omega)).From) k))), (rEq (.pointer (some ⟨g428, (0 + 0), none⟩))), (rEq (iV a.From)), (rEq (.bool (decide ((floorA ((l[n]'(by omega)).From) k) = a.From)))), (rEq (.bool (decide ((floorA ((l[n]'(by omega)).From) k) = a.From))))] (by kernel_rfl) rfl (by kernel_rfl) ⟨sEq, sEq, sEq, sEq, sEq, sEq, sEq, sPt, sPt, sEq, sEq, sEq, sEq, sEq, sEq, sEq, trivial⟩ ⟨?_, ?_, ?_, ?_, ?_, ?_, ?_, ?_, ?_, ?_, ?_, ?_, ?_, ?_, ?_, ?_, trivial⟩ ?_
    ·rintro ρ443 w444 hj445 ⟨f9, _⟩
     have hst := hj445.2
     exact go_plain (op_move (iV (n : Int)) (f9.trans q433_9) (kS hj445 rfl))
    ·rintro ρ446 w447 hj448 ⟨f0, _⟩
     have hst := hj448.2
     exact go_plain (op_move v_l (f0.trans q433_0) (kS hj448 rfl))
    ·rintro ρ449 w450 hj451 ⟨f41, _⟩
     have hst := hj451.2
     exact go_plain (op_len (E := aggE) (xs := l) Try.underlying23 f41 h_l (kS hj451 rfl))
    ·rintro ρ452 w453 hj454 ⟨f40, f42, _⟩
     have hst := hj454.2
     exact go_plain (op_lss (k := .i64) (a := (n : Int)) (b := (l.length : Int)) f40 f42 (kS hj454 rfl))
    ·rintro ρ455 w456 hj457 ⟨f43, _⟩
     have hst := hj457.2
     exact go_plain (op_move (.bool (decide ((n : Int) < (l.length : Int)))) f43 (kS hj457 rfl))
    ·rintro ρ458 w459 hj460 ⟨f0, f44, _⟩
     have hst := hj460.2
     exact go_yes 44 rfl (f44.trans (congrArg Value.bool b437)) (op_move v_l (f0.trans q433_0) (kS hj460 rfl))
    ·rintro ρ461 w462 hj463 ⟨f9, f44, _⟩
     have hst := hj463.2
     exact go_yes 44 rfl (f44.trans (congrArg Value.bool b437)) (op_move (iV (n : Int)) (f9.trans q433_9) (kS hj463 rfl))
    ·rintro ρ464 w465 hj466 ⟨f45, f46, f44, _⟩
     have hst := hj466.2
     refine go_yes 44 rfl (f44.trans (congrArg Value.bool b437)) (op_indexAddrN (E := aggE) (xs := l) n Try.underlying23 Try.sizeOf37 f45 h_l f46 (by omega) (by omega) (fun a467 o468 p469 => ?_))
     exact kS hj466 ⟨_, _, rfl, (p469.below hst.below)⟩
    ·rintro ρ470 w471 hj472 ⟨f47, f44, _⟩
     have hst := hj472.2
     obtain ⟨a473, o474, e475, p476⟩ := f47
     exact go_yes 44 rfl (f44.trans (congrArg Value.bool b437)) (op_fieldAddr (s := 0) Try.underlying37 rfl rfl Try.sizeOf2 e475 (kS hj472 ⟨_, _, rfl, p476⟩))
    ·rintro ρ477 w478 hj479 ⟨f48, f44, _⟩
     have hst := hj479.2
     obtain ⟨a480, o481, e482, p483⟩ := f48
     exact go_yes 44 rfl (f44.trans (congrArg Value.bool b437)) (op_load1 (u := (iV ((l[n]'(by omega)).From))) Try.isAgg2 e482 p483 (kS hj479 rfl))
    ·rintro ρ484 w485 hj486 ⟨f1, f44, _⟩
     have hst := hj486.2
     exact go_yes 44 rfl (f44.trans (congrArg Value.bool b437)) (op_move (iV k) (f1.trans q433_1) (kS hj486 rfl))
    ·rintro ρ487 w488 hj489 ⟨f49, f50, f44, _⟩
     have hst := hj489.2
     refine go_yes 44 rfl (f44.trans (congrArg Value.bool b437)) (op_call Try.call53 (evs_cons (v := (iV ((l[n]'(by omega)).From))) f49 (evs_cons (v := (iV k)) f50 evs_nil)) (c_rFloor (w0 := w488) (t := (l[n]'(by omega)).From) (k := k) (t0 := (by exact (hl _ (List.getElem_mem _)).1.1)) (k0 := (by omega)) (t1 := (by exact (hl _ (List.getElem_mem _)).1.2)) (k1 := (by omega))) ?_)
     rintro _ w490 ⟨rfl, hcall⟩
     refine ⟨_, rfl, ?_⟩
     exact kD hj489 hcall rfl
    ·rintro ρ491 w492 hj493 ⟨f8, f44, _⟩
     have hst := hj493.2
     exact go_yes 44 rfl (f44.trans (congrArg Value.bool b437)) (op_fieldAddr (s := 0) Try.underlying37 rfl rfl Try.sizeOf2 (f8.trans q433_8) (kS hj493 rfl))
    ·rintro ρ494 w495 hj496 ⟨f52, f44, _⟩
     have hst := hj496.2
     exact go_yes 44 rfl (f44.trans (congrArg Value.bool b437)) (op_load1 (u := (iV a.From)) Try.isAgg2 f52 (hst.cell 0 rfl) (kS hj496 rfl))
    ·rintro ρ497 w498 hj499 ⟨f51, f53, f44, _⟩
     have hst := hj499.2
     exact go_yes 44 rfl (f44.trans (congrArg Value.bool b437)) (op_eql (k := .i64) (a := (floorA ((l[n]'(by omega)).From) k)) (b := a.From) f51 f53 (kS hj499 rfl))
    ·rintro ρ500 w501 hj502 ⟨f44, f54, _⟩
     have hst := hj502.2
     exact go_plain (op_pick_t (.bool (decide ((floorA ((l[n]'(by omega)).From) k) = a.From))) (f44.trans (congrArg Value.bool b437)) f54 (kS hj502 rfl))
    intro ρ503 w504 hbw504 hst hRw504 hkw504
    have uw504_0 := (hkw504 0 rfl).trans q433_0
    have uw504_1 := (hkw504 1 rfl).trans q433_1
    have uw504_7 := (hkw504 7 rfl).trans q433_7
    have uw504_6 := (hkw504 6 rfl).trans q433_6
    have uw504_8 := (hkw504 8 rfl).trans q433_8
    have uw504_9 := (hkw504 9 rfl).trans q433_9
    have uw504_55 : ρ503 55 = (.bool (decide ((floorA ((l[n]'(by omega)).From) k) = a.From))) := hRw504 15 55 rfl
    refine then_n ?_
    rcases Bool.eq_false_or_eq_true (decide ((floorA ((l[n]'(by omega)).From) k) = a.From)) with b505 | b505
    ·have c506 := of_decide_eq_true b505
     refine cE_cond true (uw504_55.trans (congrArg Value.bool b505)) (fun _ => ?_) (fun h => by cases h)
     refine cE_skip (then_n (cE_block (cE_seq (cE_regionM (fun (D : Nat → Bool) (w : World) => St w0 w [.blk g428 37 (aggA a), rowT 37 aggE vo out] ∧ (D 10 = false → St w0 w [.blk g428 37 (aggA a), rowT 37 aggE vo out]) ∧ (D 10 = true → St w0 w [.blk g428 37 (aggA a), rowT 37 aggE vo out])) [[(8, none)], [(0, none)], [(9, none)], [(58, some 1), (59, some 2)], [(60, some 3)], [(57, some 0), (61, some 4)], [(62, some 5)], [(56, some 6)], [(56, some 6)], [], [(10, some 9), (63, some 7)], [(64, some 8)]] [10] [(kEq (.agg (aggA a))), (kEq v_l), (kEq (iV (n : Int))), (kPt0 w0 (aggC (l[n]'(by omega)))), (kEq (.agg (aggA (l[n]'(by omega))))), (kEq (.tuple #[(.agg (aggA ((joinA a (l[n]'(by omega))).1))), (iV ((joinA a (l[n]'(by omega))).2))])), (kEq (.tuple #[(.agg (aggA ((joinA a (l[n]'(by omega))).1))), (iV ((joinA a (l[n]'(by omega))).2))])), (kEq (.agg (aggA ((joinA a (l[n]'(by omega))).1)))), (kEq (iV ((joinA a (l[n]'(by omega))).2))), (fun (D : Nat → Bool) (v : Value) (w : World) => ∃ g511 : Nat, v = .pointer (some ⟨g511, 0, none⟩) ∧ (D 10 = false → St w0 w [.blk g511 37 #[(iV 0), (iV 0), (iV 0), (iV 0), (iV 0), (iV 0), (iV 0)], .blk g428 37 (aggA a), rowT 37 aggE vo out]) ∧ (D 10 = true → St w0 w [.blk g511 37 (aggA ((joinA a (l[n]'(by omega))).1)), .blk g428 37 (aggA a), rowT 37 aggE vo out])), kAny, (kEq (iV ((joinA a (l[n]'(by omega))).2)))] ⟨mEq, mEq, mEq, mPt0, mEq, mEq, mEq, mEq, mEq, (fun D D' v w w' hD hb ⟨g, h1, h2⟩ => ⟨g, h1, (fun x0 => (h2.1 ((hD 10 (by decide)).symm.trans x0)).ext hb), (fun x0 => (h2.2 ((hD 10 (by decide)).symm.trans x0)).ext hb)⟩), mAny, mEq, trivial⟩ (by kernel_rfl) rfl (by kernel_rfl) ⟨hst.drewW.sub (.cons_cons _ (.cons_cons _ .slnil)), (fun _ => hst.drewW), (fun h => absurd h Bool.false_ne_true)⟩ (fun hM => ⟨?_, ?_, ?_, ?_, ?_, ?_, ?_, ?_, ?_, ?_, ?_, ?_, trivial⟩) ?_))))
     ·rintro D ρo wo nD eD cD jD aD ⟨f8, _⟩
      have hst := jD.2.1 (not_yet nD (fun hm => (cD 10 0 hm (by kernel_rfl))))
      exact go_plain (op_loadN (cs := (aggC a)) Try.isAgg37 Try.sizeOf37 (f8.trans uw504_8) (Pt.of (hst.cell 0 rfl) rfl) rfl (kN0 (i := 0) hM (by decide) (by exact jD) (by exact rfl)))
     ·rintro D ρo wo nD eD cD jD aD ⟨f0, _⟩
      exact go_plain (op_move v_l (f0.trans uw504_0) (kN0 (i := 1) hM (by decide) (by exact jD) (by exact rfl)))
     ·rintro D ρo wo nD eD cD jD aD ⟨f9, _⟩
      exact go_plain (op_move (iV (n : Int)) (f9.trans uw504_9) (kN0 (i := 2) hM (by decide) (by exact jD) (by exact rfl)))
     ·rintro D ρo wo nD eD cD jD aD ⟨f58, f59, _⟩
      refine go_plain (op_indexAddrN (E := aggE) (xs := l) n Try.underlying23 Try.sizeOf37 f58 h_l f59 (by omega) (by omega) (fun a515 o516 p517 => ?_))
      exact (kN0 (i := 3) hM (by decide) (by exact jD) (by exact ⟨_, _, rfl, p517⟩))
     ·rintro D ρo wo nD eD cD jD aD ⟨f60, _⟩
      have hst := jD.2.1 (not_yet nD (fun hm => (cD 10 4 hm (by kernel_rfl))))
      obtain ⟨a518, o519, e520, p521⟩ := f60
      exact go_plain (op_loadN (cs := (aggC (l[n]'(by omega)))) Try.isAgg37 Try.sizeOf37 e520 (Pt.of (p521.below hst.below) rfl) rfl (kN0 (i := 4) hM (by decide) (by exact jD) (by exact rfl)))
     ·rintro D ρo wo nD eD cD jD aD ⟨f57, f61, _⟩
      refine go_plain (op_call Try.call35 (evs_cons (v := (.agg (aggA a))) f57 (evs_cons (v := (.agg (aggA (l[n]'(by omega))))) f61 evs_nil)) (c_rJoin (w0 := wo) (a := a) (b := (l[n]'(by omega))) (ha := hao) (hb := (hl _ (List.getElem_mem _)))) ?_)
      rintro _ w522 ⟨rfl, hcall⟩
      refine ⟨_, rfl, ?_⟩
      exact kN (i := 5) hM (by decide) hcall.below (by exact ⟨(jD.1).ext hcall.below, (fun x0 => (jD.2.1 x0).ext hcall.below), (fun x0 => (jD.2.2 x0).ext hcall.below)⟩) (by exact rfl)
     ·rintro D ρo wo nD eD cD jD aD ⟨f62, _⟩
      exact go_plain (op_move (.tuple #[(.agg (aggA ((joinA a (l[n]'(by omega))).1))), (iV ((joinA a (l[n]'(by omega))).2))]) f62 (kN0 (i := 6) hM (by decide) (by exact jD) (by exact rfl)))
     ·rintro D ρo wo nD eD cD jD aD ⟨f56, _⟩
      exact go_plain (op_extract (.agg (aggA ((joinA a (l[n]'(by omega))).1))) f56 rfl (kN0 (i := 7) hM (by decide) (by exact jD) (by exact rfl)))
     ·rintro D ρo wo nD eD cD jD aD ⟨f56, _⟩
      exact go_plain (op_extract (iV ((joinA a (l[n]'(by omega))).2)) f56 rfl (kN0 (i := 8) hM (by decide) (by exact jD) (by exact rfl)))
     ·rintro D ρo wo nD eD cD jD aD ⟨_⟩
      have hst := jD.2.1 (not_yet nD (fun hm => (cD 10 9 hm (by kernel_rfl))))
      have hst := St.start wo
      refine go_plain (op_alloc (cs := #[(iV 0), (iV 0), (iV 0), (iV 0), (iV 0), (iV 0), (iV 0)]) hst Try.zeroValue37 rfl (fun g523 w524 hst _ => ?_))
      exact kN (i := 9) hM (by decide) hst.below (by exact ⟨(jD.1).ext hst.below, (fun x0 => (jD.2.1 x0).ext hst.below), (fun x0 => (jD.2.2 x0).ext hst.below)⟩) (by exact ⟨_, rfl, (fun y0 => (jD.2.1 y0).call hst), (fun y0 => absurd (show D 10 = true from y0) (by rw [(not_yet nD (fun hm => (cD 10 9 hm (by kernel_rfl))))]; decide))⟩)
     ·rintro D ρo wo nD eD cD jD aD ⟨f10, f63, _⟩
      obtain ⟨g525, e526, hh527⟩ := aD 9 10 (eD 9 (by kernel_rfl)) rfl
      have hst : St w0 wo [.blk g525 37 #[(iV 0), (iV 0), (iV 0), (iV 0), (iV 0), (iV 0), (iV 0)], .blk g428 37 (aggA a), rowT 37 aggE vo out] := hh527.1 nD
      refine go_plain (op_storeAll hst 0 rfl Try.sizeOf37 e526 f63 rfl rfl (by simp [Value.oneCell']) (fun w528 hst => ?_))
      refine ⟨by exact ⟨hst.sub (.cons _ (.cons_cons _ (.cons_cons _ .slnil))), (fun y0 => absurd y0 (fun h => Bool.noConfusion h)), (fun y0 => hst.sub (.cons _ (.cons_cons _ (.cons_cons _ .slnil))))⟩, by exact trivial, kX [9] (by exact ⟨Or.inr (Or.inr (Or.inr iEq)), Or.inr (Or.inr (Or.inr iEq)), Or.inr (Or.inr (Or.inr iEq)), Or.inr (Or.inr (Or.inr iPt0)), Or.inr (Or.inr (Or.inr iEq)), Or.inr (Or.inr (Or.inr iEq)), Or.inr (Or.inr (Or.inr iEq)), Or.inr (Or.inr (Or.inr iEq)), Or.inr (Or.inr (Or.inr iEq)), Or.inr (Or.inl (by decide)), Or.inl rfl, Or.inr (Or.inr (Or.inl (not_yet nD (fun hm => (cD 11 10 hm (by kernel_rfl)))))), trivial⟩) ?_⟩
      intro j d hj hjd hDj h
      simp only [List.mem_cons, List.not_mem_nil, or_false] at hj
      subst hj
      obtain rfl : 10 = d := Option.some.inj hjd
      exact ⟨_, e526, (fun y0 => absurd y0 (fun h => Bool.noConfusion h)), (fun y0 => hst.sub (.cons_cons _ (.cons_cons _ (.cons_cons _ .slnil))))⟩
     ·rintro D ρo wo nD eD cD jD aD ⟨f64, _⟩
      exact go_plain (op_assign (iV ((joinA a (l[n]'(by omega))).2)) f64 (kN0 (i := 11) hM (by decide) (by exact jD) (by exact rfl)))
     intro ρ530 w531 Dw531 hallw531 hJw531 hRw531 hkw531
     obtain ⟨g532, uw531_10, hhw531⟩ := hRw531 9 10 rfl
     have hst : St w0 w531 [.blk g532 37 (aggA ((joinA a (l[n]'(by omega))).1)), .blk g428 37 (aggA a), rowT 37 aggE vo out] := hhw531.2 (hallw531 10 (show 10 < 12 from by decide))
     have uw531_0 := (hkw531 0 rfl).trans uw504_0
     have uw531_1 := (hkw531 1 rfl).trans uw504_1
     have uw531_7 := (hkw531 7 rfl).trans uw504_7
     have uw531_6 := (hkw531 6 rfl).trans uw504_6
     have uw531_8 := (hkw531 8 rfl).trans uw504_8
     have uw531_9 := (hkw531 9 rfl).trans uw504_9
     have uw531_11 : ρ530 11 = (iV ((joinA a (l[n]'(by omega))).2)) := hRw531 11 11 rfl
     refine then_n (cE_seq (cE_seq (cE_region rfl (s_cons (op_move (iV ((joinA a (l[n]'(by omega))).2)) uw531_11 (s_cons (op_neq (k := .i64) (a := (joinA a (l[n]'(by omega))).2) (b := 0) rfl rfl (s_nil (then_n ?_)))))))))
     rcases Bool.eq_false_or_eq_true (decide (((joinA a (l[n]'(by omega))).2) = 0)) with b533 | b533
     ·have c534 := of_decide_eq_true b533
      refine cE_cond false (congrArg Value.bool (congrArg (! ·) b533)) (fun h => by cases h) (fun _ => ?_)
      refine cE_skip (then_n (cE_seq (cE_region rfl (s_cons (op_loadN (cs := (aggC ((joinA a (l[n]'(by omega))).1))) Try.isAgg37 Try.sizeOf37 uw531_10 (Pt.of (hst.cell 0 rfl) rfl) rfl (s_cons0 (op_storeAll hst 1 rfl Try.sizeOf37 uw531_8 rfl rfl rfl (by simp [Value.oneCell']) (fun w535 hst => ?_))))))))
      refine s_nil (then_n (cE_region rfl (s_cons (op_move (iV (n : Int)) uw531_9 (s_cons (op_add (k := .i64) (a := (n : Int)) (b := 1) ((n : Int) + 1) rfl rfl (xi64 (by omega) (by omega)) (s_cons (op_assign (iV ((n : Int) + 1)) rfl (s_nil (block_n (then_n ?_)))))))))))
      exact ⟨_, ⟨((joinA a (l[n]'(by omega))).1), (n + 1), rfl, uw531_0, uw531_1, uw531_7, uw531_6, uw531_8, (congrArg iV (show ((n : Int) + 1) = _ from by omega)), (hst.sub (.cons _ (.cons_cons _ (.cons_cons _ .slnil)))), (by omega), (by omega), (by exact joinA_ok hao (hl _ (List.getElem_mem _))), (by exact hJ.trans (rd_join (by omega) (by assumption) (ham _ (List.getElem_mem _)) hco (by assumption)))⟩, (by simp only [id]; omega)⟩
     have c536 := of_decide_eq_false b533
     refine cE_cond true (congrArg Value.bool (congrArg (! ·) b533)) (fun _ => ?_) (fun h => by cases h)
     refine cE_seq (cE_region rfl (s_cons (op_move (iV ((joinA a (l[n]'(by omega))).2)) uw531_11 (s_cons (op_assign nS rfl (s_cons (op_assign (iV ((joinA a (l[n]'(by omega))).2)) rfl (s_nil (then_n (cE_ret (then_r (block_r (then_r (block_r (then_r (block_r (then_r (block_r (then_r (post_r _ (res2 (v := nS) rfl (x := (iV ((joinA a (l[n]'(by omega))).2))) rfl) ?_))))))))))))))))))))
     replace hst := hst.nilRow 37 aggE
     have e537 : [] = (downA l k).1 := by exact (congrArg Prod.fst (hJ.trans (rd_stop (by omega) (by assumption) (ham _ (List.getElem_mem _)) hco (by assumption)))).symm
     replace hst : St w0 w531 [rowT 37 aggE nS ((downA l k).1), .blk g532 37 (aggA ((joinA a (l[n]'(by omega))).1)), .blk g428 37 (aggA a), rowT 37 aggE vo out] := by rw [congrArg (fun l => rowT 37 aggE nS l) e537] at hst; exact hst
     exact ⟨nS, (retv2 rfl (congrArg iV (show (joinA a (l[n]'(by omega))).2 = (downA l k).2 from by exact (congrArg Prod.snd (hJ.trans (rd_stop (by omega) (by assumption) (ham _ (List.getElem_mem _)) hco (by assumption)))).symm))), hst.sub (.cons_cons _ (.cons _ (.cons _ (.cons _ .slnil))))⟩
    have c538 := of_decide_eq_false b505
    refine cE_cond false (uw504_55.trans (congrArg Value.bool b505)) (fun h => by cases h) (fun _ => ?_)
    refine cE_exit (then_x (then_x (block_hit (then_n (cE_seq (cE_region rfl (s_cons (op_move vo uw504_6 (s_cons (op_loadN (cs := (aggC a)) Try.isAgg37 Try.sizeOf37 uw504_8 (Pt.of (hst.cell 0 rfl) rfl) rfl (s_cons (op_buildSlice (E := aggE) [a] hst Try.underlying23 Try.sizeOf37 Try.zeroValue37 (evp_cons (v := (.agg (aggA a))) rfl evp_nil) (parts_cons rfl parts_nil) rfl (by decide) (fun v539 w540 hst => ?_)))))))))))))
    refine s_cons (op_append (E := aggE) (xs := out) (ys := [a]) (z := (.agg #[(iV 0), (iV 0), (iV 0), (iV 0), (iV 0), (iV 0), (iV 0)])) (bytes := 56) hst 2 rfl Try.underlying23 (by kernel_rfl) rfl rfl rfl (hst.sl 0 rfl) (by (simp; omega)) (by (simp; omega)) (fun v541 w542 hst => ?_))
    refine s_cons (op_assign v541 rfl (s_nil (then_n (cE_region rfl (s_cons (op_move (iV (n : Int)) uw504_9 (s_cons (op_assign (iV (n : Int)) rfl (s_nil (block_n (then_n ?_)))))))))))
    exact ⟨_, ⟨v541, (out ++ ([a])), n, rfl, uw504_0, uw504_1, rfl, rfl, (hst.sub (.cons _ (.cons _ (.cons_cons _ .slnil)))), (by omega), (by (simp; omega)), (by exact hJ), (by exact fresh_next (by (right; exact ⟨by omega, by assumption⟩)))⟩, (by simp only [id]; omega)⟩
   have c543 := of_decide_eq_false b437
   refine cE_regionL hst [[(9, none)], [(0, none)], [(41, some 1)], [(40, some 0), (42, some 2)], [(43, some 3)], [(0, none), (44, some 4)], [(9, none), (44, some 4)], [(45, some 5), (46, some 6), (44, some 4)], [(47, some 7), (44, some 4)], [(48, some 8), (44, some 4)], [(1, none), (44, some 4)], [(49, some 9), (50, some 10), (44, some 4)], [(8, none), (44, some 4)], [(52, some 12), (44, some 4)], [(51, some 11), (53, some 13), (44, some 4)], [(44, some 4), (54, some 14)]] [(rEq (iV (n : Int))), (rEq v_l), (rEq (iV (l.length : Int))), (rEq (.bool (decide ((n : Int) < (l.length : Int))))), (rEq (.bool (decide ((n : Int) < (l.length : Int))))), (rEq undef), (rEq undef), (rEq undef), (rEq undef), (rEq undef), (rEq undef), (rEq undef), (rEq undef), (rEq undef), (rEq undef), (rEq (.bool false))] (by kernel_rfl) rfl (by kernel_rfl) ⟨sEq, sEq, sEq, sEq, sEq, sEq, sEq, sEq, sEq, sEq, sEq, sEq, sEq, sEq, sEq, sEq, trivial⟩ ⟨?_, ?_, ?_, ?_, ?_, ?_, ?_, ?_, ?_, ?_, ?_, ?_, ?_, ?_, ?_, ?_, trivial⟩ ?_
   ·rintro ρ544 w545 hj546 ⟨f9, _⟩
    have hst := hj546.2
    exact go_plain (op_move (iV (n : Int)) (f9.trans q433_9) (kS hj546 rfl))
   ·rintro ρ547 w548 hj549 ⟨f0, _⟩
    have hst := hj549.2
    exact go_plain (op_move v_l (f0.trans q433_0) (kS hj549 rfl))
   ·rintro ρ550 w551 hj552 ⟨f41, _⟩
    have hst := hj552.2
    exact go_plain (op_len (E := aggE) (xs := l) Try.underlying23 f41 h_l (kS hj552 rfl))
   ·rintro ρ553 w554 hj555 ⟨f40, f42, _⟩
    have hst := hj555.2
    exact go_plain (op_lss (k := .i64) (a := (n : Int)) (b := (l.length : Int)) f40 f42 (kS hj555 rfl))
   ·rintro ρ556 w557 hj558 ⟨f43, _⟩
    have hst := hj558.2
    exact go_plain (op_move (.bool (decide ((n : Int) < (l.length : Int)))) f43 (kS hj558 rfl))
   ·rintro ρ559 w560 hj561 ⟨f0, f44, _⟩
    have hst := hj561.2
    exact go_no 44 rfl (f44.trans (congrArg Value.bool b437)) (kS hj561 rfl)
   ·rintro ρ562 w563 hj564 ⟨f9, f44, _⟩
    have hst := hj564.2
    exact go_no 44 rfl (f44.trans (congrArg Value.bool b437)) (kS hj564 rfl)
   ·rintro ρ565 w566 hj567 ⟨f45, f46, f44, _⟩
    have hst := hj567.2
    exact go_no 44 rfl (f44.trans (congrArg Value.bool b437)) (kS hj567 rfl)
   ·rintro ρ568 w569 hj570 ⟨f47, f44, _⟩
    have hst := hj570.2
    exact go_no 44 rfl (f44.trans (congrArg Value.bool b437)) (kS hj570 rfl)
   ·rintro ρ571 w572 hj573 ⟨f48, f44, _⟩
    have hst := hj573.2
    exact go_no 44 rfl (f44.trans (congrArg Value.bool b437)) (kS hj573 rfl)
   ·rintro ρ574 w575 hj576 ⟨f1, f44, _⟩
    have hst := hj576.2
    exact go_no 44 rfl (f44.trans (congrArg Value.bool b437)) (kS hj576 rfl)
   ·rintro ρ577 w578 hj579 ⟨f49, f50, f44, _⟩
    have hst := hj579.2
    exact go_no 44 rfl (f44.trans (congrArg Value.bool b437)) (kS hj579 rfl)
   ·rintro ρ580 w581 hj582 ⟨f8, f44, _⟩
    have hst := hj582.2
    exact go_no 44 rfl (f44.trans (congrArg Value.bool b437)) (kS hj582 rfl)
   ·rintro ρ583 w584 hj585 ⟨f52, f44, _⟩
    have hst := hj585.2
    exact go_no 44 rfl (f44.trans (congrArg Value.bool b437)) (kS hj585 rfl)
   ·rintro ρ586 w587 hj588 ⟨f51, f53, f44, _⟩
    have hst := hj588.2
    exact go_no 44 rfl (f44.trans (congrArg Value.bool b437)) (kS hj588 rfl)
   ·rintro ρ589 w590 hj591 ⟨f44, f54, _⟩
    have hst := hj591.2
    exact go_plain (op_pick_f (.bool false) (f44.trans (congrArg Value.bool b437)) rfl (kS hj591 rfl))
   intro ρ592 w593 hbw593 hst hRw593 hkw593
   have uw593_0 := (hkw593 0 rfl).trans q433_0
   have uw593_1 := (hkw593 1 rfl).trans q433_1
   have uw593_6 := (hkw593 6 rfl).trans q433_6
   have uw593_8 := (hkw593 8 rfl).trans q433_8
   have uw593_9 := (hkw593 9 rfl).trans q433_9
   have uw593_55 : ρ592 55 = (.bool false) := hRw593 15 55 rfl
   refine then_n (cE_cond false uw593_55 (fun h => by cases h) (fun _ => ?_))
   refine cE_exit (then_x (then_x (block_hit (then_n (cE_seq (cE_region rfl (s_cons (op_move vo uw593_6 (s_cons (op_loadN (cs := (aggC a)) Try.isAgg37 Try.sizeOf37 uw593_8 (Pt.of (hst.cell 0 rfl) rfl) rfl (s_cons (op_buildSlice (E := aggE) [a] hst Try.underlying23 Try.sizeOf37 Try.zeroValue37 (evp_cons (v := (.agg (aggA a))) rfl evp_nil) (parts_cons rfl parts_nil) rfl (by decide) (fun v594 w595 hst => ?_)))))))))))))
   refine s_cons (op_append (E := aggE) (xs := out) (ys := [a]) (z := (.agg #[(iV 0), (iV 0), (iV 0), (iV 0), (iV 0), (iV 0), (iV 0)])) (bytes := 56) hst 2 rfl Try.underlying23 (by kernel_rfl) rfl rfl rfl (hst.sl 0 rfl) (by (simp; omega)) (by (simp; omega)) (fun v596 w597 hst => ?_))
   refine s_cons (op_assign v596 rfl (s_nil (then_n (cE_region rfl (s_cons (op_move (iV (n : Int)) uw593_9 (s_cons (op_assign (iV (n : Int)) rfl (s_nil (block_n (then_n ?_)))))))))))
   exact ⟨_, ⟨v596, (out ++ ([a])), n, rfl, uw593_0, uw593_1, rfl, rfl, (hst.sub (.cons _ (.cons _ (.cons_cons _ .slnil)))), (by omega), (by (simp; omega)), (by exact hJ), (by exact fresh_next (by (left; omega)))⟩, (by simp only [id]; omega)⟩
  have c598 := of_decide_eq_false b423
  refine cE_cond false (congrArg Value.bool b423) (fun h => by cases h) (fun _ => ?_)
  refine cE_exit (then_x (then_x (block_hit (then_n (cE_seq (cE_region rfl (s_cons (op_move vo q419_6 (s_cons (op_assign vo rfl (s_cons (op_assign (iV 0) rfl (s_nil (then_n (cE_ret (post_r _ (res2 (v := vo) rfl (x := (iV 0)) rfl) ?_))))))))))))))))
  have e599 : out = (downA l k).1 := by exact (congrArg Prod.fst (hI.trans (down_end (by omega)))).symm
  replace hst : St w0 w422 [rowT 37 aggE vo ((downA l k).1)] := by rw [congrArg (fun l => rowT 37 aggE vo l) e599] at hst; exact hst
  exact ⟨vo, (retv2 rfl (congrArg iV (show 0 = (downA l k).2 from by exact (congrArg Prod.snd (hI.trans (down_end (by omega)))).symm))), hst.sub (.cons_cons _ .slnil)⟩
 refine cE_cond true (congrArg Value.bool (congrArg (! ·) b418)) (fun _ => ?_) (fun h => by cases h)
 refine cE_seq (cE_region rfl (s_cons (op_assign nS rfl (s_cons (op_assign (iV 1) rfl (s_nil (then_n (cE_ret (then_r (post_r _ (res2 (v := nS) rfl (x := (iV 1)) rfl) ?_))))))))))
 replace hst := hst.nilRow 37 aggE
 have e600 : [] = (downA l k).1 := by exact (congrArg Prod.fst (down_none (Or.inr (Or.inl (by assumption))))).symm
 replace hst : St w0 w417 [rowT 37 aggE nS ((downA l k).1)] := by rw [congrArg (fun l => rowT 37 aggE nS l) e600] at hst; exact hst
 exact ⟨nS, (retv2 rfl (congrArg iV (show 1 = (downA l k).2 from by exact (congrArg Prod.snd (down_none (Or.inr (Or.inl (by assumption))))).symm))), hst.sub (.cons_cons _ .slnil)⟩

end Go.Proofs.Ythanfecefjfbjaa
