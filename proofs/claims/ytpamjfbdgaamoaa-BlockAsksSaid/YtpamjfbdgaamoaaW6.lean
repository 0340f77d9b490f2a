/- twinkeepref1.MayAgg, twinkeepref1.Width, twinkeepref1.Floor, twinkeepref1.Rising, twinkeepref1.Aligned -/
import Derived.Test.YtpamjfbdgaamoaaTR
import Derived.Test.YtpamjfbdgaamoaaT
namespace Go.Proofs.Ytpamjfbdgaamoaa
open Go.RowKit

set_option maxHeartbeats 4000000 in
theorem c_rMay (w0 : World) (a : Agg) :
    Calls Try.prog 46 #[(.agg #[(.int .i64 a.From), (.int .i64 a.Count), (.int .i64 a.Sum), (.int .i64 a.Min), (.int .i64 a.Max), (.int .i64 a.First), (.int .i64 a.Last)])] w0 fun e w' => e = .returned (.bool (mayA a)) ∧ St w0 w' [] := by
  refine calls_E (n := 73) (ts := [2]) Try.func46 rfl rfl rfl (by simp) ?_
  have hst := St.start w0
  refine cE_seq ?_
  refine cE_region rfl ?_
  refine s_cons (op_box (v := (.agg #[(.int .i64 a.From), (.int .i64 a.Count), (.int .i64 a.Sum), (.int .i64 a.Min), (.int .i64 a.Max), (.int .i64 a.First), (.int .i64 a.Last)])) (cs := #[(.int .i64 a.From), (.int .i64 a.Count), (.int .i64 a.Sum), (.int .i64 a.Min), (.int .i64 a.Max), (.int .i64 a.First), (.int .i64 a.Last)]) hst rfl rfl (fun g1 w2 hst _ => ?_))
  replace hst : St w0 w2 [.blk g1 71 #[(.int .i64 a.From), (.int .i64 a.Count), (.int .i64 a.Sum), (.int .i64 a.Min), (.int .i64 a.Max), (.int .i64 a.First), (.int .i64 a.Last)]] := hst
  refine s_cons (op_assign (.bool false) rfl ?_)
  refine s_nil ?_
  refine then_n ?_
  refine cE_seq ?_
  refine cE_seq ?_
  refine cE_region rfl ?_
  refine s_cons (op_fieldAddr (s := 0) Try.underlying71 rfl rfl Try.sizeOf2 rfl ?_)
  refine s_cons (op_load1 (u := (.int .i64 a.Count)) Try.isAgg2 rfl ((hst.cell 0 rfl).drop 1) ?_)
  refine s_cons (op_lss (k := .i64) (a := a.Count) (b := 1) rfl rfl ?_)
  refine s_cons (op_move (.bool (decide (a.Count < 1))) rfl ?_)
  rcases Bool.eq_false_or_eq_true (decide (a.Count < 1)) with b3 | b3
  · have c4 : a.Count < 1 := of_decide_eq_true b3
    refine s_no 6 rfl (congrArg Value.bool b3) ?_
    refine s_no 6 rfl (congrArg Value.bool b3) ?_
    refine s_no 6 rfl (congrArg Value.bool b3) ?_
    refine s_cons (op_pick_t (.bool true) (congrArg Value.bool b3) rfl ?_)
    refine s_cons (op_move (.bool true) rfl ?_)
    refine s_no 11 rfl rfl ?_
    refine s_no 11 rfl rfl ?_
    refine s_no 11 rfl rfl ?_
    refine s_cons (op_pick_t (.bool true) rfl rfl ?_)
    refine s_cons (op_move (.bool true) rfl ?_)
    refine s_no 16 rfl rfl ?_
    refine s_no 16 rfl rfl ?_
    refine s_no 16 rfl rfl ?_
    refine s_cons (op_pick_t (.bool true) rfl rfl ?_)
    refine s_cons (op_move (.bool true) rfl ?_)
    refine s_no 21 rfl rfl ?_
    refine s_no 21 rfl rfl ?_
    refine s_no 21 rfl rfl ?_
    refine s_no 21 rfl rfl ?_
    refine s_no 21 rfl rfl ?_
    refine s_cons (op_pick_t (.bool true) rfl rfl ?_)
    refine s_cons (op_move (.bool true) rfl ?_)
    refine s_no 28 rfl rfl ?_
    refine s_no 28 rfl rfl ?_
    refine s_no 28 rfl rfl ?_
    refine s_no 28 rfl rfl ?_
    refine s_no 28 rfl rfl ?_
    refine s_cons (op_pick_t (.bool true) rfl rfl ?_)
    refine s_cons (op_move (.bool true) rfl ?_)
    refine s_no 35 rfl rfl ?_
    refine s_no 35 rfl rfl ?_
    refine s_no 35 rfl rfl ?_
    refine s_no 35 rfl rfl ?_
    refine s_no 35 rfl rfl ?_
    refine s_cons (op_pick_t (.bool true) rfl rfl ?_)
    refine s_cons (op_move (.bool true) rfl ?_)
    refine s_no 42 rfl rfl ?_
    refine s_no 42 rfl rfl ?_
    refine s_no 42 rfl rfl ?_
    refine s_no 42 rfl rfl ?_
    refine s_no 42 rfl rfl ?_
    refine s_cons (op_pick_t (.bool true) rfl rfl ?_)
    refine s_cons (op_move (.bool true) rfl ?_)
    refine s_no 49 rfl rfl ?_
    refine s_no 49 rfl rfl ?_
    refine s_no 49 rfl rfl ?_
    refine s_no 49 rfl rfl ?_
    refine s_no 49 rfl rfl ?_
    refine s_cons (op_pick_t (.bool true) rfl rfl ?_)
    refine s_nil ?_
    refine then_n ?_
    refine cE_cond true rfl (fun _ => ?_) (fun h => by cases h)
    refine cE_seq ?_
    refine cE_region rfl ?_
    refine s_cons (op_assign (.bool false) rfl ?_)
    refine s_nil ?_
    refine then_n ?_
    refine cE_ret ?_
    refine then_r ?_
    refine post_r _ (res1 (v := (.bool false)) rfl) ?_
    exact ⟨(retv1 (congrArg Value.bool (show false = (mayA a) from by (rw [Bool.eq_iff_iff]; simp only [mayA, mayP, i64R, addB, agg_iff, true_and, and_true, decide_eq_true_eq, Bool.false_eq_true, true_iff, false_iff]; omega)))), hst.bare⟩
  have c5 : ¬ (a.Count < 1) := of_decide_eq_false b3
  refine s_yes 6 rfl (congrArg Value.bool b3) (op_fieldAddr (s := 0) Try.underlying71 rfl rfl Try.sizeOf2 rfl ?_)
  refine s_yes 6 rfl (congrArg Value.bool b3) (op_load1 (u := (.int .i64 a.Count)) Try.isAgg2 rfl ((hst.cell 0 rfl).drop 1) ?_)
  refine s_yes 6 rfl (congrArg Value.bool b3) (op_gtr (k := .i64) (a := a.Count) (b := 1099511627776) rfl rfl ?_)
  refine s_cons (op_pick_f (.bool (decide (1099511627776 < a.Count))) (congrArg Value.bool b3) rfl ?_)
  refine s_cons (op_move (.bool (decide (1099511627776 < a.Count))) rfl ?_)
  rcases Bool.eq_false_or_eq_true (decide (1099511627776 < a.Count)) with b6 | b6
  · have c7 : 1099511627776 < a.Count := of_decide_eq_true b6
    refine s_no 11 rfl (congrArg Value.bool b6) ?_
    refine s_no 11 rfl (congrArg Value.bool b6) ?_
    refine s_no 11 rfl (congrArg Value.bool b6) ?_
    refine s_cons (op_pick_t (.bool true) (congrArg Value.bool b6) rfl ?_)
    refine s_cons (op_move (.bool true) rfl ?_)
    refine s_no 16 rfl rfl ?_
    refine s_no 16 rfl rfl ?_
    refine s_no 16 rfl rfl ?_
    refine s_cons (op_pick_t (.bool true) rfl rfl ?_)
    refine s_cons (op_move (.bool true) rfl ?_)
    refine s_no 21 rfl rfl ?_
    refine s_no 21 rfl rfl ?_
    refine s_no 21 rfl rfl ?_
    refine s_no 21 rfl rfl ?_
    refine s_no 21 rfl rfl ?_
    refine s_cons (op_pick_t (.bool true) rfl rfl ?_)
    refine s_cons (op_move (.bool true) rfl ?_)
    refine s_no 28 rfl rfl ?_
    refine s_no 28 rfl rfl ?_
    refine s_no 28 rfl rfl ?_
    refine s_no 28 rfl rfl ?_
    refine s_no 28 rfl rfl ?_
    refine s_cons (op_pick_t (.bool true) rfl rfl ?_)
    refine s_cons (op_move (.bool true) rfl ?_)
    refine s_no 35 rfl rfl ?_
    refine s_no 35 rfl rfl ?_
    refine s_no 35 rfl rfl ?_
    refine s_no 35 rfl rfl ?_
    refine s_no 35 rfl rfl ?_
    refine s_cons (op_pick_t (.bool true) rfl rfl ?_)
    refine s_cons (op_move (.bool true) rfl ?_)
    refine s_no 42 rfl rfl ?_
    refine s_no 42 rfl rfl ?_
    refine s_no 42 rfl rfl ?_
    refine s_no 42 rfl rfl ?_
    refine s_no 42 rfl rfl ?_
    refine s_cons (op_pick_t (.bool true) rfl rfl ?_)
    refine s_cons (op_move (.bool true) rfl ?_)
    refine s_no 49 rfl rfl ?_
    refine s_no 49 rfl rfl ?_
    refine s_no 49 rfl rfl ?_
    refine s_no 49 rfl rfl ?_
    refine s_no 49 rfl rfl ?_
    refine s_cons (op_pick_t (.bool true) rfl rfl ?_)
    refine s_nil ?_
    refine then_n ?_
    refine cE_cond true rfl (fun _ => ?_) (fun h => by cases h)
    refine cE_seq ?_
    refine cE_region rfl ?_
    refine s_cons (op_assign (.bool false) rfl ?_)
    refine s_nil ?_
    refine then_n ?_
    refine cE_ret ?_
    refine then_r ?_
    refine post_r _ (res1 (v := (.bool false)) rfl) ?_
    exact ⟨(retv1 (congrArg Value.bool (show false = (mayA a) from by (rw [Bool.eq_iff_iff]; simp only [mayA, mayP, i64R, addB, agg_iff, true_and, and_true, decide_eq_true_eq, Bool.false_eq_true, true_iff, false_iff]; omega)))), hst.bare⟩
  have c8 : ¬ (1099511627776 < a.Count) := of_decide_eq_false b6
  refine s_yes 11 rfl (congrArg Value.bool b6) (op_fieldAddr (s := 0) Try.underlying71 rfl rfl Try.sizeOf2 rfl ?_)
  refine s_yes 11 rfl (congrArg Value.bool b6) (op_load1 (u := (.int .i64 a.From)) Try.isAgg2 rfl (hst.cell 0 rfl) ?_)
  refine s_yes 11 rfl (congrArg Value.bool b6) (op_lss (k := .i64) (a := a.From) (b := 0) rfl rfl ?_)
  refine s_cons (op_pick_f (.bool (decide (a.From < 0))) (congrArg Value.bool b6) rfl ?_)
  refine s_cons (op_move (.bool (decide (a.From < 0))) rfl ?_)
  rcases Bool.eq_false_or_eq_true (decide (a.From < 0)) with b9 | b9
  · have c10 : a.From < 0 := of_decide_eq_true b9
    refine s_no 16 rfl (congrArg Value.bool b9) ?_
    refine s_no 16 rfl (congrArg Value.bool b9) ?_
    refine s_no 16 rfl (congrArg Value.bool b9) ?_
    refine s_cons (op_pick_t (.bool true) (congrArg Value.bool b9) rfl ?_)
    refine s_cons (op_move (.bool true) rfl ?_)
    refine s_no 21 rfl rfl ?_
    refine s_no 21 rfl rfl ?_
    refine s_no 21 rfl rfl ?_
    refine s_no 21 rfl rfl ?_
    refine s_no 21 rfl rfl ?_
    refine s_cons (op_pick_t (.bool true) rfl rfl ?_)
    refine s_cons (op_move (.bool true) rfl ?_)
    refine s_no 28 rfl rfl ?_
    refine s_no 28 rfl rfl ?_
    refine s_no 28 rfl rfl ?_
    refine s_no 28 rfl rfl ?_
    refine s_no 28 rfl rfl ?_
    refine s_cons (op_pick_t (.bool true) rfl rfl ?_)
    refine s_cons (op_move (.bool true) rfl ?_)
    refine s_no 35 rfl rfl ?_
    refine s_no 35 rfl rfl ?_
    refine s_no 35 rfl rfl ?_
    refine s_no 35 rfl rfl ?_
    refine s_no 35 rfl rfl ?_
    refine s_cons (op_pick_t (.bool true) rfl rfl ?_)
    refine s_cons (op_move (.bool true) rfl ?_)
    refine s_no 42 rfl rfl ?_
    refine s_no 42 rfl rfl ?_
    refine s_no 42 rfl rfl ?_
    refine s_no 42 rfl rfl ?_
    refine s_no 42 rfl rfl ?_
    refine s_cons (op_pick_t (.bool true) rfl rfl ?_)
    refine s_cons (op_move (.bool true) rfl ?_)
    refine s_no 49 rfl rfl ?_
    refine s_no 49 rfl rfl ?_
    refine s_no 49 rfl rfl ?_
    refine s_no 49 rfl rfl ?_
    refine s_no 49 rfl rfl ?_
    refine s_cons (op_pick_t (.bool true) rfl rfl ?_)
    refine s_nil ?_
    refine then_n ?_
    refine cE_cond true rfl (fun _ => ?_) (fun h => by cases h)
    refine cE_seq ?_
    refine cE_region rfl ?_
    refine s_cons (op_assign (.bool false) rfl ?_)
    refine s_nil ?_
    refine then_n ?_
    refine cE_ret ?_
    refine then_r ?_
    refine post_r _ (res1 (v := (.bool false)) rfl) ?_
    exact ⟨(retv1 (congrArg Value.bool (show false = (mayA a) from by (rw [Bool.eq_iff_iff]; simp only [mayA, mayP, i64R, addB, agg_iff, true_and, and_true, decide_eq_true_eq, Bool.false_eq_true, true_iff, false_iff]; omega)))), hst.bare⟩
  have c11 : ¬ (a.From < 0) := of_decide_eq_false b9
  refine s_yes 16 rfl (congrArg Value.bool b9) (op_fieldAddr (s := 0) Try.underlying71 rfl rfl Try.sizeOf2 rfl ?_)
  refine s_yes 16 rfl (congrArg Value.bool b9) (op_load1 (u := (.int .i64 a.From)) Try.isAgg2 rfl (hst.cell 0 rfl) ?_)
  refine s_yes 16 rfl (congrArg Value.bool b9) (op_gtr (k := .i64) (a := a.From) (b := 1099511627776) rfl rfl ?_)
  refine s_cons (op_pick_f (.bool (decide (1099511627776 < a.From))) (congrArg Value.bool b9) rfl ?_)
  refine s_cons (op_move (.bool (decide (1099511627776 < a.From))) rfl ?_)
  rcases Bool.eq_false_or_eq_true (decide (1099511627776 < a.From)) with b12 | b12
  · have c13 : 1099511627776 < a.From := of_decide_eq_true b12
    refine s_no 21 rfl (congrArg Value.bool b12) ?_
    refine s_no 21 rfl (congrArg Value.bool b12) ?_
    refine s_no 21 rfl (congrArg Value.bool b12) ?_
    refine s_no 21 rfl (congrArg Value.bool b12) ?_
    refine s_no 21 rfl (congrArg Value.bool b12) ?_
    refine s_cons (op_pick_t (.bool true) (congrArg Value.bool b12) rfl ?_)
    refine s_cons (op_move (.bool true) rfl ?_)
    refine s_no 28 rfl rfl ?_
    refine s_no 28 rfl rfl ?_
    refine s_no 28 rfl rfl ?_
    refine s_no 28 rfl rfl ?_
    refine s_no 28 rfl rfl ?_
    refine s_cons (op_pick_t (.bool true) rfl rfl ?_)
    refine s_cons (op_move (.bool true) rfl ?_)
    refine s_no 35 rfl rfl ?_
    refine s_no 35 rfl rfl ?_
    refine s_no 35 rfl rfl ?_
    refine s_no 35 rfl rfl ?_
    refine s_no 35 rfl rfl ?_
    refine s_cons (op_pick_t (.bool true) rfl rfl ?_)
    refine s_cons (op_move (.bool true) rfl ?_)
    refine s_no 42 rfl rfl ?_
    refine s_no 42 rfl rfl ?_
    refine s_no 42 rfl rfl ?_
    refine s_no 42 rfl rfl ?_
    refine s_no 42 rfl rfl ?_
    refine s_cons (op_pick_t (.bool true) rfl rfl ?_)
    refine s_cons (op_move (.bool true) rfl ?_)
    refine s_no 49 rfl rfl ?_
    refine s_no 49 rfl rfl ?_
    refine s_no 49 rfl rfl ?_
    refine s_no 49 rfl rfl ?_
    refine s_no 49 rfl rfl ?_
    refine s_cons (op_pick_t (.bool true) rfl rfl ?_)
    refine s_nil ?_
    refine then_n ?_
    refine cE_cond true rfl (fun _ => ?_) (fun h => by cases h)
    refine cE_seq ?_
    refine cE_region rfl ?_
    refine s_cons (op_assign (.bool false) rfl ?_)
    refine s_nil ?_
    refine then_n ?_
    refine cE_ret ?_
    refine then_r ?_
    refine post_r _ (res1 (v := (.bool false)) rfl) ?_
    exact ⟨(retv1 (congrArg Value.bool (show false = (mayA a) from by (rw [Bool.eq_iff_iff]; simp only [mayA, mayP, i64R, addB, agg_iff, true_and, and_true, decide_eq_true_eq, Bool.false_eq_true, true_iff, false_iff]; omega)))), hst.bare⟩
  have c14 : ¬ (1099511627776 < a.From) := of_decide_eq_false b12
  refine s_yes 21 rfl (congrArg Value.bool b12) (op_fieldAddr (s := 0) Try.underlying71 rfl rfl Try.sizeOf2 rfl ?_)
  refine s_yes 21 rfl (congrArg Value.bool b12) (op_load1 (u := (.int .i64 a.Min)) Try.isAgg2 rfl ((hst.cell 0 rfl).drop 3) ?_)
  refine s_yes 21 rfl (congrArg Value.bool b12) (op_fieldAddr (s := 0) Try.underlying71 rfl rfl Try.sizeOf2 rfl ?_)
  refine s_yes 21 rfl (congrArg Value.bool b12) (op_load1 (u := (.int .i64 a.First)) Try.isAgg2 rfl ((hst.cell 0 rfl).drop 5) ?_)
  refine s_yes 21 rfl (congrArg Value.bool b12) (op_gtr (k := .i64) (a := a.Min) (b := a.First) rfl rfl ?_)
  refine s_cons (op_pick_f (.bool (decide (a.First < a.Min))) (congrArg Value.bool b12) rfl ?_)
  refine s_cons (op_move (.bool (decide (a.First < a.Min))) rfl ?_)
  rcases Bool.eq_false_or_eq_true (decide (a.First < a.Min)) with b15 | b15
  · have c16 : a.First < a.Min := of_decide_eq_true b15
    refine s_no 28 rfl (congrArg Value.bool b15) ?_
    refine s_no 28 rfl (congrArg Value.bool b15) ?_
    refine s_no 28 rfl (congrArg Value.bool b15) ?_
    refine s_no 28 rfl (congrArg Value.bool b15) ?_
    refine s_no 28 rfl (congrArg Value.bool b15) ?_
    refine s_cons (op_pick_t (.bool true) (congrArg Value.bool b15) rfl ?_)
    refine s_cons (op_move (.bool true) rfl ?_)
    refine s_no 35 rfl rfl ?_
    refine s_no 35 rfl rfl ?_
    refine s_no 35 rfl rfl ?_
    refine s_no 35 rfl rfl ?_
    refine s_no 35 rfl rfl ?_
    refine s_cons (op_pick_t (.bool true) rfl rfl ?_)
    refine s_cons (op_move (.bool true) rfl ?_)
    refine s_no 42 rfl rfl ?_
    refine s_no 42 rfl rfl ?_
    refine s_no 42 rfl rfl ?_
    refine s_no 42 rfl rfl ?_
    refine s_no 42 rfl rfl ?_
    refine s_cons (op_pick_t (.bool true) rfl rfl ?_)
    refine s_cons (op_move (.bool true) rfl ?_)
    refine s_no 49 rfl rfl ?_
    refine s_no 49 rfl rfl ?_
    refine s_no 49 rfl rfl ?_
    refine s_no 49 rfl rfl ?_
    refine s_no 49 rfl rfl ?_
    refine s_cons (op_pick_t (.bool true) rfl rfl ?_)
    refine s_nil ?_
    refine then_n ?_
    refine cE_cond true rfl (fun _ => ?_) (fun h => by cases h)
    refine cE_seq ?_
    refine cE_region rfl ?_
    refine s_cons (op_assign (.bool false) rfl ?_)
    refine s_nil ?_
    refine then_n ?_
    refine cE_ret ?_
    refine then_r ?_
    refine post_r _ (res1 (v := (.bool false)) rfl) ?_
    exact ⟨(retv1 (congrArg Value.bool (show false = (mayA a) from by (rw [Bool.eq_iff_iff]; simp only [mayA, mayP, i64R, addB, agg_iff, true_and, and_true, decide_eq_true_eq, Bool.false_eq_true, true_iff, false_iff]; omega)))), hst.bare⟩
  have c17 : ¬ (a.First < a.Min) := of_decide_eq_false b15
  refine s_yes 28 rfl (congrArg Value.bool b15) (op_fieldAddr (s := 0) Try.underlying71 rfl rfl Try.sizeOf2 rfl ?_)
  refine s_yes 28 rfl (congrArg Value.bool b15) (op_load1 (u := (.int .i64 a.Min)) Try.isAgg2 rfl ((hst.cell 0 rfl).drop 3) ?_)
  refine s_yes 28 rfl (congrArg Value.bool b15) (op_fieldAddr (s := 0) Try.underlying71 rfl rfl Try.sizeOf2 rfl ?_)
  refine s_yes 28 rfl (congrArg Value.bool b15) (op_load1 (u := (.int .i64 a.Last)) Try.isAgg2 rfl ((hst.cell 0 rfl).drop 6) ?_)
  refine s_yes 28 rfl (congrArg Value.bool b15) (op_gtr (k := .i64) (a := a.Min) (b := a.Last) rfl rfl ?_)
  refine s_cons (op_pick_f (.bool (decide (a.Last < a.Min))) (congrArg Value.bool b15) rfl ?_)
  refine s_cons (op_move (.bool (decide (a.Last < a.Min))) rfl ?_)
  rcases Bool.eq_false_or_eq_true (decide (a.Last < a.Min)) with b18 | b18
  · have c19 : a.Last < a.Min := of_decide_eq_true b18
    refine s_no 35 rfl (congrArg Value.bool b18) ?_
    refine s_no 35 rfl (congrArg Value.bool b18) ?_
    refine s_no 35 rfl (congrArg Value.bool b18) ?_
    refine s_no 35 rfl (congrArg Value.bool b18) ?_
    refine s_no 35 rfl (congrArg Value.bool b18) ?_
    refine s_cons (op_pick_t (.bool true) (congrArg Value.bool b18) rfl ?_)
    refine s_cons (op_move (.bool true) rfl ?_)
    refine s_no 42 rfl rfl ?_
    refine s_no 42 rfl rfl ?_
    refine s_no 42 rfl rfl ?_
    refine s_no 42 rfl rfl ?_
    refine s_no 42 rfl rfl ?_
    refine s_cons (op_pick_t (.bool true) rfl rfl ?_)
    refine s_cons (op_move (.bool true) rfl ?_)
    refine s_no 49 rfl rfl ?_
    refine s_no 49 rfl rfl ?_
    refine s_no 49 rfl rfl ?_
    refine s_no 49 rfl rfl ?_
    refine s_no 49 rfl rfl ?_
    refine s_cons (op_pick_t (.bool true) rfl rfl ?_)
    refine s_nil ?_
    refine then_n ?_
    refine cE_cond true rfl (fun _ => ?_) (fun h => by cases h)
    refine cE_seq ?_
    refine cE_region rfl ?_
    refine s_cons (op_assign (.bool false) rfl ?_)
    refine s_nil ?_
    refine then_n ?_
    refine cE_ret ?_
    refine then_r ?_
    refine post_r _ (res1 (v := (.bool false)) rfl) ?_
    exact ⟨(retv1 (congrArg Value.bool (show false = (mayA a) from by (rw [Bool.eq_iff_iff]; simp only [mayA, mayP, i64R, addB, agg_iff, true_and, and_true, decide_eq_true_eq, Bool.false_eq_true, true_iff, false_iff]; omega)))), hst.bare⟩
  have c20 : ¬ (a.Last < a.Min) := of_decide_eq_false b18
  refine s_yes 35 rfl (congrArg Value.bool b18) (op_fieldAddr (s := 0) Try.underlying71 rfl rfl Try.sizeOf2 rfl ?_)
  refine s_yes 35 rfl (congrArg Value.bool b18) (op_load1 (u := (.int .i64 a.Min)) Try.isAgg2 rfl ((hst.cell 0 rfl).drop 3) ?_)
  refine s_yes 35 rfl (congrArg Value.bool b18) (op_fieldAddr (s := 0) Try.underlying71 rfl rfl Try.sizeOf2 rfl ?_)
  refine s_yes 35 rfl (congrArg Value.bool b18) (op_load1 (u := (.int .i64 a.Max)) Try.isAgg2 rfl ((hst.cell 0 rfl).drop 4) ?_)
  refine s_yes 35 rfl (congrArg Value.bool b18) (op_gtr (k := .i64) (a := a.Min) (b := a.Max) rfl rfl ?_)
  refine s_cons (op_pick_f (.bool (decide (a.Max < a.Min))) (congrArg Value.bool b18) rfl ?_)
  refine s_cons (op_move (.bool (decide (a.Max < a.Min))) rfl ?_)
  rcases Bool.eq_false_or_eq_true (decide (a.Max < a.Min)) with b21 | b21
  · have c22 : a.Max < a.Min := of_decide_eq_true b21
    refine s_no 42 rfl (congrArg Value.bool b21) ?_
    refine s_no 42 rfl (congrArg Value.bool b21) ?_
    refine s_no 42 rfl (congrArg Value.bool b21) ?_
    refine s_no 42 rfl (congrArg Value.bool b21) ?_
    refine s_no 42 rfl (congrArg Value.bool b21) ?_
    refine s_cons (op_pick_t (.bool true) (congrArg Value.bool b21) rfl ?_)
    refine s_cons (op_move (.bool true) rfl ?_)
    refine s_no 49 rfl rfl ?_
    refine s_no 49 rfl rfl ?_
    refine s_no 49 rfl rfl ?_
    refine s_no 49 rfl rfl ?_
    refine s_no 49 rfl rfl ?_
    refine s_cons (op_pick_t (.bool true) rfl rfl ?_)
    refine s_nil ?_
    refine then_n ?_
    refine cE_cond true rfl (fun _ => ?_) (fun h => by cases h)
    refine cE_seq ?_
    refine cE_region rfl ?_
    refine s_cons (op_assign (.bool false) rfl ?_)
    refine s_nil ?_
    refine then_n ?_
    refine cE_ret ?_
    refine then_r ?_
    refine post_r _ (res1 (v := (.bool false)) rfl) ?_
    exact ⟨(retv1 (congrArg Value.bool (show false = (mayA a) from by (rw [Bool.eq_iff_iff]; simp only [mayA, mayP, i64R, addB, agg_iff, true_and, and_true, decide_eq_true_eq, Bool.false_eq_true, true_iff, false_iff]; omega)))), hst.bare⟩
  have c23 : ¬ (a.Max < a.Min) := of_decide_eq_false b21
  refine s_yes 42 rfl (congrArg Value.bool b21) (op_fieldAddr (s := 0) Try.underlying71 rfl rfl Try.sizeOf2 rfl ?_)
  refine s_yes 42 rfl (congrArg Value.bool b21) (op_load1 (u := (.int .i64 a.Max)) Try.isAgg2 rfl ((hst.cell 0 rfl).drop 4) ?_)
  refine s_yes 42 rfl (congrArg Value.bool b21) (op_fieldAddr (s := 0) Try.underlying71 rfl rfl Try.sizeOf2 rfl ?_)
  refine s_yes 42 rfl (congrArg Value.bool b21) (op_load1 (u := (.int .i64 a.First)) Try.isAgg2 rfl ((hst.cell 0 rfl).drop 5) ?_)
  refine s_yes 42 rfl (congrArg Value.bool b21) (op_lss (k := .i64) (a := a.Max) (b := a.First) rfl rfl ?_)
  refine s_cons (op_pick_f (.bool (decide (a.Max < a.First))) (congrArg Value.bool b21) rfl ?_)
  refine s_cons (op_move (.bool (decide (a.Max < a.First))) rfl ?_)
  rcases Bool.eq_false_or_eq_true (decide (a.Max < a.First)) with b24 | b24
  · have c25 : a.Max < a.First := of_decide_eq_true b24
    refine s_no 49 rfl (congrArg Value.bool b24) ?_
    refine s_no 49 rfl (congrArg Value.bool b24) ?_
    refine s_no 49 rfl (congrArg Value.bool b24) ?_
    refine s_no 49 rfl (congrArg Value.bool b24) ?_
    refine s_no 49 rfl (congrArg Value.bool b24) ?_
    refine s_cons (op_pick_t (.bool true) (congrArg Value.bool b24) rfl ?_)
    refine s_nil ?_
    refine then_n ?_
    refine cE_cond true rfl (fun _ => ?_) (fun h => by cases h)
    refine cE_seq ?_
    refine cE_region rfl ?_
    refine s_cons (op_assign (.bool false) rfl ?_)
    refine s_nil ?_
    refine then_n ?_
    refine cE_ret ?_
    refine then_r ?_
    refine post_r _ (res1 (v := (.bool false)) rfl) ?_
    exact ⟨(retv1 (congrArg Value.bool (show false = (mayA a) from by (rw [Bool.eq_iff_iff]; simp only [mayA, mayP, i64R, addB, agg_iff, true_and, and_true, decide_eq_true_eq, Bool.false_eq_true, true_iff, false_iff]; omega)))), hst.bare⟩
  have c26 : ¬ (a.Max < a.First) := of_decide_eq_false b24
  refine s_yes 49 rfl (congrArg Value.bool b24) (op_fieldAddr (s := 0) Try.underlying71 rfl rfl Try.sizeOf2 rfl ?_)
  refine s_yes 49 rfl (congrArg Value.bool b24) (op_load1 (u := (.int .i64 a.Max)) Try.isAgg2 rfl ((hst.cell 0 rfl).drop 4) ?_)
  refine s_yes 49 rfl (congrArg Value.bool b24) (op_fieldAddr (s := 0) Try.underlying71 rfl rfl Try.sizeOf2 rfl ?_)
  refine s_yes 49 rfl (congrArg Value.bool b24) (op_load1 (u := (.int .i64 a.Last)) Try.isAgg2 rfl ((hst.cell 0 rfl).drop 6) ?_)
  refine s_yes 49 rfl (congrArg Value.bool b24) (op_lss (k := .i64) (a := a.Max) (b := a.Last) rfl rfl ?_)
  refine s_cons (op_pick_f (.bool (decide (a.Max < a.Last))) (congrArg Value.bool b24) rfl ?_)
  refine s_nil ?_
  refine then_n ?_
  rcases Bool.eq_false_or_eq_true (decide (a.Max < a.Last)) with b27 | b27
  · have c28 : a.Max < a.Last := of_decide_eq_true b27
    refine cE_cond true (congrArg Value.bool b27) (fun _ => ?_) (fun h => by cases h)
    refine cE_seq ?_
    refine cE_region rfl ?_
    refine s_cons (op_assign (.bool false) rfl ?_)
    refine s_nil ?_
    refine then_n ?_
    refine cE_ret ?_
    refine then_r ?_
    refine post_r _ (res1 (v := (.bool false)) rfl) ?_
    exact ⟨(retv1 (congrArg Value.bool (show false = (mayA a) from by (rw [Bool.eq_iff_iff]; simp only [mayA, mayP, i64R, addB, agg_iff, true_and, and_true, decide_eq_true_eq, Bool.false_eq_true, true_iff, false_iff]; omega)))), hst.bare⟩
  have c29 : ¬ (a.Max < a.Last) := of_decide_eq_false b27
  refine cE_cond false (congrArg Value.bool b27) (fun h => by cases h) (fun _ => ?_)
  refine cE_skip ?_
  refine then_n ?_
  refine cE_seq ?_
  refine cE_region rfl ?_
  refine s_cons (op_fieldAddr (s := 0) Try.underlying71 rfl rfl Try.sizeOf2 rfl ?_)
  refine s_cons (op_load1 (u := (.int .i64 a.Count)) Try.isAgg2 rfl ((hst.cell 0 rfl).drop 1) ?_)
  refine s_cons (op_gtr (k := .i64) (a := a.Count) (b := 1) rfl rfl ?_)
  refine s_cons (op_move (.bool (decide (1 < a.Count))) rfl ?_)
  rcases Bool.eq_false_or_eq_true (decide (1 < a.Count)) with b30 | b30
  · have c31 : 1 < a.Count := of_decide_eq_true b30
    refine s_no 59 rfl (congrArg Value.bool b30) ?_
    refine s_no 59 rfl (congrArg Value.bool b30) ?_
    refine s_no 59 rfl (congrArg Value.bool b30) ?_
    refine s_no 59 rfl (congrArg Value.bool b30) ?_
    refine s_no 59 rfl (congrArg Value.bool b30) ?_
    refine s_no 59 rfl (congrArg Value.bool b30) ?_
    refine s_un 65 rfl rfl ?_
    refine s_un 65 rfl rfl ?_
    refine s_un 65 rfl rfl ?_
    refine s_un 65 rfl rfl ?_
    refine s_un 65 rfl rfl ?_
    refine s_no 59 rfl (congrArg Value.bool b30) ?_
    refine s_cons (op_pick_t (.bool true) (congrArg Value.bool b30) rfl ?_)
    refine s_cons (op_assign (.bool true) rfl ?_)
    refine s_nil ?_
    refine then_n ?_
    refine cE_ret ?_
    refine post_r _ (res1 (v := (.bool true)) rfl) ?_
    exact ⟨(retv1 (congrArg Value.bool (show true = (mayA a) from by (rw [Bool.eq_iff_iff]; simp only [mayA, mayP, i64R, addB, agg_iff, true_and, and_true, decide_eq_true_eq, Bool.false_eq_true, true_iff, false_iff]; omega)))), hst.bare⟩
  have c32 : ¬ (1 < a.Count) := of_decide_eq_false b30
  refine s_yes 59 rfl (congrArg Value.bool b30) (op_fieldAddr (s := 0) Try.underlying71 rfl rfl Try.sizeOf2 rfl ?_)
  refine s_yes 59 rfl (congrArg Value.bool b30) (op_load1 (u := (.int .i64 a.Sum)) Try.isAgg2 rfl ((hst.cell 0 rfl).drop 2) ?_)
  refine s_yes 59 rfl (congrArg Value.bool b30) (op_fieldAddr (s := 0) Try.underlying71 rfl rfl Try.sizeOf2 rfl ?_)
  refine s_yes 59 rfl (congrArg Value.bool b30) (op_load1 (u := (.int .i64 a.Min)) Try.isAgg2 rfl ((hst.cell 0 rfl).drop 3) ?_)
  refine s_yes 59 rfl (congrArg Value.bool b30) (op_eql (k := .i64) (a := a.Sum) (b := a.Min) rfl rfl ?_)
  refine s_yes 59 rfl (congrArg Value.bool b30) (op_move (.bool (decide (a.Sum = a.Min))) rfl ?_)
  rcases Bool.eq_false_or_eq_true (decide (a.Sum = a.Min)) with b33 | b33
  · have c34 : a.Sum = a.Min := of_decide_eq_true b33
    refine s_yes 65 rfl (congrArg Value.bool b33) (op_fieldAddr (s := 0) Try.underlying71 rfl rfl Try.sizeOf2 rfl ?_)
    refine s_yes 65 rfl (congrArg Value.bool b33) (op_load1 (u := (.int .i64 a.Min)) Try.isAgg2 rfl ((hst.cell 0 rfl).drop 3) ?_)
    refine s_yes 65 rfl (congrArg Value.bool b33) (op_fieldAddr (s := 0) Try.underlying71 rfl rfl Try.sizeOf2 rfl ?_)
    refine s_yes 65 rfl (congrArg Value.bool b33) (op_load1 (u := (.int .i64 a.Max)) Try.isAgg2 rfl ((hst.cell 0 rfl).drop 4) ?_)
    refine s_yes 65 rfl (congrArg Value.bool b33) (op_eql (k := .i64) (a := a.Min) (b := a.Max) rfl rfl ?_)
    refine s_yes 59 rfl (congrArg Value.bool b30) (op_pick_t (.bool (decide (a.Min = a.Max))) (congrArg Value.bool b33) rfl ?_)
    refine s_cons (op_pick_f (.bool (decide (a.Min = a.Max))) (congrArg Value.bool b30) rfl ?_)
    refine s_cons (op_assign (.bool (decide (a.Min = a.Max))) rfl ?_)
    refine s_nil ?_
    refine then_n ?_
    refine cE_ret ?_
    refine post_r _ (res1 (v := (.bool (decide (a.Min = a.Max)))) rfl) ?_
    exact ⟨(retv1 (congrArg Value.bool (show (decide (a.Min = a.Max)) = (mayA a) from by (rw [Bool.eq_iff_iff]; simp only [mayA, mayP, i64R, addB, agg_iff, true_and, and_true, decide_eq_true_eq, Bool.false_eq_true, true_iff, false_iff]; omega)))), hst.bare⟩
  have c35 : ¬ (a.Sum = a.Min) := of_decide_eq_false b33
  refine s_no 65 rfl (congrArg Value.bool b33) ?_
  refine s_no 65 rfl (congrArg Value.bool b33) ?_
  refine s_no 65 rfl (congrArg Value.bool b33) ?_
  refine s_no 65 rfl (congrArg Value.bool b33) ?_
  refine s_no 65 rfl (congrArg Value.bool b33) ?_
  refine s_yes 59 rfl (congrArg Value.bool b30) (op_pick_f (.bool false) (congrArg Value.bool b33) rfl ?_)
  refine s_cons (op_pick_f (.bool false) (congrArg Value.bool b30) rfl ?_)
  refine s_cons (op_assign (.bool false) rfl ?_)
  refine s_nil ?_
  refine then_n ?_
  refine cE_ret ?_
  refine post_r _ (res1 (v := (.bool false)) rfl) ?_
  exact ⟨(retv1 (congrArg Value.bool (show false = (mayA a) from by (rw [Bool.eq_iff_iff]; simp only [mayA, mayP, i64R, addB, agg_iff, true_and, and_true, decide_eq_true_eq, Bool.false_eq_true, true_iff, false_iff]; omega)))), hst.bare⟩

theorem c_rWidth (w0 : World) (k : Int) (k0 : -9223372036854775808 ≤ k) (k1 : k ≤ 9223372036854775807) :
    Calls Try.prog 36 #[(.int .i64 k)] w0 fun e w' => e = .returned (.int .i64 (widthA k)) ∧ St w0 w' [] := by
  refine calls_E (n := 12) (ts := [2]) Try.func36 rfl rfl rfl (by simp) ?_
  have hst := St.start w0
  refine cE_seq ?_
  refine cE_region rfl ?_
  refine s_cons (op_assign (.int .i64 0) rfl ?_)
  refine s_nil ?_
  refine then_n ?_
  refine cE_seq ?_
  refine cE_seq ?_
  refine cE_region rfl ?_
  refine s_cons (op_move (.int .i64 k) rfl ?_)
  refine s_nil ?_
  refine then_n ?_
  refine cE_block ?_
  refine cE_seq ?_
  refine cE_region rfl ?_
  refine s_cons (op_eql (k := .i64) (a := k) (b := 0) rfl rfl ?_)
  refine s_cons (op_assign (.bool (decide (k = 0))) rfl ?_)
  refine s_nil ?_
  refine then_n ?_
  rcases Bool.eq_false_or_eq_true (decide (k = 0)) with b36 | b36
  · have c37 : k = 0 := of_decide_eq_true b36
    refine cE_cond true (congrArg Value.bool b36) (fun _ => ?_) (fun h => by cases h)
    refine cE_seq ?_
    refine cE_region rfl ?_
    refine s_cons (op_assign (.int .i64 1) rfl ?_)
    refine s_nil ?_
    refine then_n ?_
    refine cE_ret ?_
    refine block_r (then_r ?_)
    refine post_r _ (res1 (v := (.int .i64 1)) rfl) ?_
    exact ⟨(retv1 (congrArg (Value.int .i64) (show 1 = (widthA k) from by (unfold widthA; (repeat' split) <;> omega)))), hst.bare⟩
  have c38 : ¬ (k = 0) := of_decide_eq_false b36
  refine cE_cond false (congrArg Value.bool b36) (fun h => by cases h) (fun _ => ?_)
  refine cE_seq ?_
  refine cE_region rfl ?_
  refine s_cons (op_eql (k := .i64) (a := k) (b := 1) rfl rfl ?_)
  refine s_cons (op_assign (.bool (decide (k = 1))) rfl ?_)
  refine s_nil ?_
  refine then_n ?_
  rcases Bool.eq_false_or_eq_true (decide (k = 1)) with b39 | b39
  · have c40 : k = 1 := of_decide_eq_true b39
    refine cE_cond true (congrArg Value.bool b39) (fun _ => ?_) (fun h => by cases h)
    refine cE_seq ?_
    refine cE_region rfl ?_
    refine s_cons (op_assign (.int .i64 5) rfl ?_)
    refine s_nil ?_
    refine then_n ?_
    refine cE_ret ?_
    refine block_r (then_r ?_)
    refine post_r _ (res1 (v := (.int .i64 5)) rfl) ?_
    exact ⟨(retv1 (congrArg (Value.int .i64) (show 5 = (widthA k) from by (unfold widthA; (repeat' split) <;> omega)))), hst.bare⟩
  have c41 : ¬ (k = 1) := of_decide_eq_false b39
  refine cE_cond false (congrArg Value.bool b39) (fun h => by cases h) (fun _ => ?_)
  refine cE_seq ?_
  refine cE_region rfl ?_
  refine s_cons (op_eql (k := .i64) (a := k) (b := 2) rfl rfl ?_)
  refine s_cons (op_assign (.bool (decide (k = 2))) rfl ?_)
  refine s_nil ?_
  refine then_n ?_
  rcases Bool.eq_false_or_eq_true (decide (k = 2)) with b42 | b42
  · have c43 : k = 2 := of_decide_eq_true b42
    refine cE_cond true (congrArg Value.bool b42) (fun _ => ?_) (fun h => by cases h)
    refine cE_seq ?_
    refine cE_region rfl ?_
    refine s_cons (op_assign (.int .i64 60) rfl ?_)
    refine s_nil ?_
    refine then_n ?_
    refine cE_ret ?_
    refine block_r (then_r ?_)
    refine post_r _ (res1 (v := (.int .i64 60)) rfl) ?_
    exact ⟨(retv1 (congrArg (Value.int .i64) (show 60 = (widthA k) from by (unfold widthA; (repeat' split) <;> omega)))), hst.bare⟩
  have c44 : ¬ (k = 2) := of_decide_eq_false b42
  refine cE_cond false (congrArg Value.bool b42) (fun h => by cases h) (fun _ => ?_)
  refine cE_seq ?_
  refine cE_region rfl ?_
  refine s_cons (op_eql (k := .i64) (a := k) (b := 3) rfl rfl ?_)
  refine s_cons (op_assign (.bool (decide (k = 3))) rfl ?_)
  refine s_nil ?_
  refine then_n ?_
  rcases Bool.eq_false_or_eq_true (decide (k = 3)) with b45 | b45
  · have c46 : k = 3 := of_decide_eq_true b45
    refine cE_cond true (congrArg Value.bool b45) (fun _ => ?_) (fun h => by cases h)
    refine cE_seq ?_
    refine cE_region rfl ?_
    refine s_cons (op_assign (.int .i64 1440) rfl ?_)
    refine s_nil ?_
    refine then_n ?_
    refine cE_ret ?_
    refine block_r (then_r ?_)
    refine post_r _ (res1 (v := (.int .i64 1440)) rfl) ?_
    exact ⟨(retv1 (congrArg (Value.int .i64) (show 1440 = (widthA k) from by (unfold widthA; (repeat' split) <;> omega)))), hst.bare⟩
  have c47 : ¬ (k = 3) := of_decide_eq_false b45
  refine cE_cond false (congrArg Value.bool b45) (fun h => by cases h) (fun _ => ?_)
  refine cE_skip ?_
  refine block_n (then_n ?_)
  refine cE_seq ?_
  refine cE_region rfl ?_
  refine s_cons (op_assign (.int .i64 0) rfl ?_)
  refine s_nil ?_
  refine then_n ?_
  refine cE_ret ?_
  refine post_r _ (res1 (v := (.int .i64 0)) rfl) ?_
  exact ⟨(retv1 (congrArg (Value.int .i64) (show 0 = (widthA k) from by (unfold widthA; (repeat' split) <;> omega)))), hst.bare⟩

theorem c_rFloor (w0 : World) (t : Int) (k : Int) (t0 : -9223372036854775808 ≤ t) (k0 : -9223372036854775808 ≤ k) (t1 : t ≤ 9223372036854775807) (k1 : k ≤ 9223372036854775807) :
    Calls Try.prog 38 #[(.int .i64 t), (.int .i64 k)] w0 fun e w' => e = .returned (.int .i64 (floorA t k)) ∧ St w0 w' [] := by
  have hw := width_r k
  refine calls_E (n := 22) (ts := [4]) Try.func38 rfl rfl rfl (by simp) ?_
  have hst := St.start w0
  refine cE_seq ?_
  refine cE_region rfl ?_
  refine s_cons (op_assign (.int .i64 0) rfl ?_)
  refine s_nil ?_
  refine then_n ?_
  refine cE_seq ?_
  refine cE_seq ?_
  refine cE_region rfl ?_
  refine s_cons (op_move (.int .i64 t) rfl ?_)
  refine s_cons (op_lss (k := .i64) (a := t) (b := 0) rfl rfl ?_)
  refine s_cons (op_move (.bool (decide (t < 0))) rfl ?_)
  rcases Bool.eq_false_or_eq_true (decide (t < 0)) with b48 | b48
  · have c49 : t < 0 := of_decide_eq_true b48
    refine s_no 7 rfl (congrArg Value.bool b48) ?_
    refine s_no 7 rfl (congrArg Value.bool b48) ?_
    refine s_cons (op_pick_t (.bool true) (congrArg Value.bool b48) rfl ?_)
    refine s_cons (op_move (.bool true) rfl ?_)
    refine s_no 11 rfl rfl ?_
    refine s_no 11 rfl rfl ?_
    refine s_no 11 rfl rfl ?_
    refine s_cons (op_pick_t (.bool true) rfl rfl ?_)
    refine s_nil ?_
    refine then_n ?_
    refine cE_cond true rfl (fun _ => ?_) (fun h => by cases h)
    refine cE_seq ?_
    refine cE_region rfl ?_
    refine s_cons (op_assign (.int .i64 (-1)) rfl ?_)
    refine s_nil ?_
    refine then_n ?_
    refine cE_ret ?_
    refine then_r ?_
    refine post_r _ (res1 (v := (.int .i64 (-1))) rfl) ?_
    exact ⟨(retv1 (congrArg (Value.int .i64) (show (-1) = (floorA t k) from by first | exact (floor_none (by omega)).symm | exact (floor_some (by omega) (by omega) (by omega)).symm))), hst.bare⟩
  have c50 : ¬ (t < 0) := of_decide_eq_false b48
  refine s_yes 7 rfl (congrArg Value.bool b48) (op_move (.int .i64 t) rfl ?_)
  refine s_yes 7 rfl (congrArg Value.bool b48) (op_gtr (k := .i64) (a := t) (b := 1099511627776) rfl rfl ?_)
  refine s_cons (op_pick_f (.bool (decide (1099511627776 < t))) (congrArg Value.bool b48) rfl ?_)
  refine s_cons (op_move (.bool (decide (1099511627776 < t))) rfl ?_)
  rcases Bool.eq_false_or_eq_true (decide (1099511627776 < t)) with b51 | b51
  · have c52 : 1099511627776 < t := of_decide_eq_true b51
    refine s_no 11 rfl (congrArg Value.bool b51) ?_
    refine s_no 11 rfl (congrArg Value.bool b51) ?_
    refine s_no 11 rfl (congrArg Value.bool b51) ?_
    refine s_cons (op_pick_t (.bool true) (congrArg Value.bool b51) rfl ?_)
    refine s_nil ?_
    refine then_n ?_
    refine cE_cond true rfl (fun _ => ?_) (fun h => by cases h)
    refine cE_seq ?_
    refine cE_region rfl ?_
    refine s_cons (op_assign (.int .i64 (-1)) rfl ?_)
    refine s_nil ?_
    refine then_n ?_
    refine cE_ret ?_
    refine then_r ?_
    refine post_r _ (res1 (v := (.int .i64 (-1))) rfl) ?_
    exact ⟨(retv1 (congrArg (Value.int .i64) (show (-1) = (floorA t k) from by first | exact (floor_none (by omega)).symm | exact (floor_some (by omega) (by omega) (by omega)).symm))), hst.bare⟩
  have c53 : ¬ (1099511627776 < t) := of_decide_eq_false b51
  refine s_yes 11 rfl (congrArg Value.bool b51) (op_move (.int .i64 k) rfl ?_)
  refine s_yes 11 rfl (congrArg Value.bool b51) (op_call Try.call36 (evs_cons (v := (.int .i64 k)) rfl evs_nil) (c_rWidth (w0 := w0) (k := k) (k0 := (by omega)) (k1 := (by omega))) ?_)
  rintro _ w54 ⟨rfl, hcall⟩
  refine ⟨_, rfl, ?_⟩
  have hst : St w0 w54 [] := hst.call hcall
  refine s_yes 11 rfl (congrArg Value.bool b51) (op_eql (k := .i64) (a := (widthA k)) (b := 0) rfl rfl ?_)
  refine s_cons (op_pick_f (.bool (decide ((widthA k) = 0))) (congrArg Value.bool b51) rfl ?_)
  refine s_nil ?_
  refine then_n ?_
  rcases Bool.eq_false_or_eq_true (decide ((widthA k) = 0)) with b55 | b55
  · have c56 : (widthA k) = 0 := of_decide_eq_true b55
    refine cE_cond true (congrArg Value.bool b55) (fun _ => ?_) (fun h => by cases h)
    refine cE_seq ?_
    refine cE_region rfl ?_
    refine s_cons (op_assign (.int .i64 (-1)) rfl ?_)
    refine s_nil ?_
    refine then_n ?_
    refine cE_ret ?_
    refine then_r ?_
    refine post_r _ (res1 (v := (.int .i64 (-1))) rfl) ?_
    exact ⟨(retv1 (congrArg (Value.int .i64) (show (-1) = (floorA t k) from by first | exact (floor_none (by omega)).symm | exact (floor_some (by omega) (by omega) (by omega)).symm))), hst.bare⟩
  have c57 : ¬ ((widthA k) = 0) := of_decide_eq_false b55
  refine cE_cond false (congrArg Value.bool b55) (fun h => by cases h) (fun _ => ?_)
  refine cE_skip ?_
  refine then_n ?_
  refine cE_seq ?_
  have hw2 := emod_w (t := t) (w := widthA k) (by omega) (by omega) hw.1
  refine cE_region rfl ?_
  refine s_cons (op_move (.int .i64 t) rfl ?_)
  refine s_cons (op_move (.int .i64 t) rfl ?_)
  refine s_cons (op_move (.int .i64 k) rfl ?_)
  refine s_cons (op_call Try.call36 (evs_cons (v := (.int .i64 k)) rfl evs_nil) (c_rWidth (w0 := w54) (k := k) (k0 := (by omega)) (k1 := (by omega))) ?_)
  rintro _ w58 ⟨rfl, hcall⟩
  refine ⟨_, rfl, ?_⟩
  have hst : St w0 w58 [] := hst.call hcall
  refine s_cons (op_rem (k := .i64) (a := t) (b := (widthA k)) (t % (widthA k)) rfl rfl (by omega) (tmod_nn (by omega)) ?_)
  refine s_cons (op_sub (k := .i64) (a := t) (b := (t % (widthA k))) (t - (t % (widthA k))) rfl rfl (xi64 (by omega) (by omega)) ?_)
  refine s_cons (op_assign (.int .i64 (t - (t % (widthA k)))) rfl ?_)
  refine s_nil ?_
  refine then_n ?_
  refine cE_ret ?_
  refine post_r _ (res1 (v := (.int .i64 (t - (t % (widthA k))))) rfl) ?_
  exact ⟨(retv1 (congrArg (Value.int .i64) (show (t - (t % (widthA k))) = (floorA t k) from by first | exact (floor_none (by omega)).symm | exact (floor_some (by omega) (by omega) (by omega)).symm))), hst.bare⟩

theorem c_rRising (w0 : World) (v_l : Value) (l : List Sample) (h_l : Sl w0 sampE v_l l) (hl : ∀ s ∈ l, s.ok) :
    Calls Try.prog 24 #[v_l] w0 fun e w' => e = .returned (.bool (risingA l)) ∧ St w0 w' [] := by
  refine calls_E (n := 42) (ts := [2]) Try.func24 rfl rfl rfl (by simp) ?_
  have hst := St.start w0
  refine cE_seq ?_
  refine cE_region rfl ?_
  refine s_cons (op_assign (.bool false) rfl ?_)
  refine s_nil ?_
  refine then_n ?_
  refine cE_seq ?_
  refine cE_seq ?_
  refine cE_region rfl ?_
  refine s_cons (op_assign (.int .i64 0) rfl ?_)
  refine s_nil ?_
  refine then_n ?_
  refine cE_block ?_
  refine cE_loop (fun (m : Nat) (ρ : Env) (w : World) => ∃ (i : Nat), m = l.length - i ∧ ρ 0 = v_l ∧ ρ 3 = (.int .i64 (i : Int)) ∧ St w0 w [] ∧ (i ≤ l.length) ∧ (-1 ≤ lastT l i) ∧ (risingA l = risesFrom (lastT l i) (l.drop i))) id _ ⟨0, rfl, rfl, (congrArg (Value.int .i64) (show 0 = _ from by omega)), hst, (by omega), (by first | exact (by decide : (-1 : Int) ≤ -1) | (rw [lastT_succ (by omega)]; omega)), (by first | rfl | exact hI.trans (rr_go (by omega) (by omega) (by omega) (by first | (left; omega) | (right; rw [lastT_pred (by omega) (by omega)]; assumption))))⟩ ?_
  rintro m60 ρ61 w62 ⟨i, hm60, q59_0, q59_3, hst, hi, hlt, hI⟩
  have hlen := h_l.len
  refine cE_seq ?_
  refine cE_seq ?_
  refine cE_region rfl ?_
  refine s_cons (op_move (.int .i64 (i : Int)) q59_3 ?_)
  refine s_cons (op_move v_l q59_0 ?_)
  refine s_cons (op_len (E := sampE) (xs := l) Try.underlying22 rfl h_l ?_)
  refine s_cons (op_lss (k := .i64) (a := (i : Int)) (b := (l.length : Int)) rfl rfl ?_)
  refine s_nil ?_
  refine then_n ?_
  rcases Bool.eq_false_or_eq_true (decide ((i : Int) < (l.length : Int))) with b63 | b63
  · have c64 : (i : Int) < (l.length : Int) := of_decide_eq_true b63
    refine cE_cond true (congrArg Value.bool b63) (fun _ => ?_) (fun h => by cases h)
    refine cE_skip ?_
    refine then_n ?_
    refine cE_seq ?_
    refine cE_block ?_
    refine cE_seq ?_
    rcases Bool.eq_false_or_eq_true (decide (((l[i]'(by omega)).T) < 0)) with b68 | b68
    · have c69 : ((l[i]'(by omega)).T) < 0 := of_decide_eq_true b68
      refine cE_regionL hst [[(0, none)], [(3, none)], [(10, some 0), (11, some 1)], [(12, some 2)], [(13, some 3)], [(14, some 4)], [(15, some 5)], [(0, none), (16, some 6)], [(3, none), (16, some 6)], [(17, some 7), (18, some 8), (16, some 6)], [(19, some 9), (16, some 6)], [(20, some 10), (16, some 6)], [(21, some 11), (16, some 6)], [(16, some 6), (22, some 12)], [(23, some 13)], [(3, none), (24, some 14)], [(25, some 15), (24, some 14)], [(26, some 16), (24, some 14)], [(0, none), (27, some 17)], [(3, none), (27, some 17)], [(28, some 18), (29, some 19), (27, some 17)], [(30, some 20), (27, some 17)], [(31, some 21), (27, some 17)], [(0, none), (27, some 17)], [(3, none), (27, some 17)], [(34, some 24), (27, some 17)], [(33, some 23), (35, some 25), (27, some 17)], [(36, some 26), (27, some 17)], [(37, some 27), (27, some 17)], [(32, some 22), (38, some 28), (27, some 17)], [(27, some 17), (39, some 29), (24, some 14)], [(24, some 14), (40, some 30)]] [(rEq v_l), (rEq (.int .i64 (i : Int))), (rPt [(.int .i64 ((l[i]'(by omega)).T)), (.int .i64 ((l[i]'(by omega)).V))]), (rPt [(.int .i64 ((l[i]'(by omega)).T)), (.int .i64 ((l[i]'(by omega)).V))]), (rEq (.int .i64 ((l[i]'(by omega)).T))), (rEq (.bool (decide (((l[i]'(by omega)).T) < 0)))), (rEq (.bool (decide (((l[i]'(by omega)).T) < 0)))), (rEq undef), (rEq undef), (rEq undef), (rEq undef), (rEq undef), (rEq undef), (rEq (.bool true)), (rEq (.bool true)), (rEq undef), (rEq undef), (rEq undef), (rEq undef), (rEq undef), (rEq undef), (rEq undef), (rEq undef), (rEq undef), (rEq undef), (rEq undef), (rEq undef), (rEq undef), (rEq undef), (rEq undef), (rEq undef), (rEq (.bool true))] (by kernel_rfl) rfl (by kernel_rfl) ⟨sEq, sEq, sPt, sPt, sEq, sEq, sEq, sEq, sEq, sEq, sEq, sEq, sEq, sEq, sEq, sEq, sEq, sEq, sEq, sEq, sEq, sEq, sEq, sEq, sEq, sEq, sEq, sEq, sEq, sEq, sEq, sEq, trivial⟩ ⟨?_, ?_, ?_, ?_, ?_, ?_, ?_, ?_, ?_, ?_, ?_, ?_, ?_, ?_, ?_, ?_, ?_, ?_, ?_, ?_, ?_, ?_, ?_, ?_, ?_, ?_, ?_, ?_, ?_, ?_, ?_, ?_, trivial⟩ ?_
      · rintro ρ73 w74 hj75 ⟨f0, _⟩
        have hst := hj75.2
        exact go_plain (op_move v_l (f0.trans q59_0) (kS hj75 rfl))
      · rintro ρ76 w77 hj78 ⟨f3, _⟩
        have hst := hj78.2
        exact go_plain (op_move (.int .i64 (i : Int)) (f3.trans q59_3) (kS hj78 rfl))
      · rintro ρ79 w80 hj81 ⟨f10, f11, _⟩
        have hst := hj81.2
        refine go_plain (op_indexAddrN (E := sampE) (xs := l) i Try.underlying22 Try.sizeOf48 f10 h_l f11 (by omega) (by omega) (fun a82 o83 p84 => ?_))
        exact kS hj81 ⟨_, _, rfl, (p84.below hst.below)⟩
      · rintro ρ85 w86 hj87 ⟨f12, _⟩
        have hst := hj87.2
        obtain ⟨a88, o89, e90, p91⟩ := f12
        exact go_plain (op_fieldAddr (s := 0) Try.underlying48 rfl rfl Try.sizeOf2 e90 (kS hj87 ⟨_, _, rfl, p91⟩))
      · rintro ρ92 w93 hj94 ⟨f13, _⟩
        have hst := hj94.2
        obtain ⟨a95, o96, e97, p98⟩ := f13
        exact go_plain (op_load1 (u := (.int .i64 ((l[i]'(by omega)).T))) Try.isAgg2 e97 p98 (kS hj94 rfl))
      · rintro ρ99 w100 hj101 ⟨f14, _⟩
        have hst := hj101.2
        exact go_plain (op_lss (k := .i64) (a := (l[i]'(by omega)).T) (b := 0) f14 rfl (kS hj101 rfl))
      · rintro ρ102 w103 hj104 ⟨f15, _⟩
        have hst := hj104.2
        exact go_plain (op_move (.bool (decide (((l[i]'(by omega)).T) < 0))) f15 (kS hj104 rfl))
      · rintro ρ105 w106 hj107 ⟨f0, f16, _⟩
        have hst := hj107.2
        exact go_no 16 rfl (f16.trans (congrArg Value.bool b68)) (kS hj107 rfl)
      · rintro ρ108 w109 hj110 ⟨f3, f16, _⟩
        have hst := hj110.2
        exact go_no 16 rfl (f16.trans (congrArg Value.bool b68)) (kS hj110 rfl)
      · rintro ρ111 w112 hj113 ⟨f17, f18, f16, _⟩
        have hst := hj113.2
        exact go_no 16 rfl (f16.trans (congrArg Value.bool b68)) (kS hj113 rfl)
      · rintro ρ114 w115 hj116 ⟨f19, f16, _⟩
        have hst := hj116.2
        exact go_no 16 rfl (f16.trans (congrArg Value.bool b68)) (kS hj116 rfl)
      · rintro ρ117 w118 hj119 ⟨f20, f16, _⟩
        have hst := hj119.2
        exact go_no 16 rfl (f16.trans (congrArg Value.bool b68)) (kS hj119 rfl)
      · rintro ρ120 w121 hj122 ⟨f21, f16, _⟩
        have hst := hj122.2
        exact go_no 16 rfl (f16.trans (congrArg Value.bool b68)) (kS hj122 rfl)
      · rintro ρ123 w124 hj125 ⟨f16, f22, _⟩
        have hst := hj125.2
        exact go_plain (op_pick_t (.bool true) (f16.trans (congrArg Value.bool b68)) rfl (kS hj125 rfl))
      · rintro ρ126 w127 hj128 ⟨f23, _⟩
        have hst := hj128.2
        exact go_plain (op_move (.bool true) f23 (kS hj128 rfl))
      · rintro ρ129 w130 hj131 ⟨f3, f24, _⟩
        have hst := hj131.2
        exact go_no 24 rfl f24 (kS hj131 rfl)
      · rintro ρ132 w133 hj134 ⟨f25, f24, _⟩
        have hst := hj134.2
        exact go_no 24 rfl f24 (kS hj134 rfl)
      · rintro ρ135 w136 hj137 ⟨f26, f24, _⟩
        have hst := hj137.2
        exact go_no 24 rfl f24 (kS hj137 rfl)
      · rintro ρ138 w139 hj140 ⟨f0, f27, _⟩
        have hst := hj140.2
        exact go_un 27 rfl f27 (kS hj140 rfl)
      · rintro ρ141 w142 hj143 ⟨f3, f27, _⟩
        have hst := hj143.2
        exact go_un 27 rfl f27 (kS hj143 rfl)
      · rintro ρ144 w145 hj146 ⟨f28, f29, f27, _⟩
        have hst := hj146.2
        exact go_un 27 rfl f27 (kS hj146 rfl)
      · rintro ρ147 w148 hj149 ⟨f30, f27, _⟩
        have hst := hj149.2
        exact go_un 27 rfl f27 (kS hj149 rfl)
      · rintro ρ150 w151 hj152 ⟨f31, f27, _⟩
        have hst := hj152.2
        exact go_un 27 rfl f27 (kS hj152 rfl)
      · rintro ρ153 w154 hj155 ⟨f0, f27, _⟩
        have hst := hj155.2
        exact go_un 27 rfl f27 (kS hj155 rfl)
      · rintro ρ156 w157 hj158 ⟨f3, f27, _⟩
        have hst := hj158.2
        exact go_un 27 rfl f27 (kS hj158 rfl)
      · rintro ρ159 w160 hj161 ⟨f34, f27, _⟩
        have hst := hj161.2
        exact go_un 27 rfl f27 (kS hj161 rfl)
      · rintro ρ162 w163 hj164 ⟨f33, f35, f27, _⟩
        have hst := hj164.2
        exact go_un 27 rfl f27 (kS hj164 rfl)
      · rintro ρ165 w166 hj167 ⟨f36, f27, _⟩
        have hst := hj167.2
        exact go_un 27 rfl f27 (kS hj167 rfl)
      · rintro ρ168 w169 hj170 ⟨f37, f27, _⟩
        have hst := hj170.2
        exact go_un 27 rfl f27 (kS hj170 rfl)
      · rintro ρ171 w172 hj173 ⟨f32, f38, f27, _⟩
        have hst := hj173.2
        exact go_un 27 rfl f27 (kS hj173 rfl)
      · rintro ρ174 w175 hj176 ⟨f27, f39, f24, _⟩
        have hst := hj176.2
        exact go_no 24 rfl f24 (kS hj176 rfl)
      · rintro ρ177 w178 hj179 ⟨f24, f40, _⟩
        have hst := hj179.2
        exact go_plain (op_pick_t (.bool true) f24 rfl (kS hj179 rfl))
      intro ρ180 w181 hbw181 hst hRw181 hkw181
      have uw181_0 : ρ180 0 = v_l := (hkw181 0 rfl).trans q59_0
      have uw181_3 : ρ180 3 = (.int .i64 (i : Int)) := (hkw181 3 rfl).trans q59_3
      have uw181_4 : ρ180 4 = (.int .i64 (i : Int)) := (hkw181 4 rfl).trans rfl
      have uw181_5 : ρ180 5 = v_l := (hkw181 5 rfl).trans rfl
      have uw181_6 : ρ180 6 = (.int .i64 (l.length : Int)) := (hkw181 6 rfl).trans rfl
      have uw181_7 : ρ180 7 = (.bool (decide ((i : Int) < (l.length : Int)))) := (hkw181 7 rfl).trans rfl
      have uw181_41 : ρ180 41 = (.bool true) := hRw181 31 41 rfl
      refine then_n ?_
      refine cE_cond true uw181_41 (fun _ => ?_) (fun h => by cases h)
      refine cE_seq ?_
      refine cE_region rfl ?_
      refine s_cons (op_assign (.bool false) rfl ?_)
      refine s_nil ?_
      refine then_n ?_
      refine cE_ret ?_
      refine block_r (then_r (then_r (block_r (then_r ?_))))
      refine post_r _ (res1 (v := (.bool false)) rfl) ?_
      exact ⟨(retv1 (congrArg Value.bool (show false = (risingA l) from by first | exact (hI.trans (rr_no (by omega) (by first | (left; omega) | (right; left; omega) | (right; right; exact ⟨by omega, (by rw [lastT_pred (by omega) (by omega)]; assumption)⟩)) hlt)).symm | exact (hI.trans (rises_end (by omega))).symm))), hst.bare⟩
    have c182 : ¬ (((l[i]'(by omega)).T) < 0) := of_decide_eq_false b68
    rcases Bool.eq_false_or_eq_true (decide (1099511627776 < ((l[i]'(by omega)).T))) with b189 | b189
    · have c190 : 1099511627776 < ((l[i]'(by omega)).T) := of_decide_eq_true b189
      refine cE_regionL hst [[(0, none)], [(3, none)], [(10, some 0), (11, some 1)], [(12, some 2)], [(13, some 3)], [(14, some 4)], [(15, some 5)], [(0, none), (16, some 6)], [(3, none), (16, some 6)], [(17, some 7), (18, some 8), (16, some 6)], [(19, some 9), (16, some 6)], [(20, some 10), (16, some 6)], [(21, some 11), (16, some 6)], [(16, some 6), (22, some 12)], [(23, some 13)], [(3, none), (24, some 14)], [(25, some 15), (24, some 14)], [(26, some 16), (24, some 14)], [(0, none), (27, some 17)], [(3, none), (27, some 17)], [(28, some 18), (29, some 19), (27, some 17)], [(30, some 20), (27, some 17)], [(31, some 21), (27, some 17)], [(0, none), (27, some 17)], [(3, none), (27, some 17)], [(34, some 24), (27, some 17)], [(33, some 23), (35, some 25), (27, some 17)], [(36, some 26), (27, some 17)], [(37, some 27), (27, some 17)], [(32, some 22), (38, some 28), (27, some 17)], [(27, some 17), (39, some 29), (24, some 14)], [(24, some 14), (40, some 30)]] [(rEq v_l), (rEq (.int .i64 (i : Int))), (rPt [(.int .i64 ((l[i]'(by omega)).T)), (.int .i64 ((l[i]'(by omega)).V))]), (rPt [(.int .i64 ((l[i]'(by omega)).T)), (.int .i64 ((l[i]'(by omega)).V))]), (rEq (.int .i64 ((l[i]'(by omega)).T))), (rEq (.bool (decide (((l[i]'(by omega)).T) < 0)))), (rEq (.bool (decide (((l[i]'(by omega)).T) < 0)))), (rEq v_l), (rEq (.int .i64 (i : Int))), (rPt [(.int .i64 ((l[i]'(by omega)).T)), (.int .i64 ((l[i]'(by omega)).V))]), (rPt [(.int .i64 ((l[i]'(by omega)).T)), (.int .i64 ((l[i]'(by omega)).V))]), (rEq (.int .i64 ((l[i]'(by omega)).T))), (rEq (.bool (decide (1099511627776 < ((l[i]'(by omega)).T))))), (rEq (.bool (decide (1099511627776 < ((l[i]'(by omega)).T))))), (rEq (.bool (decide (1099511627776 < ((l[i]'(by omega)).T))))), (rEq undef), (rEq undef), (rEq undef), (rEq undef), (rEq undef), (rEq undef), (rEq undef), (rEq undef), (rEq undef), (rEq undef), (rEq undef), (rEq undef), (rEq undef), (rEq undef), (rEq undef), (rEq undef), (rEq (.bool true))] (by kernel_rfl) rfl (by kernel_rfl) ⟨sEq, sEq, sPt, sPt, sEq, sEq, sEq, sEq, sEq, sPt, sPt, sEq, sEq, sEq, sEq, sEq, sEq, sEq, sEq, sEq, sEq, sEq, sEq, sEq, sEq, sEq, sEq, sEq, sEq, sEq, sEq, sEq, trivial⟩ ⟨?_, ?_, ?_, ?_, ?_, ?_, ?_, ?_, ?_, ?_, ?_, ?_, ?_, ?_, ?_, ?_, ?_, ?_, ?_, ?_, ?_, ?_, ?_, ?_, ?_, ?_, ?_, ?_, ?_, ?_, ?_, ?_, trivial⟩ ?_
      · rintro ρ197 w198 hj199 ⟨f0, _⟩
        have hst := hj199.2
        exact go_plain (op_move v_l (f0.trans q59_0) (kS hj199 rfl))
      · rintro ρ200 w201 hj202 ⟨f3, _⟩
        have hst := hj202.2
        exact go_plain (op_move (.int .i64 (i : Int)) (f3.trans q59_3) (kS hj202 rfl))
      · rintro ρ203 w204 hj205 ⟨f10, f11, _⟩
        have hst := hj205.2
        refine go_plain (op_indexAddrN (E := sampE) (xs := l) i Try.underlying22 Try.sizeOf48 f10 h_l f11 (by omega) (by omega) (fun a206 o207 p208 => ?_))
        exact kS hj205 ⟨_, _, rfl, (p208.below hst.below)⟩
      · rintro ρ209 w210 hj211 ⟨f12, _⟩
        have hst := hj211.2
        obtain ⟨a212, o213, e214, p215⟩ := f12
        exact go_plain (op_fieldAddr (s := 0) Try.underlying48 rfl rfl Try.sizeOf2 e214 (kS hj211 ⟨_, _, rfl, p215⟩))
      · rintro ρ216 w217 hj218 ⟨f13, _⟩
        have hst := hj218.2
        obtain ⟨a219, o220, e221, p222⟩ := f13
        exact go_plain (op_load1 (u := (.int .i64 ((l[i]'(by omega)).T))) Try.isAgg2 e221 p222 (kS hj218 rfl))
      · rintro ρ223 w224 hj225 ⟨f14, _⟩
        have hst := hj225.2
        exact go_plain (op_lss (k := .i64) (a := (l[i]'(by omega)).T) (b := 0) f14 rfl (kS hj225 rfl))
      · rintro ρ226 w227 hj228 ⟨f15, _⟩
        have hst := hj228.2
        exact go_plain (op_move (.bool (decide (((l[i]'(by omega)).T) < 0))) f15 (kS hj228 rfl))
      · rintro ρ229 w230 hj231 ⟨f0, f16, _⟩
        have hst := hj231.2
        exact go_yes 16 rfl (f16.trans (congrArg Value.bool b68)) (op_move v_l (f0.trans q59_0) (kS hj231 rfl))
      · rintro ρ232 w233 hj234 ⟨f3, f16, _⟩
        have hst := hj234.2
        exact go_yes 16 rfl (f16.trans (congrArg Value.bool b68)) (op_move (.int .i64 (i : Int)) (f3.trans q59_3) (kS hj234 rfl))
      · rintro ρ235 w236 hj237 ⟨f17, f18, f16, _⟩
        have hst := hj237.2
        refine go_yes 16 rfl (f16.trans (congrArg Value.bool b68)) (op_indexAddrN (E := sampE) (xs := l) i Try.underlying22 Try.sizeOf48 f17 h_l f18 (by omega) (by omega) (fun a238 o239 p240 => ?_))
        exact kS hj237 ⟨_, _, rfl, (p240.below hst.below)⟩
      · rintro ρ241 w242 hj243 ⟨f19, f16, _⟩
        have hst := hj243.2
        obtain ⟨a244, o245, e246, p247⟩ := f19
        exact go_yes 16 rfl (f16.trans (congrArg Value.bool b68)) (op_fieldAddr (s := 0) Try.underlying48 rfl rfl Try.sizeOf2 e246 (kS hj243 ⟨_, _, rfl, p247⟩))
      · rintro ρ248 w249 hj250 ⟨f20, f16, _⟩
        have hst := hj250.2
        obtain ⟨a251, o252, e253, p254⟩ := f20
        exact go_yes 16 rfl (f16.trans (congrArg Value.bool b68)) (op_load1 (u := (.int .i64 ((l[i]'(by omega)).T))) Try.isAgg2 e253 p254 (kS hj250 rfl))
      · rintro ρ255 w256 hj257 ⟨f21, f16, _⟩
        have hst := hj257.2
        exact go_yes 16 rfl (f16.trans (congrArg Value.bool b68)) (op_gtr (k := .i64) (a := (l[i]'(by omega)).T) (b := 1099511627776) f21 rfl (kS hj257 rfl))
      · rintro ρ258 w259 hj260 ⟨f16, f22, _⟩
        have hst := hj260.2
        exact go_plain (op_pick_f (.bool (decide (1099511627776 < ((l[i]'(by omega)).T)))) (f16.trans (congrArg Value.bool b68)) f22 (kS hj260 rfl))
      · rintro ρ261 w262 hj263 ⟨f23, _⟩
        have hst := hj263.2
        exact go_plain (op_move (.bool (decide (1099511627776 < ((l[i]'(by omega)).T)))) f23 (kS hj263 rfl))
      · rintro ρ264 w265 hj266 ⟨f3, f24, _⟩
        have hst := hj266.2
        exact go_no 24 rfl (f24.trans (congrArg Value.bool b189)) (kS hj266 rfl)
      · rintro ρ267 w268 hj269 ⟨f25, f24, _⟩
        have hst := hj269.2
        exact go_no 24 rfl (f24.trans (congrArg Value.bool b189)) (kS hj269 rfl)
      · rintro ρ270 w271 hj272 ⟨f26, f24, _⟩
        have hst := hj272.2
        exact go_no 24 rfl (f24.trans (congrArg Value.bool b189)) (kS hj272 rfl)
      · rintro ρ273 w274 hj275 ⟨f0, f27, _⟩
        have hst := hj275.2
        exact go_un 27 rfl f27 (kS hj275 rfl)
      · rintro ρ276 w277 hj278 ⟨f3, f27, _⟩
        have hst := hj278.2
        exact go_un 27 rfl f27 (kS hj278 rfl)
      · rintro ρ279 w280 hj281 ⟨f28, f29, f27, _⟩
        have hst := hj281.2
        exact go_un 27 rfl f27 (kS hj281 rfl)
      · rintro ρ282 w283 hj284 ⟨f30, f27, _⟩
        have hst := hj284.2
        exact go_un 27 rfl f27 (kS hj284 rfl)
      · rintro ρ285 w286 hj287 ⟨f31, f27, _⟩
        have hst := hj287.2
        exact go_un 27 rfl f27 (kS hj287 rfl)
      · rintro ρ288 w289 hj290 ⟨f0, f27, _⟩
        have hst := hj290.2
        exact go_un 27 rfl f27 (kS hj290 rfl)
      · rintro ρ291 w292 hj293 ⟨f3, f27, _⟩
        have hst := hj293.2
        exact go_un 27 rfl f27 (kS hj293 rfl)
      · rintro ρ294 w295 hj296 ⟨f34, f27, _⟩
        have hst := hj296.2
        exact go_un 27 rfl f27 (kS hj296 rfl)
      · rintro ρ297 w298 hj299 ⟨f33, f35, f27, _⟩
        have hst := hj299.2
        exact go_un 27 rfl f27 (kS hj299 rfl)
      · rintro ρ300 w301 hj302 ⟨f36, f27, _⟩
        have hst := hj302.2
        exact go_un 27 rfl f27 (kS hj302 rfl)
      · rintro ρ303 w304 hj305 ⟨f37, f27, _⟩
        have hst := hj305.2
        exact go_un 27 rfl f27 (kS hj305 rfl)
      · rintro ρ306 w307 hj308 ⟨f32, f38, f27, _⟩
        have hst := hj308.2
        exact go_un 27 rfl f27 (kS hj308 rfl)
      · rintro ρ309 w310 hj311 ⟨f27, f39, f24, _⟩
        have hst := hj311.2
        exact go_no 24 rfl (f24.trans (congrArg Value.bool b189)) (kS hj311 rfl)
      · rintro ρ312 w313 hj314 ⟨f24, f40, _⟩
        have hst := hj314.2
        exact go_plain (op_pick_t (.bool true) (f24.trans (congrArg Value.bool b189)) rfl (kS hj314 rfl))
      intro ρ315 w316 hbw316 hst hRw316 hkw316
      have uw316_0 : ρ315 0 = v_l := (hkw316 0 rfl).trans q59_0
      have uw316_3 : ρ315 3 = (.int .i64 (i : Int)) := (hkw316 3 rfl).trans q59_3
      have uw316_4 : ρ315 4 = (.int .i64 (i : Int)) := (hkw316 4 rfl).trans rfl
      have uw316_5 : ρ315 5 = v_l := (hkw316 5 rfl).trans rfl
      have uw316_6 : ρ315 6 = (.int .i64 (l.length : Int)) := (hkw316 6 rfl).trans rfl
      have uw316_7 : ρ315 7 = (.bool (decide ((i : Int) < (l.length : Int)))) := (hkw316 7 rfl).trans rfl
      have uw316_41 : ρ315 41 = (.bool true) := hRw316 31 41 rfl
      refine then_n ?_
      refine cE_cond true uw316_41 (fun _ => ?_) (fun h => by cases h)
      refine cE_seq ?_
      refine cE_region rfl ?_
      refine s_cons (op_assign (.bool false) rfl ?_)
      refine s_nil ?_
      refine then_n ?_
      refine cE_ret ?_
      refine block_r (then_r (then_r (block_r (then_r ?_))))
      refine post_r _ (res1 (v := (.bool false)) rfl) ?_
      exact ⟨(retv1 (congrArg Value.bool (show false = (risingA l) from by first | exact (hI.trans (rr_no (by omega) (by first | (left; omega) | (right; left; omega) | (right; right; exact ⟨by omega, (by rw [lastT_pred (by omega) (by omega)]; assumption)⟩)) hlt)).symm | exact (hI.trans (rises_end (by omega))).symm))), hst.bare⟩
    have c317 : ¬ (1099511627776 < ((l[i]'(by omega)).T)) := of_decide_eq_false b189
    rcases Bool.eq_false_or_eq_true (decide (0 < (i : Int))) with b324 | b324
    · have c325 : 0 < (i : Int) := of_decide_eq_true b324
      refine cE_regionL hst [[(0, none)], [(3, none)], [(10, some 0), (11, some 1)], [(12, some 2)], [(13, some 3)], [(14, some 4)], [(15, some 5)], [(0, none), (16, some 6)], [(3, none), (16, some 6)], [(17, some 7), (18, some 8), (16, some 6)], [(19, some 9), (16, some 6)], [(20, some 10), (16, some 6)], [(21, some 11), (16, some 6)], [(16, some 6), (22, some 12)], [(23, some 13)], [(3, none), (24, some 14)], [(25, some 15), (24, some 14)], [(26, some 16), (24, some 14)], [(0, none), (27, some 17)], [(3, none), (27, some 17)], [(28, some 18), (29, some 19), (27, some 17)], [(30, some 20), (27, some 17)], [(31, some 21), (27, some 17)], [(0, none), (27, some 17)], [(3, none), (27, some 17)], [(34, some 24), (27, some 17)], [(33, some 23), (35, some 25), (27, some 17)], [(36, some 26), (27, some 17)], [(37, some 27), (27, some 17)], [(32, some 22), (38, some 28), (27, some 17)], [(27, some 17), (39, some 29), (24, some 14)], [(24, some 14), (40, some 30)]] [(rEq v_l), (rEq (.int .i64 (i : Int))), (rPt [(.int .i64 ((l[i]'(by omega)).T)), (.int .i64 ((l[i]'(by omega)).V))]), (rPt [(.int .i64 ((l[i]'(by omega)).T)), (.int .i64 ((l[i]'(by omega)).V))]), (rEq (.int .i64 ((l[i]'(by omega)).T))), (rEq (.bool (decide (((l[i]'(by omega)).T) < 0)))), (rEq (.bool (decide (((l[i]'(by omega)).T) < 0)))), (rEq v_l), (rEq (.int .i64 (i : Int))), (rPt [(.int .i64 ((l[i]'(by omega)).T)), (.int .i64 ((l[i]'(by omega)).V))]), (rPt [(.int .i64 ((l[i]'(by omega)).T)), (.int .i64 ((l[i]'(by omega)).V))]), (rEq (.int .i64 ((l[i]'(by omega)).T))), (rEq (.bool (decide (1099511627776 < ((l[i]'(by omega)).T))))), (rEq (.bool (decide (1099511627776 < ((l[i]'(by omega)).T))))), (rEq (.bool (decide (1099511627776 < ((l[i]'(by omega)).T))))), (rEq (.int .i64 (i : Int))), (rEq (.bool (decide (0 < (i : Int))))), (rEq (.bool (decide (0 < (i : Int))))), (rEq v_l), (rEq (.int .i64 (i : Int))), (rPt [(.int .i64 ((l[i]'(by omega)).T)), (.int .i64 ((l[i]'(by omega)).V))]), (rPt [(.int .i64 ((l[i]'(by omega)).T)), (.int .i64 ((l[i]'(by omega)).V))]), (rEq (.int .i64 ((l[i]'(by omega)).T))), (rEq v_l), (rEq (.int .i64 (i : Int))), (rEq (.int .i64 ((i : Int) - 1))), (rPt [(.int .i64 ((l[(i - 1)]'(by omega)).T)), (.int .i64 ((l[(i - 1)]'(by omega)).V))]), (rPt [(.int .i64 ((l[(i - 1)]'(by omega)).T)), (.int .i64 ((l[(i - 1)]'(by omega)).V))]), (rEq (.int .i64 ((l[(i - 1)]'(by omega)).T))), (rEq (.bool (decide (((l[i]'(by omega)).T) ≤ ((l[(i - 1)]'(by omega)).T))))), (rEq (.bool (decide (((l[i]'(by omega)).T) ≤ ((l[(i - 1)]'(by omega)).T))))), (rEq (.bool (decide (((l[i]'(by omega)).T) ≤ ((l[(i - 1)]'(by omega)).T)))))] (by kernel_rfl) rfl (by kernel_rfl) ⟨sEq, sEq, sPt, sPt, sEq, sEq, sEq, sEq, sEq, sPt, sPt, sEq, sEq, sEq, sEq, sEq, sEq, sEq, sEq, sEq, sPt, sPt, sEq, sEq, sEq, sEq, sPt, sPt, sEq, sEq, sEq, sEq, trivial⟩ ⟨?_, ?_, ?_, ?_, ?_, ?_, ?_, ?_, ?_, ?_, ?_, ?_, ?_, ?_, ?_, ?_, ?_, ?_, ?_, ?_, ?_, ?_, ?_, ?_, ?_, ?_, ?_, ?_, ?_, ?_, ?_, ?_, trivial⟩ ?_
      · rintro ρ338 w339 hj340 ⟨f0, _⟩
        have hst := hj340.2
        exact go_plain (op_move v_l (f0.trans q59_0) (kS hj340 rfl))
      · rintro ρ341 w342 hj343 ⟨f3, _⟩
        have hst := hj343.2
        exact go_plain (op_move (.int .i64 (i : Int)) (f3.trans q59_3) (kS hj343 rfl))
      · rintro ρ344 w345 hj346 ⟨f10, f11, _⟩
        have hst := hj346.2
        refine go_plain (op_indexAddrN (E := sampE) (xs := l) i Try.underlying22 Try.sizeOf48 f10 h_l f11 (by omega) (by omega) (fun a347 o348 p349 => ?_))
        exact kS hj346 ⟨_, _, rfl, (p349.below hst.below)⟩
      · rintro ρ350 w351 hj352 ⟨f12, _⟩
        have hst := hj352.2
        obtain ⟨a353, o354, e355, p356⟩ := f12
        exact go_plain (op_fieldAddr (s := 0) Try.underlying48 rfl rfl Try.sizeOf2 e355 (kS hj352 ⟨_, _, rfl, p356⟩))
      · rintro ρ357 w358 hj359 ⟨f13, _⟩
        have hst := hj359.2
        obtain ⟨a360, o361, e362, p363⟩ := f13
        exact go_plain (op_load1 (u := (.int .i64 ((l[i]'(by omega)).T))) Try.isAgg2 e362 p363 (kS hj359 rfl))
      · rintro ρ364 w365 hj366 ⟨f14, _⟩
        have hst := hj366.2
        exact go_plain (op_lss (k := .i64) (a := (l[i]'(by omega)).T) (b := 0) f14 rfl (kS hj366 rfl))
      · rintro ρ367 w368 hj369 ⟨f15, _⟩
        have hst := hj369.2
        exact go_plain (op_move (.bool (decide (((l[i]'(by omega)).T) < 0))) f15 (kS hj369 rfl))
      · rintro ρ370 w371 hj372 ⟨f0, f16, _⟩
        have hst := hj372.2
        exact go_yes 16 rfl (f16.trans (congrArg Value.bool b68)) (op_move v_l (f0.trans q59_0) (kS hj372 rfl))
      · rintro ρ373 w374 hj375 ⟨f3, f16, _⟩
        have hst := hj375.2
        exact go_yes 16 rfl (f16.trans (congrArg Value.bool b68)) (op_move (.int .i64 (i : Int)) (f3.trans q59_3) (kS hj375 rfl))
      · rintro ρ376 w377 hj378 ⟨f17, f18, f16, _⟩
        have hst := hj378.2
        refine go_yes 16 rfl (f16.trans (congrArg Value.bool b68)) (op_indexAddrN (E := sampE) (xs := l) i Try.underlying22 Try.sizeOf48 f17 h_l f18 (by omega) (by omega) (fun a379 o380 p381 => ?_))
        exact kS hj378 ⟨_, _, rfl, (p381.below hst.below)⟩
      · rintro ρ382 w383 hj384 ⟨f19, f16, _⟩
        have hst := hj384.2
        obtain ⟨a385, o386, e387, p388⟩ := f19
        exact go_yes 16 rfl (f16.trans (congrArg Value.bool b68)) (op_fieldAddr (s := 0) Try.underlying48 rfl rfl Try.sizeOf2 e387 (kS hj384 ⟨_, _, rfl, p388⟩))
      · rintro ρ389 w390 hj391 ⟨f20, f16, _⟩
        have hst := hj391.2
        obtain ⟨a392, o393, e394, p395⟩ := f20
        exact go_yes 16 rfl (f16.trans (congrArg Value.bool b68)) (op_load1 (u := (.int .i64 ((l[i]'(by omega)).T))) Try.isAgg2 e394 p395 (kS hj391 rfl))
      · rintro ρ396 w397 hj398 ⟨f21, f16, _⟩
        have hst := hj398.2
        exact go_yes 16 rfl (f16.trans (congrArg Value.bool b68)) (op_gtr (k := .i64) (a := (l[i]'(by omega)).T) (b := 1099511627776) f21 rfl (kS hj398 rfl))
      · rintro ρ399 w400 hj401 ⟨f16, f22, _⟩
        have hst := hj401.2
        exact go_plain (op_pick_f (.bool (decide (1099511627776 < ((l[i]'(by omega)).T)))) (f16.trans (congrArg Value.bool b68)) f22 (kS hj401 rfl))
      · rintro ρ402 w403 hj404 ⟨f23, _⟩
        have hst := hj404.2
        exact go_plain (op_move (.bool (decide (1099511627776 < ((l[i]'(by omega)).T)))) f23 (kS hj404 rfl))
      · rintro ρ405 w406 hj407 ⟨f3, f24, _⟩
        have hst := hj407.2
        exact go_yes 24 rfl (f24.trans (congrArg Value.bool b189)) (op_move (.int .i64 (i : Int)) (f3.trans q59_3) (kS hj407 rfl))
      · rintro ρ408 w409 hj410 ⟨f25, f24, _⟩
        have hst := hj410.2
        exact go_yes 24 rfl (f24.trans (congrArg Value.bool b189)) (op_gtr (k := .i64) (a := (i : Int)) (b := 0) f25 rfl (kS hj410 rfl))
      · rintro ρ411 w412 hj413 ⟨f26, f24, _⟩
        have hst := hj413.2
        exact go_yes 24 rfl (f24.trans (congrArg Value.bool b189)) (op_move (.bool (decide (0 < (i : Int)))) f26 (kS hj413 rfl))
      · rintro ρ414 w415 hj416 ⟨f0, f27, _⟩
        have hst := hj416.2
        exact go_yes 27 rfl (f27.trans (congrArg Value.bool b324)) (op_move v_l (f0.trans q59_0) (kS hj416 rfl))
      · rintro ρ417 w418 hj419 ⟨f3, f27, _⟩
        have hst := hj419.2
        exact go_yes 27 rfl (f27.trans (congrArg Value.bool b324)) (op_move (.int .i64 (i : Int)) (f3.trans q59_3) (kS hj419 rfl))
      · rintro ρ420 w421 hj422 ⟨f28, f29, f27, _⟩
        have hst := hj422.2
        refine go_yes 27 rfl (f27.trans (congrArg Value.bool b324)) (op_indexAddrN (E := sampE) (xs := l) i Try.underlying22 Try.sizeOf48 f28 h_l f29 (by omega) (by omega) (fun a423 o424 p425 => ?_))
        exact kS hj422 ⟨_, _, rfl, (p425.below hst.below)⟩
      · rintro ρ426 w427 hj428 ⟨f30, f27, _⟩
        have hst := hj428.2
        obtain ⟨a429, o430, e431, p432⟩ := f30
        exact go_yes 27 rfl (f27.trans (congrArg Value.bool b324)) (op_fieldAddr (s := 0) Try.underlying48 rfl rfl Try.sizeOf2 e431 (kS hj428 ⟨_, _, rfl, p432⟩))
      · rintro ρ433 w434 hj435 ⟨f31, f27, _⟩
        have hst := hj435.2
        obtain ⟨a436, o437, e438, p439⟩ := f31
        exact go_yes 27 rfl (f27.trans (congrArg Value.bool b324)) (op_load1 (u := (.int .i64 ((l[i]'(by omega)).T))) Try.isAgg2 e438 p439 (kS hj435 rfl))
      · rintro ρ440 w441 hj442 ⟨f0, f27, _⟩
        have hst := hj442.2
        exact go_yes 27 rfl (f27.trans (congrArg Value.bool b324)) (op_move v_l (f0.trans q59_0) (kS hj442 rfl))
      · rintro ρ443 w444 hj445 ⟨f3, f27, _⟩
        have hst := hj445.2
        exact go_yes 27 rfl (f27.trans (congrArg Value.bool b324)) (op_move (.int .i64 (i : Int)) (f3.trans q59_3) (kS hj445 rfl))
      · rintro ρ446 w447 hj448 ⟨f34, f27, _⟩
        have hst := hj448.2
        exact go_yes 27 rfl (f27.trans (congrArg Value.bool b324)) (op_sub (k := .i64) (a := (i : Int)) (b := 1) ((i : Int) - 1) f34 rfl (xi64 (by omega) (by omega)) (kS hj448 rfl))
      · rintro ρ449 w450 hj451 ⟨f33, f35, f27, _⟩
        have hst := hj451.2
        refine go_yes 27 rfl (f27.trans (congrArg Value.bool b324)) (op_indexAddrN (E := sampE) (xs := l) (i - 1) Try.underlying22 Try.sizeOf48 f33 h_l f35 (by omega) (by omega) (fun a452 o453 p454 => ?_))
        exact kS hj451 ⟨_, _, rfl, (p454.below hst.below)⟩
      · rintro ρ455 w456 hj457 ⟨f36, f27, _⟩
        have hst := hj457.2
        obtain ⟨a458, o459, e460, p461⟩ := f36
        exact go_yes 27 rfl (f27.trans (congrArg Value.bool b324)) (op_fieldAddr (s := 0) Try.underlying48 rfl rfl Try.sizeOf2 e460 (kS hj457 ⟨_, _, rfl, p461⟩))
      · rintro ρ462 w463 hj464 ⟨f37, f27, _⟩
        have hst := hj464.2
        obtain ⟨a465, o466, e467, p468⟩ := f37
        exact go_yes 27 rfl (f27.trans (congrArg Value.bool b324)) (op_load1 (u := (.int .i64 ((l[(i - 1)]'(by omega)).T))) Try.isAgg2 e467 p468 (kS hj464 rfl))
      · rintro ρ469 w470 hj471 ⟨f32, f38, f27, _⟩
        have hst := hj471.2
        exact go_yes 27 rfl (f27.trans (congrArg Value.bool b324)) (op_leq (k := .i64) (a := (l[i]'(by omega)).T) (b := (l[(i - 1)]'(by omega)).T) f32 f38 (kS hj471 rfl))
      · rintro ρ472 w473 hj474 ⟨f27, f39, f24, _⟩
        have hst := hj474.2
        exact go_yes 24 rfl (f24.trans (congrArg Value.bool b189)) (op_pick_t (.bool (decide (((l[i]'(by omega)).T) ≤ ((l[(i - 1)]'(by omega)).T)))) (f27.trans (congrArg Value.bool b324)) f39 (kS hj474 rfl))
      · rintro ρ475 w476 hj477 ⟨f24, f40, _⟩
        have hst := hj477.2
        exact go_plain (op_pick_f (.bool (decide (((l[i]'(by omega)).T) ≤ ((l[(i - 1)]'(by omega)).T)))) (f24.trans (congrArg Value.bool b189)) f40 (kS hj477 rfl))
      intro ρ478 w479 hbw479 hst hRw479 hkw479
      have uw479_0 : ρ478 0 = v_l := (hkw479 0 rfl).trans q59_0
      have uw479_3 : ρ478 3 = (.int .i64 (i : Int)) := (hkw479 3 rfl).trans q59_3
      have uw479_4 : ρ478 4 = (.int .i64 (i : Int)) := (hkw479 4 rfl).trans rfl
      have uw479_5 : ρ478 5 = v_l := (hkw479 5 rfl).trans rfl
      have uw479_6 : ρ478 6 = (.int .i64 (l.length : Int)) := (hkw479 6 rfl).trans rfl
      have uw479_7 : ρ478 7 = (.bool (decide ((i : Int) < (l.length : Int)))) := (hkw479 7 rfl).trans rfl
      have uw479_41 : ρ478 41 = (.bool (decide (((l[i]'(by omega)).T) ≤ ((l[(i - 1)]'(by omega)).T)))) := hRw479 31 41 rfl
      refine then_n ?_
      rcases Bool.eq_false_or_eq_true (decide (((l[i]'(by omega)).T) ≤ ((l[(i - 1)]'(by omega)).T))) with b480 | b480
      · have c481 : ((l[i]'(by omega)).T) ≤ ((l[(i - 1)]'(by omega)).T) := of_decide_eq_true b480
        refine cE_cond true (uw479_41.trans (congrArg Value.bool b480)) (fun _ => ?_) (fun h => by cases h)
        refine cE_seq ?_
        refine cE_region rfl ?_
        refine s_cons (op_assign (.bool false) rfl ?_)
        refine s_nil ?_
        refine then_n ?_
        refine cE_ret ?_
        refine block_r (then_r (then_r (block_r (then_r ?_))))
        refine post_r _ (res1 (v := (.bool false)) rfl) ?_
        exact ⟨(retv1 (congrArg Value.bool (show false = (risingA l) from by first | exact (hI.trans (rr_no (by omega) (by first | (left; omega) | (right; left; omega) | (right; right; exact ⟨by omega, (by rw [lastT_pred (by omega) (by omega)]; assumption)⟩)) hlt)).symm | exact (hI.trans (rises_end (by omega))).symm))), hst.bare⟩
      have c482 : ¬ (((l[i]'(by omega)).T) ≤ ((l[(i - 1)]'(by omega)).T)) := of_decide_eq_false b480
      refine cE_cond false (uw479_41.trans (congrArg Value.bool b480)) (fun h => by cases h) (fun _ => ?_)
      refine cE_skip ?_
      refine block_n (then_n ?_)
      refine cE_region rfl ?_
      refine s_cons (op_move (.int .i64 (i : Int)) uw479_3 ?_)
      refine s_cons (op_add (k := .i64) (a := (i : Int)) (b := 1) ((i : Int) + 1) rfl rfl (xi64 (by omega) (by omega)) ?_)
      refine s_cons (op_assign (.int .i64 ((i : Int) + 1)) rfl ?_)
      refine s_nil ?_
      refine then_n ?_
      exact ⟨_, ⟨(i + 1), rfl, uw479_0, (congrArg (Value.int .i64) (show ((i : Int) + 1) = _ from by omega)), hst, (by omega), (by first | exact (by decide : (-1 : Int) ≤ -1) | (rw [lastT_succ (by omega)]; omega)), (by first | rfl | exact hI.trans (rr_go (by omega) (by omega) (by omega) (by first | (left; omega) | (right; rw [lastT_pred (by omega) (by omega)]; assumption))))⟩, (by simp only [id]; omega)⟩
    have c483 : ¬ (0 < (i : Int)) := of_decide_eq_false b324
    refine cE_regionL hst [[(0, none)], [(3, none)], [(10, some 0), (11, some 1)], [(12, some 2)], [(13, some 3)], [(14, some 4)], [(15, some 5)], [(0, none), (16, some 6)], [(3, none), (16, some 6)], [(17, some 7), (18, some 8), (16, some 6)], [(19, some 9), (16, some 6)], [(20, some 10), (16, some 6)], [(21, some 11), (16, some 6)], [(16, some 6), (22, some 12)], [(23, some 13)], [(3, none), (24, some 14)], [(25, some 15), (24, some 14)], [(26, some 16), (24, some 14)], [(0, none), (27, some 17)], [(3, none), (27, some 17)], [(28, some 18), (29, some 19), (27, some 17)], [(30, some 20), (27, some 17)], [(31, some 21), (27, some 17)], [(0, none), (27, some 17)], [(3, none), (27, some 17)], [(34, some 24), (27, some 17)], [(33, some 23), (35, some 25), (27, some 17)], [(36, some 26), (27, some 17)], [(37, some 27), (27, some 17)], [(32, some 22), (38, some 28), (27, some 17)], [(27, some 17), (39, some 29), (24, some 14)], [(24, some 14), (40, some 30)]] [(rEq v_l), (rEq (.int .i64 (i : Int))), (rPt [(.int .i64 ((l[i]'(by omega)).T)), (.int .i64 ((l[i]'(by omega)).V))]), (rPt [(.int .i64 ((l[i]'(by omega)).T)), (.int .i64 ((l[i]'(by omega)).V))]), (rEq (.int .i64 ((l[i]'(by omega)).T))), (rEq (.bool (decide (((l[i]'(by omega)).T) < 0)))), (rEq (.bool (decide (((l[i]'(by omega)).T) < 0)))), (rEq v_l), (rEq (.int .i64 (i : Int))), (rPt [(.int .i64 ((l[i]'(by omega)).T)), (.int .i64 ((l[i]'(by omega)).V))]), (rPt [(.int .i64 ((l[i]'(by omega)).T)), (.int .i64 ((l[i]'(by omega)).V))]), (rEq (.int .i64 ((l[i]'(by omega)).T))), (rEq (.bool (decide (1099511627776 < ((l[i]'(by omega)).T))))), (rEq (.bool (decide (1099511627776 < ((l[i]'(by omega)).T))))), (rEq (.bool (decide (1099511627776 < ((l[i]'(by omega)).T))))), (rEq (.int .i64 (i : Int))), (rEq (.bool (decide (0 < (i : Int))))), (rEq (.bool (decide (0 < (i : Int))))), (rEq undef), (rEq undef), (rEq undef), (rEq undef), (rEq undef), (rEq undef), (rEq undef), (rEq undef), (rEq undef), (rEq undef), (rEq undef), (rEq undef), (rEq (.bool false)), (rEq (.bool false))] (by kernel_rfl) rfl (by kernel_rfl) ⟨sEq, sEq, sPt, sPt, sEq, sEq, sEq, sEq, sEq, sPt, sPt, sEq, sEq, sEq, sEq, sEq, sEq, sEq, sEq, sEq, sEq, sEq, sEq, sEq, sEq, sEq, sEq, sEq, sEq, sEq, sEq, sEq, trivial⟩ ⟨?_, ?_, ?_, ?_, ?_, ?_, ?_, ?_, ?_, ?_, ?_, ?_, ?_, ?_, ?_, ?_, ?_, ?_, ?_, ?_, ?_, ?_, ?_, ?_, ?_, ?_, ?_, ?_, ?_, ?_, ?_, ?_, trivial⟩ ?_
    · rintro ρ490 w491 hj492 ⟨f0, _⟩
      have hst := hj492.2
      exact go_plain (op_move v_l (f0.trans q59_0) (kS hj492 rfl))
    · rintro ρ493 w494 hj495 ⟨f3, _⟩
      have hst := hj495.2
      exact go_plain (op_move (.int .i64 (i : Int)) (f3.trans q59_3) (kS hj495 rfl))
    · rintro ρ496 w497 hj498 ⟨f10, f11, _⟩
      have hst := hj498.2
      refine go_plain (op_indexAddrN (E := sampE) (xs := l) i Try.underlying22 Try.sizeOf48 f10 h_l f11 (by omega) (by omega) (fun a499 o500 p501 => ?_))
      exact kS hj498 ⟨_, _, rfl, (p501.below hst.below)⟩
    · rintro ρ502 w503 hj504 ⟨f12, _⟩
      have hst := hj504.2
      obtain ⟨a505, o506, e507, p508⟩ := f12
      exact go_plain (op_fieldAddr (s := 0) Try.underlying48 rfl rfl Try.sizeOf2 e507 (kS hj504 ⟨_, _, rfl, p508⟩))
    · rintro ρ509 w510 hj511 ⟨f13, _⟩
      have hst := hj511.2
      obtain ⟨a512, o513, e514, p515⟩ := f13
      exact go_plain (op_load1 (u := (.int .i64 ((l[i]'(by omega)).T))) Try.isAgg2 e514 p515 (kS hj511 rfl))
    · rintro ρ516 w517 hj518 ⟨f14, _⟩
      have hst := hj518.2
      exact go_plain (op_lss (k := .i64) (a := (l[i]'(by omega)).T) (b := 0) f14 rfl (kS hj518 rfl))
    · rintro ρ519 w520 hj521 ⟨f15, _⟩
      have hst := hj521.2
      exact go_plain (op_move (.bool (decide (((l[i]'(by omega)).T) < 0))) f15 (kS hj521 rfl))
    · rintro ρ522 w523 hj524 ⟨f0, f16, _⟩
      have hst := hj524.2
      exact go_yes 16 rfl (f16.trans (congrArg Value.bool b68)) (op_move v_l (f0.trans q59_0) (kS hj524 rfl))
    · rintro ρ525 w526 hj527 ⟨f3, f16, _⟩
      have hst := hj527.2
      exact go_yes 16 rfl (f16.trans (congrArg Value.bool b68)) (op_move (.int .i64 (i : Int)) (f3.trans q59_3) (kS hj527 rfl))
    · rintro ρ528 w529 hj530 ⟨f17, f18, f16, _⟩
      have hst := hj530.2
      refine go_yes 16 rfl (f16.trans (congrArg Value.bool b68)) (op_indexAddrN (E := sampE) (xs := l) i Try.underlying22 Try.sizeOf48 f17 h_l f18 (by omega) (by omega) (fun a531 o532 p533 => ?_))
      exact kS hj530 ⟨_, _, rfl, (p533.below hst.below)⟩
    · rintro ρ534 w535 hj536 ⟨f19, f16, _⟩
      have hst := hj536.2
      obtain ⟨a537, o538, e539, p540⟩ := f19
      exact go_yes 16 rfl (f16.trans (congrArg Value.bool b68)) (op_fieldAddr (s := 0) Try.underlying48 rfl rfl Try.sizeOf2 e539 (kS hj536 ⟨_, _, rfl, p540⟩))
    · rintro ρ541 w542 hj543 ⟨f20, f16, _⟩
      have hst := hj543.2
      obtain ⟨a544, o545, e546, p547⟩ := f20
      exact go_yes 16 rfl (f16.trans (congrArg Value.bool b68)) (op_load1 (u := (.int .i64 ((l[i]'(by omega)).T))) Try.isAgg2 e546 p547 (kS hj543 rfl))
    · rintro ρ548 w549 hj550 ⟨f21, f16, _⟩
      have hst := hj550.2
      exact go_yes 16 rfl (f16.trans (congrArg Value.bool b68)) (op_gtr (k := .i64) (a := (l[i]'(by omega)).T) (b := 1099511627776) f21 rfl (kS hj550 rfl))
    · rintro ρ551 w552 hj553 ⟨f16, f22, _⟩
      have hst := hj553.2
      exact go_plain (op_pick_f (.bool (decide (1099511627776 < ((l[i]'(by omega)).T)))) (f16.trans (congrArg Value.bool b68)) f22 (kS hj553 rfl))
    · rintro ρ554 w555 hj556 ⟨f23, _⟩
      have hst := hj556.2
      exact go_plain (op_move (.bool (decide (1099511627776 < ((l[i]'(by omega)).T)))) f23 (kS hj556 rfl))
    · rintro ρ557 w558 hj559 ⟨f3, f24, _⟩
      have hst := hj559.2
      exact go_yes 24 rfl (f24.trans (congrArg Value.bool b189)) (op_move (.int .i64 (i : Int)) (f3.trans q59_3) (kS hj559 rfl))
    · rintro ρ560 w561 hj562 ⟨f25, f24, _⟩
      have hst := hj562.2
      exact go_yes 24 rfl (f24.trans (congrArg Value.bool b189)) (op_gtr (k := .i64) (a := (i : Int)) (b := 0) f25 rfl (kS hj562 rfl))
    · rintro ρ563 w564 hj565 ⟨f26, f24, _⟩
      have hst := hj565.2
      exact go_yes 24 rfl (f24.trans (congrArg Value.bool b189)) (op_move (.bool (decide (0 < (i : Int)))) f26 (kS hj565 rfl))
    · rintro ρ566 w567 hj568 ⟨f0, f27, _⟩
      have hst := hj568.2
      exact go_no 27 rfl (f27.trans (congrArg Value.bool b324)) (kS hj568 rfl)
    · rintro ρ569 w570 hj571 ⟨f3, f27, _⟩
      have hst := hj571.2
      exact go_no 27 rfl (f27.trans (congrArg Value.bool b324)) (kS hj571 rfl)
    · rintro ρ572 w573 hj574 ⟨f28, f29, f27, _⟩
      have hst := hj574.2
      exact go_no 27 rfl (f27.trans (congrArg Value.bool b324)) (kS hj574 rfl)
    · rintro ρ575 w576 hj577 ⟨f30, f27, _⟩
      have hst := hj577.2
      exact go_no 27 rfl (f27.trans (congrArg Value.bool b324)) (kS hj577 rfl)
    · rintro ρ578 w579 hj580 ⟨f31, f27, _⟩
      have hst := hj580.2
      exact go_no 27 rfl (f27.trans (congrArg Value.bool b324)) (kS hj580 rfl)
    · rintro ρ581 w582 hj583 ⟨f0, f27, _⟩
      have hst := hj583.2
      exact go_no 27 rfl (f27.trans (congrArg Value.bool b324)) (kS hj583 rfl)
    · rintro ρ584 w585 hj586 ⟨f3, f27, _⟩
      have hst := hj586.2
      exact go_no 27 rfl (f27.trans (congrArg Value.bool b324)) (kS hj586 rfl)
    · rintro ρ587 w588 hj589 ⟨f34, f27, _⟩
      have hst := hj589.2
      exact go_no 27 rfl (f27.trans (congrArg Value.bool b324)) (kS hj589 rfl)
    · rintro ρ590 w591 hj592 ⟨f33, f35, f27, _⟩
      have hst := hj592.2
      exact go_no 27 rfl (f27.trans (congrArg Value.bool b324)) (kS hj592 rfl)
    · rintro ρ593 w594 hj595 ⟨f36, f27, _⟩
      have hst := hj595.2
      exact go_no 27 rfl (f27.trans (congrArg Value.bool b324)) (kS hj595 rfl)
    · rintro ρ596 w597 hj598 ⟨f37, f27, _⟩
      have hst := hj598.2
      exact go_no 27 rfl (f27.trans (congrArg Value.bool b324)) (kS hj598 rfl)
    · rintro ρ599 w600 hj601 ⟨f32, f38, f27, _⟩
      have hst := hj601.2
      exact go_no 27 rfl (f27.trans (congrArg Value.bool b324)) (kS hj601 rfl)
    · rintro ρ602 w603 hj604 ⟨f27, f39, f24, _⟩
      have hst := hj604.2
      exact go_yes 24 rfl (f24.trans (congrArg Value.bool b189)) (op_pick_f (.bool false) (f27.trans (congrArg Value.bool b324)) rfl (kS hj604 rfl))
    · rintro ρ605 w606 hj607 ⟨f24, f40, _⟩
      have hst := hj607.2
      exact go_plain (op_pick_f (.bool false) (f24.trans (congrArg Value.bool b189)) f40 (kS hj607 rfl))
    intro ρ608 w609 hbw609 hst hRw609 hkw609
    have uw609_0 : ρ608 0 = v_l := (hkw609 0 rfl).trans q59_0
    have uw609_3 : ρ608 3 = (.int .i64 (i : Int)) := (hkw609 3 rfl).trans q59_3
    have uw609_4 : ρ608 4 = (.int .i64 (i : Int)) := (hkw609 4 rfl).trans rfl
    have uw609_5 : ρ608 5 = v_l := (hkw609 5 rfl).trans rfl
    have uw609_6 : ρ608 6 = (.int .i64 (l.length : Int)) := (hkw609 6 rfl).trans rfl
    have uw609_7 : ρ608 7 = (.bool (decide ((i : Int) < (l.length : Int)))) := (hkw609 7 rfl).trans rfl
    have uw609_41 : ρ608 41 = (.bool false) := hRw609 31 41 rfl
    refine then_n ?_
    refine cE_cond false uw609_41 (fun h => by cases h) (fun _ => ?_)
    refine cE_skip ?_
    refine block_n (then_n ?_)
    refine cE_region rfl ?_
    refine s_cons (op_move (.int .i64 (i : Int)) uw609_3 ?_)
    refine s_cons (op_add (k := .i64) (a := (i : Int)) (b := 1) ((i : Int) + 1) rfl rfl (xi64 (by omega) (by omega)) ?_)
    refine s_cons (op_assign (.int .i64 ((i : Int) + 1)) rfl ?_)
    refine s_nil ?_
    refine then_n ?_
    exact ⟨_, ⟨(i + 1), rfl, uw609_0, (congrArg (Value.int .i64) (show ((i : Int) + 1) = _ from by omega)), hst, (by omega), (by first | exact (by decide : (-1 : Int) ≤ -1) | (rw [lastT_succ (by omega)]; omega)), (by first | rfl | exact hI.trans (rr_go (by omega) (by omega) (by omega) (by first | (left; omega) | (right; rw [lastT_pred (by omega) (by omega)]; assumption))))⟩, (by simp only [id]; omega)⟩
  have c610 : ¬ ((i : Int) < (l.length : Int)) := of_decide_eq_false b63
  refine cE_cond false (congrArg Value.bool b63) (fun h => by cases h) (fun _ => ?_)
  refine cE_exit ?_
  refine then_x (then_x (block_hit (then_n ?_)))
  refine cE_seq ?_
  refine cE_region rfl ?_
  refine s_cons (op_assign (.bool true) rfl ?_)
  refine s_nil ?_
  refine then_n ?_
  refine cE_ret ?_
  refine post_r _ (res1 (v := (.bool true)) rfl) ?_
  exact ⟨(retv1 (congrArg Value.bool (show true = (risingA l) from by first | exact (hI.trans (rr_no (by omega) (by first | (left; omega) | (right; left; omega) | (right; right; exact ⟨by omega, (by rw [lastT_pred (by omega) (by omega)]; assumption)⟩)) hlt)).symm | exact (hI.trans (rises_end (by omega))).symm))), hst.bare⟩

theorem c_rAligned (w0 : World) (v_l : Value) (l : List Agg) (h_l : Sl w0 aggE v_l l) (k : Int) (hl : ∀ a ∈ l, a.ok) (k0 : -9223372036854775808 ≤ k) (k1 : k ≤ 9223372036854775807) :
    Calls Try.prog 35 #[v_l, (.int .i64 k)] w0 fun e w' => e = .returned (.bool (alignedA l k)) ∧ St w0 w' [] := by
  refine calls_E (n := 57) (ts := [4]) Try.func35 rfl rfl rfl (by simp) ?_
  have hst := St.start w0
  refine cE_seq ?_
  refine cE_region rfl ?_
  refine s_cons (op_assign (.bool false) rfl ?_)
  refine s_nil ?_
  refine then_n ?_
  refine cE_seq ?_
  refine cE_seq ?_
  refine cE_region rfl ?_
  refine s_cons (op_move (.int .i64 k) rfl ?_)
  refine s_cons (op_lss (k := .i64) (a := k) (b := 1) rfl rfl ?_)
  refine s_cons (op_move (.bool (decide (k < 1))) rfl ?_)
  rcases Bool.eq_false_or_eq_true (decide (k < 1)) with b611 | b611
  · have c612 : k < 1 := of_decide_eq_true b611
    refine s_no 8 rfl (congrArg Value.bool b611) ?_
    refine s_no 8 rfl (congrArg Value.bool b611) ?_
    refine s_cons (op_pick_t (.bool true) (congrArg Value.bool b611) rfl ?_)
    refine s_nil ?_
    refine then_n ?_
    refine cE_cond true rfl (fun _ => ?_) (fun h => by cases h)
    refine cE_seq ?_
    refine cE_region rfl ?_
    refine s_cons (op_assign (.bool false) rfl ?_)
    refine s_nil ?_
    refine then_n ?_
    refine cE_ret ?_
    refine then_r ?_
    refine post_r _ (res1 (v := (.bool false)) rfl) ?_
    exact ⟨(retv1 (congrArg Value.bool (show false = (alignedA l k) from by first | (unfold alignedA; rw [coarse_no (by omega)]; rfl) | exact (hI.trans (ra_no (by omega) (Or.inl (by assumption)))).symm | exact (hI.trans (ra_no (by omega) (Or.inr (Or.inl (by assumption))))).symm | exact (hI.trans (ra_no (by omega) (Or.inr (Or.inr (by rw [lastF_pred (by omega) (by omega)]; assumption))))).symm | exact (hI.trans (aligns_end (by omega))).symm))), hst.bare⟩
  have c613 : ¬ (k < 1) := of_decide_eq_false b611
  refine s_yes 8 rfl (congrArg Value.bool b611) (op_move (.int .i64 k) rfl ?_)
  refine s_yes 8 rfl (congrArg Value.bool b611) (op_gtr (k := .i64) (a := k) (b := 3) rfl rfl ?_)
  refine s_cons (op_pick_f (.bool (decide (3 < k))) (congrArg Value.bool b611) rfl ?_)
  refine s_nil ?_
  refine then_n ?_
  rcases Bool.eq_false_or_eq_true (decide (3 < k)) with b614 | b614
  · have c615 : 3 < k := of_decide_eq_true b614
    refine cE_cond true (congrArg Value.bool b614) (fun _ => ?_) (fun h => by cases h)
    refine cE_seq ?_
    refine cE_region rfl ?_
    refine s_cons (op_assign (.bool false) rfl ?_)
    refine s_nil ?_
    refine then_n ?_
    refine cE_ret ?_
    refine then_r ?_
    refine post_r _ (res1 (v := (.bool false)) rfl) ?_
    exact ⟨(retv1 (congrArg Value.bool (show false = (alignedA l k) from by first | (unfold alignedA; rw [coarse_no (by omega)]; rfl) | exact (hI.trans (ra_no (by omega) (Or.inl (by assumption)))).symm | exact (hI.trans (ra_no (by omega) (Or.inr (Or.inl (by assumption))))).symm | exact (hI.trans (ra_no (by omega) (Or.inr (Or.inr (by rw [lastF_pred (by omega) (by omega)]; assumption))))).symm | exact (hI.trans (aligns_end (by omega))).symm))), hst.bare⟩
  have c616 : ¬ (3 < k) := of_decide_eq_false b614
  refine cE_cond false (congrArg Value.bool b614) (fun h => by cases h) (fun _ => ?_)
  refine cE_skip ?_
  refine then_n ?_
  refine cE_seq ?_
  refine cE_seq ?_
  refine cE_region rfl ?_
  refine s_cons (op_assign (.int .i64 0) rfl ?_)
  refine s_nil ?_
  refine then_n ?_
  refine cE_block ?_
  refine cE_loop (fun (m : Nat) (ρ : Env) (w : World) => ∃ (i : Nat), m = l.length - i ∧ ρ 0 = v_l ∧ ρ 1 = (.int .i64 k) ∧ ρ 5 = (.int .i64 (i : Int)) ∧ St w0 w [] ∧ (i ≤ l.length) ∧ (alignedA l k = alignsFrom k (lastF l i) (l.drop i))) id _ ⟨0, rfl, rfl, rfl, (congrArg (Value.int .i64) (show 0 = _ from by omega)), hst, (by omega), (by first | (unfold alignedA; rw [coarse_yes (by omega) (by omega)]; rfl) | exact hI.trans (ra_go (by omega) (by assumption) (by assumption) (by first | (left; omega) | (right; rw [lastF_pred (by omega) (by omega)]; assumption))))⟩ ?_
  rintro m618 ρ619 w620 ⟨i, hm618, q617_0, q617_1, q617_5, hst, hi, hI⟩
  have hlen := h_l.len
  have hco := coarse_yes (k := k) (by omega) (by omega)
  refine cE_seq ?_
  refine cE_seq ?_
  refine cE_region rfl ?_
  refine s_cons (op_move (.int .i64 (i : Int)) q617_5 ?_)
  refine s_cons (op_move v_l q617_0 ?_)
  refine s_cons (op_len (E := aggE) (xs := l) Try.underlying23 rfl h_l ?_)
  refine s_cons (op_lss (k := .i64) (a := (i : Int)) (b := (l.length : Int)) rfl rfl ?_)
  refine s_nil ?_
  refine then_n ?_
  rcases Bool.eq_false_or_eq_true (decide ((i : Int) < (l.length : Int))) with b621 | b621
  · have c622 : (i : Int) < (l.length : Int) := of_decide_eq_true b621
    refine cE_cond true (congrArg Value.bool b621) (fun _ => ?_) (fun h => by cases h)
    refine cE_skip ?_
    refine then_n ?_
    refine cE_seq ?_
    refine cE_block ?_
    refine cE_seq ?_
    rcases Bool.eq_false_or_eq_true (mayA (l[i]'(by omega))) with b627 | b627
    · rcases Bool.eq_false_or_eq_true (decide ((floorA ((l[i]'(by omega)).From) k) = ((l[i]'(by omega)).From))) with b639 | b639
      · have c640 : (floorA ((l[i]'(by omega)).From) k) = ((l[i]'(by omega)).From) := of_decide_eq_true b639
        rcases Bool.eq_false_or_eq_true (decide (0 < (i : Int))) with b652 | b652
        · have c653 : 0 < (i : Int) := of_decide_eq_true b652
          refine cE_regionL hst [[(0, none)], [(5, none)], [(18, some 0), (19, some 1)], [(20, some 2)], [(21, some 3)], [(22, some 4)], [(23, some 5)], [(0, none), (24, some 6)], [(5, none), (24, some 6)], [(25, some 7), (26, some 8), (24, some 6)], [(27, some 9), (24, some 6)], [(28, some 10), (24, some 6)], [(1, none), (24, some 6)], [(29, some 11), (30, some 12), (24, some 6)], [(0, none), (24, some 6)], [(5, none), (24, some 6)], [(32, some 14), (33, some 15), (24, some 6)], [(34, some 16), (24, some 6)], [(35, some 17), (24, some 6)], [(31, some 13), (36, some 18), (24, some 6)], [(24, some 6), (37, some 19)], [(38, some 20)], [(5, none), (39, some 21)], [(40, some 22), (39, some 21)], [(41, some 23), (39, some 21)], [(0, none), (42, some 24)], [(5, none), (42, some 24)], [(43, some 25), (44, some 26), (42, some 24)], [(45, some 27), (42, some 24)], [(46, some 28), (42, some 24)], [(0, none), (42, some 24)], [(5, none), (42, some 24)], [(49, some 31), (42, some 24)], [(48, some 30), (50, some 32), (42, some 24)], [(51, some 33), (42, some 24)], [(52, some 34), (42, some 24)], [(47, some 29), (53, some 35), (42, some 24)], [(42, some 24), (54, some 36), (39, some 21)], [(39, some 21), (55, some 37)]] [(rEq v_l), (rEq (.int .i64 (i : Int))), (rPt [(.int .i64 ((l[i]'(by omega)).From)), (.int .i64 ((l[i]'(by omega)).Count)), (.int .i64 ((l[i]'(by omega)).Sum)), (.int .i64 ((l[i]'(by omega)).Min)), (.int .i64 ((l[i]'(by omega)).Max)), (.int .i64 ((l[i]'(by omega)).First)), (.int .i64 ((l[i]'(by omega)).Last))]), (rEq (.agg #[(.int .i64 ((l[i]'(by omega)).From)), (.int .i64 ((l[i]'(by omega)).Count)), (.int .i64 ((l[i]'(by omega)).Sum)), (.int .i64 ((l[i]'(by omega)).Min)), (.int .i64 ((l[i]'(by omega)).Max)), (.int .i64 ((l[i]'(by omega)).First)), (.int .i64 ((l[i]'(by omega)).Last))])), (rEq (.bool (mayA (l[i]'(by omega))))), (rEq (.bool (!(mayA (l[i]'(by omega)))))), (rEq (.bool (!(mayA (l[i]'(by omega)))))), (rEq v_l), (rEq (.int .i64 (i : Int))), (rPt [(.int .i64 ((l[i]'(by omega)).From)), (.int .i64 ((l[i]'(by omega)).Count)), (.int .i64 ((l[i]'(by omega)).Sum)), (.int .i64 ((l[i]'(by omega)).Min)), (.int .i64 ((l[i]'(by omega)).Max)), (.int .i64 ((l[i]'(by omega)).First)), (.int .i64 ((l[i]'(by omega)).Last))]), (rPt [(.int .i64 ((l[i]'(by omega)).From)), (.int .i64 ((l[i]'(by omega)).Count)), (.int .i64 ((l[i]'(by omega)).Sum)), (.int .i64 ((l[i]'(by omega)).Min)), (.int .i64 ((l[i]'(by omega)).Max)), (.int .i64 ((l[i]'(by omega)).First)), (.int .i64 ((l[i]'(by omega)).Last))]), (rEq (.int .i64 ((l[i]'(by omega)).From))), (rEq (.int .i64 k)), (rEq (.int .i64 (floorA ((l[i]'(by omega)).From) k))), (rEq v_l), (rEq (.int .i64 (i : Int))), (rPt [(.int .i64 ((l[i]'(by omega)).From)), (.int .i64 ((l[i]'(by omega)).Count)), (.int .i64 ((l[i]'(by omega)).Sum)), (.int .i64 ((l[i]'(by omega)).Min)), (.int .i64 ((l[i]'(by omega)).Max)), (.int .i64 ((l[i]'(by omega)).First)), (.int .i64 ((l[i]'(by omega)).Last))]), (rPt [(.int .i64 ((l[i]'(by omega)).From)), (.int .i64 ((l[i]'(by omega)).Count)), (.int .i64 ((l[i]'(by omega)).Sum)), (.int .i64 ((l[i]'(by omega)).Min)), (.int .i64 ((l[i]'(by omega)).Max)), (.int .i64 ((l[i]'(by omega)).First)), (.int .i64 ((l[i]'(by omega)).Last))]), (rEq (.int .i64 ((l[i]'(by omega)).From))), (rEq (.bool (!decide ((floorA ((l[i]'(by omega)).From) k) = ((l[i]'(by omega)).From))))), (rEq (.bool (!decide ((floorA ((l[i]'(by omega)).From) k) = ((l[i]'(by omega)).From))))), (rEq (.bool (!decide ((floorA ((l[i]'(by omega)).From) k) = ((l[i]'(by omega)).From))))), (rEq (.int .i64 (i : Int))), (rEq (.bool (decide (0 < (i : Int))))), (rEq (.bool (decide (0 < (i : Int))))), (rEq v_l), (rEq (.int .i64 (i : Int))), (rPt [(.int .i64 ((l[i]'(by omega)).From)), (.int .i64 ((l[i]'(by omega)).Count)), (.int .i64 ((l[i]'(by omega)).Sum)), (.int .i64 ((l[i]'(by omega)).Min)), (.int .i64 ((l[i]'(by omega)).Max)), (.int .i64 ((l[i]'(by omega)).First)), (.int .i64 ((l[i]'(by omega)).Last))]), (rPt [(.int .i64 ((l[i]'(by omega)).From)), (.int .i64 ((l[i]'(by omega)).Count)), (.int .i64 ((l[i]'(by omega)).Sum)), (.int .i64 ((l[i]'(by omega)).Min)), (.int .i64 ((l[i]'(by omega)).Max)), (.int .i64 ((l[i]'(by omega)).First)), (.int .i64 ((l[i]'(by omega)).Last))]), (rEq (.int .i64 ((l[i]'(by omega)).From))), (rEq v_l), (rEq (.int .i64 (i : Int))), (rEq (.int .i64 ((i : Int) - 1))), (rPt [(.int .i64 ((l[(i - 1)]'(by omega)).From)), (.int .i64 ((l[(i - 1)]'(by omega)).Count)), (.int .i64 ((l[(i - 1)]'(by omega)).Sum)), (.int .i64 ((l[(i - 1)]'(by omega)).Min)), (.int .i64 ((l[(i - 1)]'(by omega)).Max)), (.int .i64 ((l[(i - 1)]'(by omega)).First)), (.int .i64 ((l[(i - 1)]'(by omega)).Last))]), (rPt [(.int .i64 ((l[(i - 1)]'(by omega)).From)), (.int .i64 ((l[(i - 1)]'(by omega)).Count)), (.int .i64 ((l[(i - 1)]'(by omega)).Sum)), (.int .i64 ((l[(i - 1)]'(by omega)).Min)), (.int .i64 ((l[(i - 1)]'(by omega)).Max)), (.int .i64 ((l[(i - 1)]'(by omega)).First)), (.int .i64 ((l[(i - 1)]'(by omega)).Last))]), (rEq (.int .i64 ((l[(i - 1)]'(by omega)).From))), (rEq (.bool (decide (((l[i]'(by omega)).From) ≤ ((l[(i - 1)]'(by omega)).From))))), (rEq (.bool (decide (((l[i]'(by omega)).From) ≤ ((l[(i - 1)]'(by omega)).From))))), (rEq (.bool (decide (((l[i]'(by omega)).From) ≤ ((l[(i - 1)]'(by omega)).From)))))] (by kernel_rfl) rfl (by kernel_rfl) ⟨sEq, sEq, sPt, sEq, sEq, sEq, sEq, sEq, sEq, sPt, sPt, sEq, sEq, sEq, sEq, sEq, sPt, sPt, sEq, sEq, sEq, sEq, sEq, sEq, sEq, sEq, sEq, sPt, sPt, sEq, sEq, sEq, sEq, sPt, sPt, sEq, sEq, sEq, sEq, trivial⟩ ⟨?_, ?_, ?_, ?_, ?_, ?_, ?_, ?_, ?_, ?_, ?_, ?_, ?_, ?_, ?_, ?_, ?_, ?_, ?_, ?_, ?_, ?_, ?_, ?_, ?_, ?_, ?_, ?_, ?_, ?_, ?_, ?_, ?_, ?_, ?_, ?_, ?_, ?_, ?_, trivial⟩ ?_
          · rintro ρ671 w672 hj673 ⟨f0, _⟩
            have hst := hj673.2
            exact go_plain (op_move v_l (f0.trans q617_0) (kS hj673 rfl))
          · rintro ρ674 w675 hj676 ⟨f5, _⟩
            have hst := hj676.2
            exact go_plain (op_move (.int .i64 (i : Int)) (f5.trans q617_5) (kS hj676 rfl))
          · rintro ρ677 w678 hj679 ⟨f18, f19, _⟩
            have hst := hj679.2
            refine go_plain (op_indexAddrN (E := aggE) (xs := l) i Try.underlying23 Try.sizeOf71 f18 h_l f19 (by omega) (by omega) (fun a680 o681 p682 => ?_))
            exact kS hj679 ⟨_, _, rfl, (p682.below hst.below)⟩
          · rintro ρ683 w684 hj685 ⟨f20, _⟩
            have hst := hj685.2
            obtain ⟨a686, o687, e688, p689⟩ := f20
            exact go_plain (op_loadN (cs := [(.int .i64 ((l[i]'(by omega)).From)), (.int .i64 ((l[i]'(by omega)).Count)), (.int .i64 ((l[i]'(by omega)).Sum)), (.int .i64 ((l[i]'(by omega)).Min)), (.int .i64 ((l[i]'(by omega)).Max)), (.int .i64 ((l[i]'(by omega)).First)), (.int .i64 ((l[i]'(by omega)).Last))]) Try.isAgg71 Try.sizeOf71 e688 (Pt.of p689 rfl) rfl (kS hj685 rfl))
          · rintro ρ690 w691 hj692 ⟨f21, _⟩
            have hst := hj692.2
            refine go_plain (op_call Try.call46 (evs_cons (v := (.agg #[(.int .i64 ((l[i]'(by omega)).From)), (.int .i64 ((l[i]'(by omega)).Count)), (.int .i64 ((l[i]'(by omega)).Sum)), (.int .i64 ((l[i]'(by omega)).Min)), (.int .i64 ((l[i]'(by omega)).Max)), (.int .i64 ((l[i]'(by omega)).First)), (.int .i64 ((l[i]'(by omega)).Last))])) f21 evs_nil) (c_rMay (w0 := w691) (a := (l[i]'(by omega)))) ?_)
            rintro _ w693 ⟨rfl, hcall⟩
            refine ⟨_, rfl, ?_⟩
            exact kD hj692 hcall rfl
          · rintro ρ694 w695 hj696 ⟨f22, _⟩
            have hst := hj696.2
            exact go_plain (op_not (b := mayA (l[i]'(by omega))) f22 (kS hj696 rfl))
          · rintro ρ697 w698 hj699 ⟨f23, _⟩
            have hst := hj699.2
            exact go_plain (op_move (.bool (!(mayA (l[i]'(by omega))))) f23 (kS hj699 rfl))
          · rintro ρ700 w701 hj702 ⟨f0, f24, _⟩
            have hst := hj702.2
            exact go_yes 24 rfl (f24.trans (congrArg Value.bool (congrArg (! ·) b627))) (op_move v_l (f0.trans q617_0) (kS hj702 rfl))
          · rintro ρ703 w704 hj705 ⟨f5, f24, _⟩
            have hst := hj705.2
            exact go_yes 24 rfl (f24.trans (congrArg Value.bool (congrArg (! ·) b627))) (op_move (.int .i64 (i : Int)) (f5.trans q617_5) (kS hj705 rfl))
          · rintro ρ706 w707 hj708 ⟨f25, f26, f24, _⟩
            have hst := hj708.2
            refine go_yes 24 rfl (f24.trans (congrArg Value.bool (congrArg (! ·) b627))) (op_indexAddrN (E := aggE) (xs := l) i Try.underlying23 Try.sizeOf71 f25 h_l f26 (by omega) (by omega) (fun a709 o710 p711 => ?_))
            exact kS hj708 ⟨_, _, rfl, (p711.below hst.below)⟩
          · rintro ρ712 w713 hj714 ⟨f27, f24, _⟩
            have hst := hj714.2
            obtain ⟨a715, o716, e717, p718⟩ := f27
            exact go_yes 24 rfl (f24.trans (congrArg Value.bool (congrArg (! ·) b627))) (op_fieldAddr (s := 0) Try.underlying71 rfl rfl Try.sizeOf2 e717 (kS hj714 ⟨_, _, rfl, p718⟩))
          · rintro ρ719 w720 hj721 ⟨f28, f24, _⟩
            have hst := hj721.2
            obtain ⟨a722, o723, e724, p725⟩ := f28
            exact go_yes 24 rfl (f24.trans (congrArg Value.bool (congrArg (! ·) b627))) (op_load1 (u := (.int .i64 ((l[i]'(by omega)).From))) Try.isAgg2 e724 p725 (kS hj721 rfl))
          · rintro ρ726 w727 hj728 ⟨f1, f24, _⟩
            have hst := hj728.2
            exact go_yes 24 rfl (f24.trans (congrArg Value.bool (congrArg (! ·) b627))) (op_move (.int .i64 k) (f1.trans q617_1) (kS hj728 rfl))
          · rintro ρ729 w730 hj731 ⟨f29, f30, f24, _⟩
            have hst := hj731.2
            refine go_yes 24 rfl (f24.trans (congrArg Value.bool (congrArg (! ·) b627))) (op_call Try.call38 (evs_cons (v := (.int .i64 ((l[i]'(by omega)).From))) f29 (evs_cons (v := (.int .i64 k)) f30 evs_nil)) (c_rFloor (w0 := w730) (t := (l[i]'(by omega)).From) (k := k) (t0 := (hl _ (List.getElem_mem _)).1.1) (k0 := (by omega)) (t1 := (hl _ (List.getElem_mem _)).1.2) (k1 := (by omega))) ?_)
            rintro _ w732 ⟨rfl, hcall⟩
            refine ⟨_, rfl, ?_⟩
            exact kD hj731 hcall rfl
          · rintro ρ733 w734 hj735 ⟨f0, f24, _⟩
            have hst := hj735.2
            exact go_yes 24 rfl (f24.trans (congrArg Value.bool (congrArg (! ·) b627))) (op_move v_l (f0.trans q617_0) (kS hj735 rfl))
          · rintro ρ736 w737 hj738 ⟨f5, f24, _⟩
            have hst := hj738.2
            exact go_yes 24 rfl (f24.trans (congrArg Value.bool (congrArg (! ·) b627))) (op_move (.int .i64 (i : Int)) (f5.trans q617_5) (kS hj738 rfl))
          · rintro ρ739 w740 hj741 ⟨f32, f33, f24, _⟩
            have hst := hj741.2
            refine go_yes 24 rfl (f24.trans (congrArg Value.bool (congrArg (! ·) b627))) (op_indexAddrN (E := aggE) (xs := l) i Try.underlying23 Try.sizeOf71 f32 h_l f33 (by omega) (by omega) (fun a742 o743 p744 => ?_))
            exact kS hj741 ⟨_, _, rfl, (p744.below hst.below)⟩
          · rintro ρ745 w746 hj747 ⟨f34, f24, _⟩
            have hst := hj747.2
            obtain ⟨a748, o749, e750, p751⟩ := f34
            exact go_yes 24 rfl (f24.trans (congrArg Value.bool (congrArg (! ·) b627))) (op_fieldAddr (s := 0) Try.underlying71 rfl rfl Try.sizeOf2 e750 (kS hj747 ⟨_, _, rfl, p751⟩))
          · rintro ρ752 w753 hj754 ⟨f35, f24, _⟩
            have hst := hj754.2
            obtain ⟨a755, o756, e757, p758⟩ := f35
            exact go_yes 24 rfl (f24.trans (congrArg Value.bool (congrArg (! ·) b627))) (op_load1 (u := (.int .i64 ((l[i]'(by omega)).From))) Try.isAgg2 e757 p758 (kS hj754 rfl))
          · rintro ρ759 w760 hj761 ⟨f31, f36, f24, _⟩
            have hst := hj761.2
            exact go_yes 24 rfl (f24.trans (congrArg Value.bool (congrArg (! ·) b627))) (op_neq (k := .i64) (a := (floorA ((l[i]'(by omega)).From) k)) (b := (l[i]'(by omega)).From) f31 f36 (kS hj761 rfl))
          · rintro ρ762 w763 hj764 ⟨f24, f37, _⟩
            have hst := hj764.2
            exact go_plain (op_pick_f (.bool (!decide ((floorA ((l[i]'(by omega)).From) k) = ((l[i]'(by omega)).From)))) (f24.trans (congrArg Value.bool (congrArg (! ·) b627))) f37 (kS hj764 rfl))
          · rintro ρ765 w766 hj767 ⟨f38, _⟩
            have hst := hj767.2
            exact go_plain (op_move (.bool (!decide ((floorA ((l[i]'(by omega)).From) k) = ((l[i]'(by omega)).From)))) f38 (kS hj767 rfl))
          · rintro ρ768 w769 hj770 ⟨f5, f39, _⟩
            have hst := hj770.2
            exact go_yes 39 rfl (f39.trans (congrArg Value.bool (congrArg (! ·) b639))) (op_move (.int .i64 (i : Int)) (f5.trans q617_5) (kS hj770 rfl))
          · rintro ρ771 w772 hj773 ⟨f40, f39, _⟩
            have hst := hj773.2
            exact go_yes 39 rfl (f39.trans (congrArg Value.bool (congrArg (! ·) b639))) (op_gtr (k := .i64) (a := (i : Int)) (b := 0) f40 rfl (kS hj773 rfl))
          · rintro ρ774 w775 hj776 ⟨f41, f39, _⟩
            have hst := hj776.2
            exact go_yes 39 rfl (f39.trans (congrArg Value.bool (congrArg (! ·) b639))) (op_move (.bool (decide (0 < (i : Int)))) f41 (kS hj776 rfl))
          · rintro ρ777 w778 hj779 ⟨f0, f42, _⟩
            have hst := hj779.2
            exact go_yes 42 rfl (f42.trans (congrArg Value.bool b652)) (op_move v_l (f0.trans q617_0) (kS hj779 rfl))
          · rintro ρ780 w781 hj782 ⟨f5, f42, _⟩
            have hst := hj782.2
            exact go_yes 42 rfl (f42.trans (congrArg Value.bool b652)) (op_move (.int .i64 (i : Int)) (f5.trans q617_5) (kS hj782 rfl))
          · rintro ρ783 w784 hj785 ⟨f43, f44, f42, _⟩
            have hst := hj785.2
            refine go_yes 42 rfl (f42.trans (congrArg Value.bool b652)) (op_indexAddrN (E := aggE) (xs := l) i Try.underlying23 Try.sizeOf71 f43 h_l f44 (by omega) (by omega) (fun a786 o787 p788 => ?_))
            exact kS hj785 ⟨_, _, rfl, (p788.below hst.below)⟩
          · rintro ρ789 w790 hj791 ⟨f45, f42, _⟩
            have hst := hj791.2
            obtain ⟨a792, o793, e794, p795⟩ := f45
            exact go_yes 42 rfl (f42.trans (congrArg Value.bool b652)) (op_fieldAddr (s := 0) Try.underlying71 rfl rfl Try.sizeOf2 e794 (kS hj791 ⟨_, _, rfl, p795⟩))
          · rintro ρ796 w797 hj798 ⟨f46, f42, _⟩
            have hst := hj798.2
            obtain ⟨a799, o800, e801, p802⟩ := f46
            exact go_yes 42 rfl (f42.trans (congrArg Value.bool b652)) (op_load1 (u := (.int .i64 ((l[i]'(by omega)).From))) Try.isAgg2 e801 p802 (kS hj798 rfl))
          · rintro ρ803 w804 hj805 ⟨f0, f42, _⟩
            have hst := hj805.2
            exact go_yes 42 rfl (f42.trans (congrArg Value.bool b652)) (op_move v_l (f0.trans q617_0) (kS hj805 rfl))
          · rintro ρ806 w807 hj808 ⟨f5, f42, _⟩
            have hst := hj808.2
            exact go_yes 42 rfl (f42.trans (congrArg Value.bool b652)) (op_move (.int .i64 (i : Int)) (f5.trans q617_5) (kS hj808 rfl))
          · rintro ρ809 w810 hj811 ⟨f49, f42, _⟩
            have hst := hj811.2
            exact go_yes 42 rfl (f42.trans (congrArg Value.bool b652)) (op_sub (k := .i64) (a := (i : Int)) (b := 1) ((i : Int) - 1) f49 rfl (xi64 (by omega) (by omega)) (kS hj811 rfl))
          · rintro ρ812 w813 hj814 ⟨f48, f50, f42, _⟩
            have hst := hj814.2
            refine go_yes 42 rfl (f42.trans (congrArg Value.bool b652)) (op_indexAddrN (E := aggE) (xs := l) (i - 1) Try.underlying23 Try.sizeOf71 f48 h_l f50 (by omega) (by omega) (fun a815 o816 p817 => ?_))
            exact kS hj814 ⟨_, _, rfl, (p817.below hst.below)⟩
          · rintro ρ818 w819 hj820 ⟨f51, f42, _⟩
            have hst := hj820.2
            obtain ⟨a821, o822, e823, p824⟩ := f51
            exact go_yes 42 rfl (f42.trans (congrArg Value.bool b652)) (op_fieldAddr (s := 0) Try.underlying71 rfl rfl Try.sizeOf2 e823 (kS hj820 ⟨_, _, rfl, p824⟩))
          · rintro ρ825 w826 hj827 ⟨f52, f42, _⟩
            have hst := hj827.2
            obtain ⟨a828, o829, e830, p831⟩ := f52
            exact go_yes 42 rfl (f42.trans (congrArg Value.bool b652)) (op_load1 (u := (.int .i64 ((l[(i - 1)]'(by omega)).From))) Try.isAgg2 e830 p831 (kS hj827 rfl))
          · rintro ρ832 w833 hj834 ⟨f47, f53, f42, _⟩
            have hst := hj834.2
            exact go_yes 42 rfl (f42.trans (congrArg Value.bool b652)) (op_leq (k := .i64) (a := (l[i]'(by omega)).From) (b := (l[(i - 1)]'(by omega)).From) f47 f53 (kS hj834 rfl))
          · rintro ρ835 w836 hj837 ⟨f42, f54, f39, _⟩
            have hst := hj837.2
            exact go_yes 39 rfl (f39.trans (congrArg Value.bool (congrArg (! ·) b639))) (op_pick_t (.bool (decide (((l[i]'(by omega)).From) ≤ ((l[(i - 1)]'(by omega)).From)))) (f42.trans (congrArg Value.bool b652)) f54 (kS hj837 rfl))
          · rintro ρ838 w839 hj840 ⟨f39, f55, _⟩
            have hst := hj840.2
            exact go_plain (op_pick_f (.bool (decide (((l[i]'(by omega)).From) ≤ ((l[(i - 1)]'(by omega)).From)))) (f39.trans (congrArg Value.bool (congrArg (! ·) b639))) f55 (kS hj840 rfl))
          intro ρ841 w842 hbw842 hst hRw842 hkw842
          have uw842_0 : ρ841 0 = v_l := (hkw842 0 rfl).trans q617_0
          have uw842_1 : ρ841 1 = (.int .i64 k) := (hkw842 1 rfl).trans q617_1
          have uw842_5 : ρ841 5 = (.int .i64 (i : Int)) := (hkw842 5 rfl).trans q617_5
          have uw842_12 : ρ841 12 = (.int .i64 (i : Int)) := (hkw842 12 rfl).trans rfl
          have uw842_13 : ρ841 13 = v_l := (hkw842 13 rfl).trans rfl
          have uw842_14 : ρ841 14 = (.int .i64 (l.length : Int)) := (hkw842 14 rfl).trans rfl
          have uw842_15 : ρ841 15 = (.bool (decide ((i : Int) < (l.length : Int)))) := (hkw842 15 rfl).trans rfl
          have uw842_56 : ρ841 56 = (.bool (decide (((l[i]'(by omega)).From) ≤ ((l[(i - 1)]'(by omega)).From)))) := hRw842 38 56 rfl
          refine then_n ?_
          rcases Bool.eq_false_or_eq_true (decide (((l[i]'(by omega)).From) ≤ ((l[(i - 1)]'(by omega)).From))) with b843 | b843
          · have c844 : ((l[i]'(by omega)).From) ≤ ((l[(i - 1)]'(by omega)).From) := of_decide_eq_true b843
            refine cE_cond true (uw842_56.trans (congrArg Value.bool b843)) (fun _ => ?_) (fun h => by cases h)
            refine cE_seq ?_
            refine cE_region rfl ?_
            refine s_cons (op_assign (.bool false) rfl ?_)
            refine s_nil ?_
            refine then_n ?_
            refine cE_ret ?_
            refine block_r (then_r (then_r (block_r (then_r ?_))))
            refine post_r _ (res1 (v := (.bool false)) rfl) ?_
            exact ⟨(retv1 (congrArg Value.bool (show false = (alignedA l k) from by first | (unfold alignedA; rw [coarse_no (by omega)]; rfl) | exact (hI.trans (ra_no (by omega) (Or.inl (by assumption)))).symm | exact (hI.trans (ra_no (by omega) (Or.inr (Or.inl (by assumption))))).symm | exact (hI.trans (ra_no (by omega) (Or.inr (Or.inr (by rw [lastF_pred (by omega) (by omega)]; assumption))))).symm | exact (hI.trans (aligns_end (by omega))).symm))), hst.bare⟩
          have c845 : ¬ (((l[i]'(by omega)).From) ≤ ((l[(i - 1)]'(by omega)).From)) := of_decide_eq_false b843
          refine cE_cond false (uw842_56.trans (congrArg Value.bool b843)) (fun h => by cases h) (fun _ => ?_)
          refine cE_skip ?_
          refine block_n (then_n ?_)
          refine cE_region rfl ?_
          refine s_cons (op_move (.int .i64 (i : Int)) uw842_5 ?_)
          refine s_cons (op_add (k := .i64) (a := (i : Int)) (b := 1) ((i : Int) + 1) rfl rfl (xi64 (by omega) (by omega)) ?_)
          refine s_cons (op_assign (.int .i64 ((i : Int) + 1)) rfl ?_)
          refine s_nil ?_
          refine then_n ?_
          exact ⟨_, ⟨(i + 1), rfl, uw842_0, uw842_1, (congrArg (Value.int .i64) (show ((i : Int) + 1) = _ from by omega)), hst, (by omega), (by first | (unfold alignedA; rw [coarse_yes (by omega) (by omega)]; rfl) | exact hI.trans (ra_go (by omega) (by assumption) (by assumption) (by first | (left; omega) | (right; rw [lastF_pred (by omega) (by omega)]; assumption))))⟩, (by simp only [id]; omega)⟩
        have c846 : ¬ (0 < (i : Int)) := of_decide_eq_false b652
        refine cE_regionL hst [[(0, none)], [(5, none)], [(18, some 0), (19, some 1)], [(20, some 2)], [(21, some 3)], [(22, some 4)], [(23, some 5)], [(0, none), (24, some 6)], [(5, none), (24, some 6)], [(25, some 7), (26, some 8), (24, some 6)], [(27, some 9), (24, some 6)], [(28, some 10), (24, some 6)], [(1, none), (24, some 6)], [(29, some 11), (30, some 12), (24, some 6)], [(0, none), (24, some 6)], [(5, none), (24, some 6)], [(32, some 14), (33, some 15), (24, some 6)], [(34, some 16), (24, some 6)], [(35, some 17), (24, some 6)], [(31, some 13), (36, some 18), (24, some 6)], [(24, some 6), (37, some 19)], [(38, some 20)], [(5, none), (39, some 21)], [(40, some 22), (39, some 21)], [(41, some 23), (39, some 21)], [(0, none), (42, some 24)], [(5, none), (42, some 24)], [(43, some 25), (44, some 26), (42, some 24)], [(45, some 27), (42, some 24)], [(46, some 28), (42, some 24)], [(0, none), (42, some 24)], [(5, none), (42, some 24)], [(49, some 31), (42, some 24)], [(48, some 30), (50, some 32), (42, some 24)], [(51, some 33), (42, some 24)], [(52, some 34), (42, some 24)], [(47, some 29), (53, some 35), (42, some 24)], [(42, some 24), (54, some 36), (39, some 21)], [(39, some 21), (55, some 37)]] [(rEq v_l), (rEq (.int .i64 (i : Int))), (rPt [(.int .i64 ((l[i]'(by omega)).From)), (.int .i64 ((l[i]'(by omega)).Count)), (.int .i64 ((l[i]'(by omega)).Sum)), (.int .i64 ((l[i]'(by omega)).Min)), (.int .i64 ((l[i]'(by omega)).Max)), (.int .i64 ((l[i]'(by omega)).First)), (.int .i64 ((l[i]'(by omega)).Last))]), (rEq (.agg #[(.int .i64 ((l[i]'(by omega)).From)), (.int .i64 ((l[i]'(by omega)).Count)), (.int .i64 ((l[i]'(by omega)).Sum)), (.int .i64 ((l[i]'(by omega)).Min)), (.int .i64 ((l[i]'(by omega)).Max)), (.int .i64 ((l[i]'(by omega)).First)), (.int .i64 ((l[i]'(by omega)).Last))])), (rEq (.bool (mayA (l[i]'(by omega))))), (rEq (.bool (!(mayA (l[i]'(by omega)))))), (rEq (.bool (!(mayA (l[i]'(by omega)))))), (rEq v_l), (rEq (.int .i64 (i : Int))), (rPt [(.int .i64 ((l[i]'(by omega)).From)), (.int .i64 ((l[i]'(by omega)).Count)), (.int .i64 ((l[i]'(by omega)).Sum)), (.int .i64 ((l[i]'(by omega)).Min)), (.int .i64 ((l[i]'(by omega)).Max)), (.int .i64 ((l[i]'(by omega)).First)), (.int .i64 ((l[i]'(by omega)).Last))]), (rPt [(.int .i64 ((l[i]'(by omega)).From)), (.int .i64 ((l[i]'(by omega)).Count)), (.int .i64 ((l[i]'(by omega)).Sum)), (.int .i64 ((l[i]'(by omega)).Min)), (.int .i64 ((l[i]'(by omega)).Max)), (.int .i64 ((l[i]'(by omega)).First)), (.int .i64 ((l[i]'(by omega)).Last))]), (rEq (.int .i64 ((l[i]'(by omega)).From))), (rEq (.int .i64 k)), (rEq (.int .i64 (floorA ((l[i]'(by omega)).From) k))), (rEq v_l), (rEq (.int .i64 (i : Int))), (rPt [(.int .i64 ((l[i]'(by omega)).From)), (.int .i64 ((l[i]'(by omega)).Count)), (.int .i64 ((l[i]'(by omega)).Sum)), (.int .i64 ((l[i]'(by omega)).Min)), (.int .i64 ((l[i]'(by omega)).Max)), (.int .i64 ((l[i]'(by omega)).First)), (.int .i64 ((l[i]'(by omega)).Last))]), (rPt [(.int .i64 ((l[i]'(by omega)).From)), (.int .i64 ((l[i]'(by omega)).Count)), (.int .i64 ((l[i]'(by omega)).Sum)), (.int .i64 ((l[i]'(by omega)).Min)), (.int .i64 ((l[i]'(by omega)).Max)), (.int .i64 ((l[i]'(by omega)).First)), (.int .i64 ((l[i]'(by omega)).Last))]), (rEq (.int .i64 ((l[i]'(by omega)).From))), (rEq (.bool (!decide ((floorA ((l[i]'(by omega)).From) k) = ((l[i]'(by omega)).From))))), (rEq (.bool (!decide ((floorA ((l[i]'(by omega)).From) k) = ((l[i]'(by omega)).From))))), (rEq (.bool (!decide ((floorA ((l[i]'(by omega)).From) k) = ((l[i]'(by omega)).From))))), (rEq (.int .i64 (i : Int))), (rEq (.bool (decide (0 < (i : Int))))), (rEq (.bool (decide (0 < (i : Int))))), (rEq undef), (rEq undef), (rEq undef), (rEq undef), (rEq undef), (rEq undef), (rEq undef), (rEq undef), (rEq undef), (rEq undef), (rEq undef), (rEq undef), (rEq (.bool false)), (rEq (.bool false))] (by kernel_rfl) rfl (by kernel_rfl) ⟨sEq, sEq, sPt, sEq, sEq, sEq, sEq, sEq, sEq, sPt, sPt, sEq, sEq, sEq, sEq, sEq, sPt, sPt, sEq, sEq, sEq, sEq, sEq, sEq, sEq, sEq, sEq, sEq, sEq, sEq, sEq, sEq, sEq, sEq, sEq, sEq, sEq, sEq, sEq, trivial⟩ ⟨?_, ?_, ?_, ?_, ?_, ?_, ?_, ?_, ?_, ?_, ?_, ?_, ?_, ?_, ?_, ?_, ?_, ?_, ?_, ?_, ?_, ?_, ?_, ?_, ?_, ?_, ?_, ?_, ?_, ?_, ?_, ?_, ?_, ?_, ?_, ?_, ?_, ?_, ?_, trivial⟩ ?_
        · rintro ρ858 w859 hj860 ⟨f0, _⟩
          have hst := hj860.2
          exact go_plain (op_move v_l (f0.trans q617_0) (kS hj860 rfl))
        · rintro ρ861 w862 hj863 ⟨f5, _⟩
          have hst := hj863.2
          exact go_plain (op_move (.int .i64 (i : Int)) (f5.trans q617_5) (kS hj863 rfl))
        · rintro ρ864 w865 hj866 ⟨f18, f19, _⟩
          have hst := hj866.2
          refine go_plain (op_indexAddrN (E := aggE) (xs := l) i Try.underlying23 Try.sizeOf71 f18 h_l f19 (by omega) (by omega) (fun a867 o868 p869 => ?_))
          exact kS hj866 ⟨_, _, rfl, (p869.below hst.below)⟩
        · rintro ρ870 w871 hj872 ⟨f20, _⟩
          have hst := hj872.2
          obtain ⟨a873, o874, e875, p876⟩ := f20
          exact go_plain (op_loadN (cs := [(.int .i64 ((l[i]'(by omega)).From)), (.int .i64 ((l[i]'(by omega)).Count)), (.int .i64 ((l[i]'(by omega)).Sum)), (.int .i64 ((l[i]'(by omega)).Min)), (.int .i64 ((l[i]'(by omega)).Max)), (.int .i64 ((l[i]'(by omega)).First)), (.int .i64 ((l[i]'(by omega)).Last))]) Try.isAgg71 Try.sizeOf71 e875 (Pt.of p876 rfl) rfl (kS hj872 rfl))
        · rintro ρ877 w878 hj879 ⟨f21, _⟩
          have hst := hj879.2
          refine go_plain (op_call Try.call46 (evs_cons (v := (.agg #[(.int .i64 ((l[i]'(by omega)).From)), (.int .i64 ((l[i]'(by omega)).Count)), (.int .i64 ((l[i]'(by omega)).Sum)), (.int .i64 ((l[i]'(by omega)).Min)), (.int .i64 ((l[i]'(by omega)).Max)), (.int .i64 ((l[i]'(by omega)).First)), (.int .i64 ((l[i]'(by omega)).Last))])) f21 evs_nil) (c_rMay (w0 := w878) (a := (l[i]'(by omega)))) ?_)
          rintro _ w880 ⟨rfl, hcall⟩
          refine ⟨_, rfl, ?_⟩
          exact kD hj879 hcall rfl
        · rintro ρ881 w882 hj883 ⟨f22, _⟩
          have hst := hj883.2
          exact go_plain (op_not (b := mayA (l[i]'(by omega))) f22 (kS hj883 rfl))
        · rintro ρ884 w885 hj886 ⟨f23, _⟩
          have hst := hj886.2
          exact go_plain (op_move (.bool (!(mayA (l[i]'(by omega))))) f23 (kS hj886 rfl))
        · rintro ρ887 w888 hj889 ⟨f0, f24, _⟩
          have hst := hj889.2
          exact go_yes 24 rfl (f24.trans (congrArg Value.bool (congrArg (! ·) b627))) (op_move v_l (f0.trans q617_0) (kS hj889 rfl))
        · rintro ρ890 w891 hj892 ⟨f5, f24, _⟩
          have hst := hj892.2
          exact go_yes 24 rfl (f24.trans (congrArg Value.bool (congrArg (! ·) b627))) (op_move (.int .i64 (i : Int)) (f5.trans q617_5) (kS hj892 rfl))
        · rintro ρ893 w894 hj895 ⟨f25, f26, f24, _⟩
          have hst := hj895.2
          refine go_yes 24 rfl (f24.trans (congrArg Value.bool (congrArg (! ·) b627))) (op_indexAddrN (E := aggE) (xs := l) i Try.underlying23 Try.sizeOf71 f25 h_l f26 (by omega) (by omega) (fun a896 o897 p898 => ?_))
          exact kS hj895 ⟨_, _, rfl, (p898.below hst.below)⟩
        · rintro ρ899 w900 hj901 ⟨f27, f24, _⟩
          have hst := hj901.2
          obtain ⟨a902, o903, e904, p905⟩ := f27
          exact go_yes 24 rfl (f24.trans (congrArg Value.bool (congrArg (! ·) b627))) (op_fieldAddr (s := 0) Try.underlying71 rfl rfl Try.sizeOf2 e904 (kS hj901 ⟨_, _, rfl, p905⟩))
        · rintro ρ906 w907 hj908 ⟨f28, f24, _⟩
          have hst := hj908.2
          obtain ⟨a909, o910, e911, p912⟩ := f28
          exact go_yes 24 rfl (f24.trans (congrArg Value.bool (congrArg (! ·) b627))) (op_load1 (u := (.int .i64 ((l[i]'(by omega)).From))) Try.isAgg2 e911 p912 (kS hj908 rfl))
        · rintro ρ913 w914 hj915 ⟨f1, f24, _⟩
          have hst := hj915.2
          exact go_yes 24 rfl (f24.trans (congrArg Value.bool (congrArg (! ·) b627))) (op_move (.int .i64 k) (f1.trans q617_1) (kS hj915 rfl))
        · rintro ρ916 w917 hj918 ⟨f29, f30, f24, _⟩
          have hst := hj918.2
          refine go_yes 24 rfl (f24.trans (congrArg Value.bool (congrArg (! ·) b627))) (op_call Try.call38 (evs_cons (v := (.int .i64 ((l[i]'(by omega)).From))) f29 (evs_cons (v := (.int .i64 k)) f30 evs_nil)) (c_rFloor (w0 := w917) (t := (l[i]'(by omega)).From) (k := k) (t0 := (hl _ (List.getElem_mem _)).1.1) (k0 := (by omega)) (t1 := (hl _ (List.getElem_mem _)).1.2) (k1 := (by omega))) ?_)
          rintro _ w919 ⟨rfl, hcall⟩
          refine ⟨_, rfl, ?_⟩
          exact kD hj918 hcall rfl
        · rintro ρ920 w921 hj922 ⟨f0, f24, _⟩
          have hst := hj922.2
          exact go_yes 24 rfl (f24.trans (congrArg Value.bool (congrArg (! ·) b627))) (op_move v_l (f0.trans q617_0) (kS hj922 rfl))
        · rintro ρ923 w924 hj925 ⟨f5, f24, _⟩
          have hst := hj925.2
          exact go_yes 24 rfl (f24.trans (congrArg Value.bool (congrArg (! ·) b627))) (op_move (.int .i64 (i : Int)) (f5.trans q617_5) (kS hj925 rfl))
        · rintro ρ926 w927 hj928 ⟨f32, f33, f24, _⟩
          have hst := hj928.2
          refine go_yes 24 rfl (f24.trans (congrArg Value.bool (congrArg (! ·) b627))) (op_indexAddrN (E := aggE) (xs := l) i Try.underlying23 Try.sizeOf71 f32 h_l f33 (by omega) (by omega) (fun a929 o930 p931 => ?_))
          exact kS hj928 ⟨_, _, rfl, (p931.below hst.below)⟩
        · rintro ρ932 w933 hj934 ⟨f34, f24, _⟩
          have hst := hj934.2
          obtain ⟨a935, o936, e937, p938⟩ := f34
          exact go_yes 24 rfl (f24.trans (congrArg Value.bool (congrArg (! ·) b627))) (op_fieldAddr (s := 0) Try.underlying71 rfl rfl Try.sizeOf2 e937 (kS hj934 ⟨_, _, rfl, p938⟩))
        · rintro ρ939 w940 hj941 ⟨f35, f24, _⟩
          have hst := hj941.2
          obtain ⟨a942, o943, e944, p945⟩ := f35
          exact go_yes 24 rfl (f24.trans (congrArg Value.bool (congrArg (! ·) b627))) (op_load1 (u := (.int .i64 ((l[i]'(by omega)).From))) Try.isAgg2 e944 p945 (kS hj941 rfl))
        · rintro ρ946 w947 hj948 ⟨f31, f36, f24, _⟩
          have hst := hj948.2
          exact go_yes 24 rfl (f24.trans (congrArg Value.bool (congrArg (! ·) b627))) (op_neq (k := .i64) (a := (floorA ((l[i]'(by omega)).From) k)) (b := (l[i]'(by omega)).From) f31 f36 (kS hj948 rfl))
        · rintro ρ949 w950 hj951 ⟨f24, f37, _⟩
          have hst := hj951.2
          exact go_plain (op_pick_f (.bool (!decide ((floorA ((l[i]'(by omega)).From) k) = ((l[i]'(by omega)).From)))) (f24.trans (congrArg Value.bool (congrArg (! ·) b627))) f37 (kS hj951 rfl))
        · rintro ρ952 w953 hj954 ⟨f38, _⟩
          have hst := hj954.2
          exact go_plain (op_move (.bool (!decide ((floorA ((l[i]'(by omega)).From) k) = ((l[i]'(by omega)).From)))) f38 (kS hj954 rfl))
        · rintro ρ955 w956 hj957 ⟨f5, f39, _⟩
          have hst := hj957.2
          exact go_yes 39 rfl (f39.trans (congrArg Value.bool (congrArg (! ·) b639))) (op_move (.int .i64 (i : Int)) (f5.trans q617_5) (kS hj957 rfl))
        · rintro ρ958 w959 hj960 ⟨f40, f39, _⟩
          have hst := hj960.2
          exact go_yes 39 rfl (f39.trans (congrArg Value.bool (congrArg (! ·) b639))) (op_gtr (k := .i64) (a := (i : Int)) (b := 0) f40 rfl (kS hj960 rfl))
        · rintro ρ961 w962 hj963 ⟨f41, f39, _⟩
          have hst := hj963.2
          exact go_yes 39 rfl (f39.trans (congrArg Value.bool (congrArg (! ·) b639))) (op_move (.bool (decide (0 < (i : Int)))) f41 (kS hj963 rfl))
        · rintro ρ964 w965 hj966 ⟨f0, f42, _⟩
          have hst := hj966.2
          exact go_no 42 rfl (f42.trans (congrArg Value.bool b652)) (kS hj966 rfl)
        · rintro ρ967 w968 hj969 ⟨f5, f42, _⟩
          have hst := hj969.2
          exact go_no 42 rfl (f42.trans (congrArg Value.bool b652)) (kS hj969 rfl)
        · rintro ρ970 w971 hj972 ⟨f43, f44, f42, _⟩
          have hst := hj972.2
          exact go_no 42 rfl (f42.trans (congrArg Value.bool b652)) (kS hj972 rfl)
        · rintro ρ973 w974 hj975 ⟨f45, f42, _⟩
          have hst := hj975.2
          exact go_no 42 rfl (f42.trans (congrArg Value.bool b652)) (kS hj975 rfl)
        · rintro ρ976 w977 hj978 ⟨f46, f42, _⟩
          have hst := hj978.2
          exact go_no 42 rfl (f42.trans (congrArg Value.bool b652)) (kS hj978 rfl)
        · rintro ρ979 w980 hj981 ⟨f0, f42, _⟩
          have hst := hj981.2
          exact go_no 42 rfl (f42.trans (congrArg Value.bool b652)) (kS hj981 rfl)
        · rintro ρ982 w983 hj984 ⟨f5, f42, _⟩
          have hst := hj984.2
          exact go_no 42 rfl (f42.trans (congrArg Value.bool b652)) (kS hj984 rfl)
        · rintro ρ985 w986 hj987 ⟨f49, f42, _⟩
          have hst := hj987.2
          exact go_no 42 rfl (f42.trans (congrArg Value.bool b652)) (kS hj987 rfl)
        · rintro ρ988 w989 hj990 ⟨f48, f50, f42, _⟩
          have hst := hj990.2
          exact go_no 42 rfl (f42.trans (congrArg Value.bool b652)) (kS hj990 rfl)
        · rintro ρ991 w992 hj993 ⟨f51, f42, _⟩
          have hst := hj993.2
          exact go_no 42 rfl (f42.trans (congrArg Value.bool b652)) (kS hj993 rfl)
        · rintro ρ994 w995 hj996 ⟨f52, f42, _⟩
          have hst := hj996.2
          exact go_no 42 rfl (f42.trans (congrArg Value.bool b652)) (kS hj996 rfl)
        · rintro ρ997 w998 hj999 ⟨f47, f53, f42, _⟩
          have hst := hj999.2
          exact go_no 42 rfl (f42.trans (congrArg Value.bool b652)) (kS hj999 rfl)
        · rintro ρ1000 w1001 hj1002 ⟨f42, f54, f39, _⟩
          have hst := hj1002.2
          exact go_yes 39 rfl (f39.trans (congrArg Value.bool (congrArg (! ·) b639))) (op_pick_f (.bool false) (f42.trans (congrArg Value.bool b652)) rfl (kS hj1002 rfl))
        · rintro ρ1003 w1004 hj1005 ⟨f39, f55, _⟩
          have hst := hj1005.2
          exact go_plain (op_pick_f (.bool false) (f39.trans (congrArg Value.bool (congrArg (! ·) b639))) f55 (kS hj1005 rfl))
        intro ρ1006 w1007 hbw1007 hst hRw1007 hkw1007
        have uw1007_0 : ρ1006 0 = v_l := (hkw1007 0 rfl).trans q617_0
        have uw1007_1 : ρ1006 1 = (.int .i64 k) := (hkw1007 1 rfl).trans q617_1
        have uw1007_5 : ρ1006 5 = (.int .i64 (i : Int)) := (hkw1007 5 rfl).trans q617_5
        have uw1007_12 : ρ1006 12 = (.int .i64 (i : Int)) := (hkw1007 12 rfl).trans rfl
        have uw1007_13 : ρ1006 13 = v_l := (hkw1007 13 rfl).trans rfl
        have uw1007_14 : ρ1006 14 = (.int .i64 (l.length : Int)) := (hkw1007 14 rfl).trans rfl
        have uw1007_15 : ρ1006 15 = (.bool (decide ((i : Int) < (l.length : Int)))) := (hkw1007 15 rfl).trans rfl
        have uw1007_56 : ρ1006 56 = (.bool false) := hRw1007 38 56 rfl
        refine then_n ?_
        refine cE_cond false uw1007_56 (fun h => by cases h) (fun _ => ?_)
        refine cE_skip ?_
        refine block_n (then_n ?_)
        refine cE_region rfl ?_
        refine s_cons (op_move (.int .i64 (i : Int)) uw1007_5 ?_)
        refine s_cons (op_add (k := .i64) (a := (i : Int)) (b := 1) ((i : Int) + 1) rfl rfl (xi64 (by omega) (by omega)) ?_)
        refine s_cons (op_assign (.int .i64 ((i : Int) + 1)) rfl ?_)
        refine s_nil ?_
        refine then_n ?_
        exact ⟨_, ⟨(i + 1), rfl, uw1007_0, uw1007_1, (congrArg (Value.int .i64) (show ((i : Int) + 1) = _ from by omega)), hst, (by omega), (by first | (unfold alignedA; rw [coarse_yes (by omega) (by omega)]; rfl) | exact hI.trans (ra_go (by omega) (by assumption) (by assumption) (by first | (left; omega) | (right; rw [lastF_pred (by omega) (by omega)]; assumption))))⟩, (by simp only [id]; omega)⟩
      have c1008 : ¬ ((floorA ((l[i]'(by omega)).From) k) = ((l[i]'(by omega)).From)) := of_decide_eq_false b639
      refine cE_regionL hst [[(0, none)], [(5, none)], [(18, some 0), (19, some 1)], [(20, some 2)], [(21, some 3)], [(22, some 4)], [(23, some 5)], [(0, none), (24, some 6)], [(5, none), (24, some 6)], [(25, some 7), (26, some 8), (24, some 6)], [(27, some 9), (24, some 6)], [(28, some 10), (24, some 6)], [(1, none), (24, some 6)], [(29, some 11), (30, some 12), (24, some 6)], [(0, none), (24, some 6)], [(5, none), (24, some 6)], [(32, some 14), (33, some 15), (24, some 6)], [(34, some 16), (24, some 6)], [(35, some 17), (24, some 6)], [(31, some 13), (36, some 18), (24, some 6)], [(24, some 6), (37, some 19)], [(38, some 20)], [(5, none), (39, some 21)], [(40, some 22), (39, some 21)], [(41, some 23), (39, some 21)], [(0, none), (42, some 24)], [(5, none), (42, some 24)], [(43, some 25), (44, some 26), (42, some 24)], [(45, some 27), (42, some 24)], [(46, some 28), (42, some 24)], [(0, none), (42, some 24)], [(5, none), (42, some 24)], [(49, some 31), (42, some 24)], [(48, some 30), (50, some 32), (42, some 24)], [(51, some 33), (42, some 24)], [(52, some 34), (42, some 24)], [(47, some 29), (53, some 35), (42, some 24)], [(42, some 24), (54, some 36), (39, some 21)], [(39, some 21), (55, some 37)]] [(rEq v_l), (rEq (.int .i64 (i : Int))), (rPt [(.int .i64 ((l[i]'(by omega)).From)), (.int .i64 ((l[i]'(by omega)).Count)), (.int .i64 ((l[i]'(by omega)).Sum)), (.int .i64 ((l[i]'(by omega)).Min)), (.int .i64 ((l[i]'(by omega)).Max)), (.int .i64 ((l[i]'(by omega)).First)), (.int .i64 ((l[i]'(by omega)).Last))]), (rEq (.agg #[(.int .i64 ((l[i]'(by omega)).From)), (.int .i64 ((l[i]'(by omega)).Count)), (.int .i64 ((l[i]'(by omega)).Sum)), (.int .i64 ((l[i]'(by omega)).Min)), (.int .i64 ((l[i]'(by omega)).Max)), (.int .i64 ((l[i]'(by omega)).First)), (.int .i64 ((l[i]'(by omega)).Last))])), (rEq (.bool (mayA (l[i]'(by omega))))), (rEq (.bool (!(mayA (l[i]'(by omega)))))), (rEq (.bool (!(mayA (l[i]'(by omega)))))), (rEq v_l), (rEq (.int .i64 (i : Int))), (rPt [(.int .i64 ((l[i]'(by omega)).From)), (.int .i64 ((l[i]'(by omega)).Count)), (.int .i64 ((l[i]'(by omega)).Sum)), (.int .i64 ((l[i]'(by omega)).Min)), (.int .i64 ((l[i]'(by omega)).Max)), (.int .i64 ((l[i]'(by omega)).First)), (.int .i64 ((l[i]'(by omega)).Last))]), (rPt [(.int .i64 ((l[i]'(by omega)).From)), (.int .i64 ((l[i]'(by omega)).Count)), (.int .i64 ((l[i]'(by omega)).Sum)), (.int .i64 ((l[i]'(by omega)).Min)), (.int .i64 ((l[i]'(by omega)).Max)), (.int .i64 ((l[i]'(by omega)).First)), (.int .i64 ((l[i]'(by omega)).Last))]), (rEq (.int .i64 ((l[i]'(by omega)).From))), (rEq (.int .i64 k)), (rEq (.int .i64 (floorA ((l[i]'(by omega)).From) k))), (rEq v_l), (rEq (.int .i64 (i : Int))), (rPt [(.int .i64 ((l[i]'(by omega)).From)), (.int .i64 ((l[i]'(by omega)).Count)), (.int .i64 ((l[i]'(by omega)).Sum)), (.int .i64 ((l[i]'(by omega)).Min)), (.int .i64 ((l[i]'(by omega)).Max)), (.int .i64 ((l[i]'(by omega)).First)), (.int .i64 ((l[i]'(by omega)).Last))]), (rPt [(.int .i64 ((l[i]'(by omega)).From)), (.int .i64 ((l[i]'(by omega)).Count)), (.int .i64 ((l[i]'(by omega)).Sum)), (.int .i64 ((l[i]'(by omega)).Min)), (.int .i64 ((l[i]'(by omega)).Max)), (.int .i64 ((l[i]'(by omega)).First)), (.int .i64 ((l[i]'(by omega)).Last))]), (rEq (.int .i64 ((l[i]'(by omega)).From))), (rEq (.bool (!decide ((floorA ((l[i]'(by omega)).From) k) = ((l[i]'(by omega)).From))))), (rEq (.bool (!decide ((floorA ((l[i]'(by omega)).From) k) = ((l[i]'(by omega)).From))))), (rEq (.bool (!decide ((floorA ((l[i]'(by omega)).From) k) = ((l[i]'(by omega)).From))))), (rEq undef), (rEq undef), (rEq undef), (rEq undef), (rEq undef), (rEq undef), (rEq undef), (rEq undef), (rEq undef), (rEq undef), (rEq undef), (rEq undef), (rEq undef), (rEq undef), (rEq undef), (rEq undef), (rEq (.bool true))] (by kernel_rfl) rfl (by kernel_rfl) ⟨sEq, sEq, sPt, sEq, sEq, sEq, sEq, sEq, sEq, sPt, sPt, sEq, sEq, sEq, sEq, sEq, sPt, sPt, sEq, sEq, sEq, sEq, sEq, sEq, sEq, sEq, sEq, sEq, sEq, sEq, sEq, sEq, sEq, sEq, sEq, sEq, sEq, sEq, sEq, trivial⟩ ⟨?_, ?_, ?_, ?_, ?_, ?_, ?_, ?_, ?_, ?_, ?_, ?_, ?_, ?_, ?_, ?_, ?_, ?_, ?_, ?_, ?_, ?_, ?_, ?_, ?_, ?_, ?_, ?_, ?_, ?_, ?_, ?_, ?_, ?_, ?_, ?_, ?_, ?_, ?_, trivial⟩ ?_
      · rintro ρ1020 w1021 hj1022 ⟨f0, _⟩
        have hst := hj1022.2
        exact go_plain (op_move v_l (f0.trans q617_0) (kS hj1022 rfl))
      · rintro ρ1023 w1024 hj1025 ⟨f5, _⟩
        have hst := hj1025.2
        exact go_plain (op_move (.int .i64 (i : Int)) (f5.trans q617_5) (kS hj1025 rfl))
      · rintro ρ1026 w1027 hj1028 ⟨f18, f19, _⟩
        have hst := hj1028.2
        refine go_plain (op_indexAddrN (E := aggE) (xs := l) i Try.underlying23 Try.sizeOf71 f18 h_l f19 (by omega) (by omega) (fun a1029 o1030 p1031 => ?_))
        exact kS hj1028 ⟨_, _, rfl, (p1031.below hst.below)⟩
      · rintro ρ1032 w1033 hj1034 ⟨f20, _⟩
        have hst := hj1034.2
        obtain ⟨a1035, o1036, e1037, p1038⟩ := f20
        exact go_plain (op_loadN (cs := [(.int .i64 ((l[i]'(by omega)).From)), (.int .i64 ((l[i]'(by omega)).Count)), (.int .i64 ((l[i]'(by omega)).Sum)), (.int .i64 ((l[i]'(by omega)).Min)), (.int .i64 ((l[i]'(by omega)).Max)), (.int .i64 ((l[i]'(by omega)).First)), (.int .i64 ((l[i]'(by omega)).Last))]) Try.isAgg71 Try.sizeOf71 e1037 (Pt.of p1038 rfl) rfl (kS hj1034 rfl))
      · rintro ρ1039 w1040 hj1041 ⟨f21, _⟩
        have hst := hj1041.2
        refine go_plain (op_call Try.call46 (evs_cons (v := (.agg #[(.int .i64 ((l[i]'(by omega)).From)), (.int .i64 ((l[i]'(by omega)).Count)), (.int .i64 ((l[i]'(by omega)).Sum)), (.int .i64 ((l[i]'(by omega)).Min)), (.int .i64 ((l[i]'(by omega)).Max)), (.int .i64 ((l[i]'(by omega)).First)), (.int .i64 ((l[i]'(by omega)).Last))])) f21 evs_nil) (c_rMay (w0 := w1040) (a := (l[i]'(by omega)))) ?_)
        rintro _ w1042 ⟨rfl, hcall⟩
        refine ⟨_, rfl, ?_⟩
        exact kD hj1041 hcall rfl
      · rintro ρ1043 w1044 hj1045 ⟨f22, _⟩
        have hst := hj1045.2
        exact go_plain (op_not (b := mayA (l[i]'(by omega))) f22 (kS hj1045 rfl))
      · rintro ρ1046 w1047 hj1048 ⟨f23, _⟩
        have hst := hj1048.2
        exact go_plain (op_move (.bool (!(mayA (l[i]'(by omega))))) f23 (kS hj1048 rfl))
      · rintro ρ1049 w1050 hj1051 ⟨f0, f24, _⟩
        have hst := hj1051.2
        exact go_yes 24 rfl (f24.trans (congrArg Value.bool (congrArg (! ·) b627))) (op_move v_l (f0.trans q617_0) (kS hj1051 rfl))
      · rintro ρ1052 w1053 hj1054 ⟨f5, f24, _⟩
        have hst := hj1054.2
        exact go_yes 24 rfl (f24.trans (congrArg Value.bool (congrArg (! ·) b627))) (op_move (.int .i64 (i : Int)) (f5.trans q617_5) (kS hj1054 rfl))
      · rintro ρ1055 w1056 hj1057 ⟨f25, f26, f24, _⟩
        have hst := hj1057.2
        refine go_yes 24 rfl (f24.trans (congrArg Value.bool (congrArg (! ·) b627))) (op_indexAddrN (E := aggE) (xs := l) i Try.underlying23 Try.sizeOf71 f25 h_l f26 (by omega) (by omega) (fun a1058 o1059 p1060 => ?_))
        exact kS hj1057 ⟨_, _, rfl, (p1060.below hst.below)⟩
      · rintro ρ1061 w1062 hj1063 ⟨f27, f24, _⟩
        have hst := hj1063.2
        obtain ⟨a1064, o1065, e1066, p1067⟩ := f27
        exact go_yes 24 rfl (f24.trans (congrArg Value.bool (congrArg (! ·) b627))) (op_fieldAddr (s := 0) Try.underlying71 rfl rfl Try.sizeOf2 e1066 (kS hj1063 ⟨_, _, rfl, p1067⟩))
      · rintro ρ1068 w1069 hj1070 ⟨f28, f24, _⟩
        have hst := hj1070.2
        obtain ⟨a1071, o1072, e1073, p1074⟩ := f28
        exact go_yes 24 rfl (f24.trans (congrArg Value.bool (congrArg (! ·) b627))) (op_load1 (u := (.int .i64 ((l[i]'(by omega)).From))) Try.isAgg2 e1073 p1074 (kS hj1070 rfl))
      · rintro ρ1075 w1076 hj1077 ⟨f1, f24, _⟩
        have hst := hj1077.2
        exact go_yes 24 rfl (f24.trans (congrArg Value.bool (congrArg (! ·) b627))) (op_move (.int .i64 k) (f1.trans q617_1) (kS hj1077 rfl))
      · rintro ρ1078 w1079 hj1080 ⟨f29, f30, f24, _⟩
        have hst := hj1080.2
        refine go_yes 24 rfl (f24.trans (congrArg Value.bool (congrArg (! ·) b627))) (op_call Try.call38 (evs_cons (v := (.int .i64 ((l[i]'(by omega)).From))) f29 (evs_cons (v := (.int .i64 k)) f30 evs_nil)) (c_rFloor (w0 := w1079) (t := (l[i]'(by omega)).From) (k := k) (t0 := (hl _ (List.getElem_mem _)).1.1) (k0 := (by omega)) (t1 := (hl _ (List.getElem_mem _)).1.2) (k1 := (by omega))) ?_)
        rintro _ w1081 ⟨rfl, hcall⟩
        refine ⟨_, rfl, ?_⟩
        exact kD hj1080 hcall rfl
      · rintro ρ1082 w1083 hj1084 ⟨f0, f24, _⟩
        have hst := hj1084.2
        exact go_yes 24 rfl (f24.trans (congrArg Value.bool (congrArg (! ·) b627))) (op_move v_l (f0.trans q617_0) (kS hj1084 rfl))
      · rintro ρ1085 w1086 hj1087 ⟨f5, f24, _⟩
        have hst := hj1087.2
        exact go_yes 24 rfl (f24.trans (congrArg Value.bool (congrArg (! ·) b627))) (op_move (.int .i64 (i : Int)) (f5.trans q617_5) (kS hj1087 rfl))
      · rintro ρ1088 w1089 hj1090 ⟨f32, f33, f24, _⟩
        have hst := hj1090.2
        refine go_yes 24 rfl (f24.trans (congrArg Value.bool (congrArg (! ·) b627))) (op_indexAddrN (E := aggE) (xs := l) i Try.underlying23 Try.sizeOf71 f32 h_l f33 (by omega) (by omega) (fun a1091 o1092 p1093 => ?_))
        exact kS hj1090 ⟨_, _, rfl, (p1093.below hst.below)⟩
      · rintro ρ1094 w1095 hj1096 ⟨f34, f24, _⟩
        have hst := hj1096.2
        obtain ⟨a1097, o1098, e1099, p1100⟩ := f34
        exact go_yes 24 rfl (f24.trans (congrArg Value.bool (congrArg (! ·) b627))) (op_fieldAddr (s := 0) Try.underlying71 rfl rfl Try.sizeOf2 e1099 (kS hj1096 ⟨_, _, rfl, p1100⟩))
      · rintro ρ1101 w1102 hj1103 ⟨f35, f24, _⟩
        have hst := hj1103.2
        obtain ⟨a1104, o1105, e1106, p1107⟩ := f35
        exact go_yes 24 rfl (f24.trans (congrArg Value.bool (congrArg (! ·) b627))) (op_load1 (u := (.int .i64 ((l[i]'(by omega)).From))) Try.isAgg2 e1106 p1107 (kS hj1103 rfl))
      · rintro ρ1108 w1109 hj1110 ⟨f31, f36, f24, _⟩
        have hst := hj1110.2
        exact go_yes 24 rfl (f24.trans (congrArg Value.bool (congrArg (! ·) b627))) (op_neq (k := .i64) (a := (floorA ((l[i]'(by omega)).From) k)) (b := (l[i]'(by omega)).From) f31 f36 (kS hj1110 rfl))
      · rintro ρ1111 w1112 hj1113 ⟨f24, f37, _⟩
        have hst := hj1113.2
        exact go_plain (op_pick_f (.bool (!decide ((floorA ((l[i]'(by omega)).From) k) = ((l[i]'(by omega)).From)))) (f24.trans (congrArg Value.bool (congrArg (! ·) b627))) f37 (kS hj1113 rfl))
      · rintro ρ1114 w1115 hj1116 ⟨f38, _⟩
        have hst := hj1116.2
        exact go_plain (op_move (.bool (!decide ((floorA ((l[i]'(by omega)).From) k) = ((l[i]'(by omega)).From)))) f38 (kS hj1116 rfl))
      · rintro ρ1117 w1118 hj1119 ⟨f5, f39, _⟩
        have hst := hj1119.2
        exact go_no 39 rfl (f39.trans (congrArg Value.bool (congrArg (! ·) b639))) (kS hj1119 rfl)
      · rintro ρ1120 w1121 hj1122 ⟨f40, f39, _⟩
        have hst := hj1122.2
        exact go_no 39 rfl (f39.trans (congrArg Value.bool (congrArg (! ·) b639))) (kS hj1122 rfl)
      · rintro ρ1123 w1124 hj1125 ⟨f41, f39, _⟩
        have hst := hj1125.2
        exact go_no 39 rfl (f39.trans (congrArg Value.bool (congrArg (! ·) b639))) (kS hj1125 rfl)
      · rintro ρ1126 w1127 hj1128 ⟨f0, f42, _⟩
        have hst := hj1128.2
        exact go_un 42 rfl f42 (kS hj1128 rfl)
      · rintro ρ1129 w1130 hj1131 ⟨f5, f42, _⟩
        have hst := hj1131.2
        exact go_un 42 rfl f42 (kS hj1131 rfl)
      · rintro ρ1132 w1133 hj1134 ⟨f43, f44, f42, _⟩
        have hst := hj1134.2
        exact go_un 42 rfl f42 (kS hj1134 rfl)
      · rintro ρ1135 w1136 hj1137 ⟨f45, f42, _⟩
        have hst := hj1137.2
        exact go_un 42 rfl f42 (kS hj1137 rfl)
      · rintro ρ1138 w1139 hj1140 ⟨f46, f42, _⟩
        have hst := hj1140.2
        exact go_un 42 rfl f42 (kS hj1140 rfl)
      · rintro ρ1141 w1142 hj1143 ⟨f0, f42, _⟩
        have hst := hj1143.2
        exact go_un 42 rfl f42 (kS hj1143 rfl)
      · rintro ρ1144 w1145 hj1146 ⟨f5, f42, _⟩
        have hst := hj1146.2
        exact go_un 42 rfl f42 (kS hj1146 rfl)
      · rintro ρ1147 w1148 hj1149 ⟨f49, f42, _⟩
        have hst := hj1149.2
        exact go_un 42 rfl f42 (kS hj1149 rfl)
      · rintro ρ1150 w1151 hj1152 ⟨f48, f50, f42, _⟩
        have hst := hj1152.2
        exact go_un 42 rfl f42 (kS hj1152 rfl)
      · rintro ρ1153 w1154 hj1155 ⟨f51, f42, _⟩
        have hst := hj1155.2
        exact go_un 42 rfl f42 (kS hj1155 rfl)
      · rintro ρ1156 w1157 hj1158 ⟨f52, f42, _⟩
        have hst := hj1158.2
        exact go_un 42 rfl f42 (kS hj1158 rfl)
      · rintro ρ1159 w1160 hj1161 ⟨f47, f53, f42, _⟩
        have hst := hj1161.2
        exact go_un 42 rfl f42 (kS hj1161 rfl)
      · rintro ρ1162 w1163 hj1164 ⟨f42, f54, f39, _⟩
        have hst := hj1164.2
        exact go_no 39 rfl (f39.trans (congrArg Value.bool (congrArg (! ·) b639))) (kS hj1164 rfl)
      · rintro ρ1165 w1166 hj1167 ⟨f39, f55, _⟩
        have hst := hj1167.2
        exact go_plain (op_pick_t (.bool true) (f39.trans (congrArg Value.bool (congrArg (! ·) b639))) rfl (kS hj1167 rfl))
      intro ρ1168 w1169 hbw1169 hst hRw1169 hkw1169
      have uw1169_0 : ρ1168 0 = v_l := (hkw1169 0 rfl).trans q617_0
      have uw1169_1 : ρ1168 1 = (.int .i64 k) := (hkw1169 1 rfl).trans q617_1
      have uw1169_5 : ρ1168 5 = (.int .i64 (i : Int)) := (hkw1169 5 rfl).trans q617_5
      have uw1169_12 : ρ1168 12 = (.int .i64 (i : Int)) := (hkw1169 12 rfl).trans rfl
      have uw1169_13 : ρ1168 13 = v_l := (hkw1169 13 rfl).trans rfl
      have uw1169_14 : ρ1168 14 = (.int .i64 (l.length : Int)) := (hkw1169 14 rfl).trans rfl
      have uw1169_15 : ρ1168 15 = (.bool (decide ((i : Int) < (l.length : Int)))) := (hkw1169 15 rfl).trans rfl
      have uw1169_56 : ρ1168 56 = (.bool true) := hRw1169 38 56 rfl
      refine then_n ?_
      refine cE_cond true uw1169_56 (fun _ => ?_) (fun h => by cases h)
      refine cE_seq ?_
      refine cE_region rfl ?_
      refine s_cons (op_assign (.bool false) rfl ?_)
      refine s_nil ?_
      refine then_n ?_
      refine cE_ret ?_
      refine block_r (then_r (then_r (block_r (then_r ?_))))
      refine post_r _ (res1 (v := (.bool false)) rfl) ?_
      exact ⟨(retv1 (congrArg Value.bool (show false = (alignedA l k) from by first | (unfold alignedA; rw [coarse_no (by omega)]; rfl) | exact (hI.trans (ra_no (by omega) (Or.inl (by assumption)))).symm | exact (hI.trans (ra_no (by omega) (Or.inr (Or.inl (by assumption))))).symm | exact (hI.trans (ra_no (by omega) (Or.inr (Or.inr (by rw [lastF_pred (by omega) (by omega)]; assumption))))).symm | exact (hI.trans (aligns_end (by omega))).symm))), hst.bare⟩
    refine cE_regionL hst [[(0, none)], [(5, none)], [(18, some 0), (19, some 1)], [(20, some 2)], [(21, some 3)], [(22, some 4)], [(23, some 5)], [(0, none), (24, some 6)], [(5, none), (24, some 6)], [(25, some 7), (26, some 8), (24, some 6)], [(27, some 9), (24, some 6)], [(28, some 10), (24, some 6)], [(1, none), (24, some 6)], [(29, some 11), (30, some 12), (24, some 6)], [(0, none), (24, some 6)], [(5, none), (24, some 6)], [(32, some 14), (33, some 15), (24, some 6)], [(34, some 16), (24, some 6)], [(35, some 17), (24, some 6)], [(31, some 13), (36, some 18), (24, some 6)], [(24, some 6), (37, some 19)], [(38, some 20)], [(5, none), (39, some 21)], [(40, some 22), (39, some 21)], [(41, some 23), (39, some 21)], [(0, none), (42, some 24)], [(5, none), (42, some 24)], [(43, some 25), (44, some 26), (42, some 24)], [(45, some 27), (42, some 24)], [(46, some 28), (42, some 24)], [(0, none), (42, some 24)], [(5, none), (42, some 24)], [(49, some 31), (42, some 24)], [(48, some 30), (50, some 32), (42, some 24)], [(51, some 33), (42, some 24)], [(52, some 34), (42, some 24)], [(47, some 29), (53, some 35), (42, some 24)], [(42, some 24), (54, some 36), (39, some 21)], [(39, some 21), (55, some 37)]] [(rEq v_l), (rEq (.int .i64 (i : Int))), (rPt [(.int .i64 ((l[i]'(by omega)).From)), (.int .i64 ((l[i]'(by omega)).Count)), (.int .i64 ((l[i]'(by omega)).Sum)), (.int .i64 ((l[i]'(by omega)).Min)), (.int .i64 ((l[i]'(by omega)).Max)), (.int .i64 ((l[i]'(by omega)).First)), (.int .i64 ((l[i]'(by omega)).Last))]), (rEq (.agg #[(.int .i64 ((l[i]'(by omega)).From)), (.int .i64 ((l[i]'(by omega)).Count)), (.int .i64 ((l[i]'(by omega)).Sum)), (.int .i64 ((l[i]'(by omega)).Min)), (.int .i64 ((l[i]'(by omega)).Max)), (.int .i64 ((l[i]'(by omega)).First)), (.int .i64 ((l[i]'(by omega)).Last))])), (rEq (.bool (mayA (l[i]'(by omega))))), (rEq (.bool (!(mayA (l[i]'(by omega)))))), (rEq (.bool (!(mayA (l[i]'(by omega)))))), (rEq undef), (rEq undef), (rEq undef), (rEq undef), (rEq undef), (rEq undef), (rEq undef), (rEq undef), (rEq undef), (rEq undef), (rEq undef), (rEq undef), (rEq undef), (rEq (.bool true)), (rEq (.bool true)), (rEq undef), (rEq undef), (rEq undef), (rEq undef), (rEq undef), (rEq undef), (rEq undef), (rEq undef), (rEq undef), (rEq undef), (rEq undef), (rEq undef), (rEq undef), (rEq undef), (rEq undef), (rEq undef), (rEq (.bool true))] (by kernel_rfl) rfl (by kernel_rfl) ⟨sEq, sEq, sPt, sEq, sEq, sEq, sEq, sEq, sEq, sEq, sEq, sEq, sEq, sEq, sEq, sEq, sEq, sEq, sEq, sEq, sEq, sEq, sEq, sEq, sEq, sEq, sEq, sEq, sEq, sEq, sEq, sEq, sEq, sEq, sEq, sEq, sEq, sEq, sEq, trivial⟩ ⟨?_, ?_, ?_, ?_, ?_, ?_, ?_, ?_, ?_, ?_, ?_, ?_, ?_, ?_, ?_, ?_, ?_, ?_, ?_, ?_, ?_, ?_, ?_, ?_, ?_, ?_, ?_, ?_, ?_, ?_, ?_, ?_, ?_, ?_, ?_, ?_, ?_, ?_, ?_, trivial⟩ ?_
    · rintro ρ1174 w1175 hj1176 ⟨f0, _⟩
      have hst := hj1176.2
      exact go_plain (op_move v_l (f0.trans q617_0) (kS hj1176 rfl))
    · rintro ρ1177 w1178 hj1179 ⟨f5, _⟩
      have hst := hj1179.2
      exact go_plain (op_move (.int .i64 (i : Int)) (f5.trans q617_5) (kS hj1179 rfl))
    · rintro ρ1180 w1181 hj1182 ⟨f18, f19, _⟩
      have hst := hj1182.2
      refine go_plain (op_indexAddrN (E := aggE) (xs := l) i Try.underlying23 Try.sizeOf71 f18 h_l f19 (by omega) (by omega) (fun a1183 o1184 p1185 => ?_))
      exact kS hj1182 ⟨_, _, rfl, (p1185.below hst.below)⟩
    · rintro ρ1186 w1187 hj1188 ⟨f20, _⟩
      have hst := hj1188.2
      obtain ⟨a1189, o1190, e1191, p1192⟩ := f20
      exact go_plain (op_loadN (cs := [(.int .i64 ((l[i]'(by omega)).From)), (.int .i64 ((l[i]'(by omega)).Count)), (.int .i64 ((l[i]'(by omega)).Sum)), (.int .i64 ((l[i]'(by omega)).Min)), (.int .i64 ((l[i]'(by omega)).Max)), (.int .i64 ((l[i]'(by omega)).First)), (.int .i64 ((l[i]'(by omega)).Last))]) Try.isAgg71 Try.sizeOf71 e1191 (Pt.of p1192 rfl) rfl (kS hj1188 rfl))
    · rintro ρ1193 w1194 hj1195 ⟨f21, _⟩
      have hst := hj1195.2
      refine go_plain (op_call Try.call46 (evs_cons (v := (.agg #[(.int .i64 ((l[i]'(by omega)).From)), (.int .i64 ((l[i]'(by omega)).Count)), (.int .i64 ((l[i]'(by omega)).Sum)), (.int .i64 ((l[i]'(by omega)).Min)), (.int .i64 ((l[i]'(by omega)).Max)), (.int .i64 ((l[i]'(by omega)).First)), (.int .i64 ((l[i]'(by omega)).Last))])) f21 evs_nil) (c_rMay (w0 := w1194) (a := (l[i]'(by omega)))) ?_)
      rintro _ w1196 ⟨rfl, hcall⟩
      refine ⟨_, rfl, ?_⟩
      exact kD hj1195 hcall rfl
    · rintro ρ1197 w1198 hj1199 ⟨f22, _⟩
      have hst := hj1199.2
      exact go_plain (op_not (b := mayA (l[i]'(by omega))) f22 (kS hj1199 rfl))
    · rintro ρ1200 w1201 hj1202 ⟨f23, _⟩
      have hst := hj1202.2
      exact go_plain (op_move (.bool (!(mayA (l[i]'(by omega))))) f23 (kS hj1202 rfl))
    · rintro ρ1203 w1204 hj1205 ⟨f0, f24, _⟩
      have hst := hj1205.2
      exact go_no 24 rfl (f24.trans (congrArg Value.bool (congrArg (! ·) b627))) (kS hj1205 rfl)
    · rintro ρ1206 w1207 hj1208 ⟨f5, f24, _⟩
      have hst := hj1208.2
      exact go_no 24 rfl (f24.trans (congrArg Value.bool (congrArg (! ·) b627))) (kS hj1208 rfl)
    · rintro ρ1209 w1210 hj1211 ⟨f25, f26, f24, _⟩
      have hst := hj1211.2
      exact go_no 24 rfl (f24.trans (congrArg Value.bool (congrArg (! ·) b627))) (kS hj1211 rfl)
    · rintro ρ1212 w1213 hj1214 ⟨f27, f24, _⟩
      have hst := hj1214.2
      exact go_no 24 rfl (f24.trans (congrArg Value.bool (congrArg (! ·) b627))) (kS hj1214 rfl)
    · rintro ρ1215 w1216 hj1217 ⟨f28, f24, _⟩
      have hst := hj1217.2
      exact go_no 24 rfl (f24.trans (congrArg Value.bool (congrArg (! ·) b627))) (kS hj1217 rfl)
    · rintro ρ1218 w1219 hj1220 ⟨f1, f24, _⟩
      have hst := hj1220.2
      exact go_no 24 rfl (f24.trans (congrArg Value.bool (congrArg (! ·) b627))) (kS hj1220 rfl)
    · rintro ρ1221 w1222 hj1223 ⟨f29, f30, f24, _⟩
      have hst := hj1223.2
      exact go_no 24 rfl (f24.trans (congrArg Value.bool (congrArg (! ·) b627))) (kS hj1223 rfl)
    · rintro ρ1224 w1225 hj1226 ⟨f0, f24, _⟩
      have hst := hj1226.2
      exact go_no 24 rfl (f24.trans (congrArg Value.bool (congrArg (! ·) b627))) (kS hj1226 rfl)
    · rintro ρ1227 w1228 hj1229 ⟨f5, f24, _⟩
      have hst := hj1229.2
      exact go_no 24 rfl (f24.trans (congrArg Value.bool (congrArg (! ·) b627))) (kS hj1229 rfl)
    · rintro ρ1230 w1231 hj1232 ⟨f32, f33, f24, _⟩
      have hst := hj1232.2
      exact go_no 24 rfl (f24.trans (congrArg Value.bool (congrArg (! ·) b627))) (kS hj1232 rfl)
    · rintro ρ1233 w1234 hj1235 ⟨f34, f24, _⟩
      have hst := hj1235.2
      exact go_no 24 rfl (f24.trans (congrArg Value.bool (congrArg (! ·) b627))) (kS hj1235 rfl)
    · rintro ρ1236 w1237 hj1238 ⟨f35, f24, _⟩
      have hst := hj1238.2
      exact go_no 24 rfl (f24.trans (congrArg Value.bool (congrArg (! ·) b627))) (kS hj1238 rfl)
    · rintro ρ1239 w1240 hj1241 ⟨f31, f36, f24, _⟩
      have hst := hj1241.2
      exact go_no 24 rfl (f24.trans (congrArg Value.bool (congrArg (! ·) b627))) (kS hj1241 rfl)
    · rintro ρ1242 w1243 hj1244 ⟨f24, f37, _⟩
      have hst := hj1244.2
      exact go_plain (op_pick_t (.bool true) (f24.trans (congrArg Value.bool (congrArg (! ·) b627))) rfl (kS hj1244 rfl))
    · rintro ρ1245 w1246 hj1247 ⟨f38, _⟩
      have hst := hj1247.2
      exact go_plain (op_move (.bool true) f38 (kS hj1247 rfl))
    · rintro ρ1248 w1249 hj1250 ⟨f5, f39, _⟩
      have hst := hj1250.2
      exact go_no 39 rfl f39 (kS hj1250 rfl)
    · rintro ρ1251 w1252 hj1253 ⟨f40, f39, _⟩
      have hst := hj1253.2
      exact go_no 39 rfl f39 (kS hj1253 rfl)
    · rintro ρ1254 w1255 hj1256 ⟨f41, f39, _⟩
      have hst := hj1256.2
      exact go_no 39 rfl f39 (kS hj1256 rfl)
    · rintro ρ1257 w1258 hj1259 ⟨f0, f42, _⟩
      have hst := hj1259.2
      exact go_un 42 rfl f42 (kS hj1259 rfl)
    · rintro ρ1260 w1261 hj1262 ⟨f5, f42, _⟩
      have hst := hj1262.2
      exact go_un 42 rfl f42 (kS hj1262 rfl)
    · rintro ρ1263 w1264 hj1265 ⟨f43, f44, f42, _⟩
      have hst := hj1265.2
      exact go_un 42 rfl f42 (kS hj1265 rfl)
    · rintro ρ1266 w1267 hj1268 ⟨f45, f42, _⟩
      have hst := hj1268.2
      exact go_un 42 rfl f42 (kS hj1268 rfl)
    · rintro ρ1269 w1270 hj1271 ⟨f46, f42, _⟩
      have hst := hj1271.2
      exact go_un 42 rfl f42 (kS hj1271 rfl)
    · rintro ρ1272 w1273 hj1274 ⟨f0, f42, _⟩
      have hst := hj1274.2
      exact go_un 42 rfl f42 (kS hj1274 rfl)
    · rintro ρ1275 w1276 hj1277 ⟨f5, f42, _⟩
      have hst := hj1277.2
      exact go_un 42 rfl f42 (kS hj1277 rfl)
    · rintro ρ1278 w1279 hj1280 ⟨f49, f42, _⟩
      have hst := hj1280.2
      exact go_un 42 rfl f42 (kS hj1280 rfl)
    · rintro ρ1281 w1282 hj1283 ⟨f48, f50, f42, _⟩
      have hst := hj1283.2
      exact go_un 42 rfl f42 (kS hj1283 rfl)
    · rintro ρ1284 w1285 hj1286 ⟨f51, f42, _⟩
      have hst := hj1286.2
      exact go_un 42 rfl f42 (kS hj1286 rfl)
    · rintro ρ1287 w1288 hj1289 ⟨f52, f42, _⟩
      have hst := hj1289.2
      exact go_un 42 rfl f42 (kS hj1289 rfl)
    · rintro ρ1290 w1291 hj1292 ⟨f47, f53, f42, _⟩
      have hst := hj1292.2
      exact go_un 42 rfl f42 (kS hj1292 rfl)
    · rintro ρ1293 w1294 hj1295 ⟨f42, f54, f39, _⟩
      have hst := hj1295.2
      exact go_no 39 rfl f39 (kS hj1295 rfl)
    · rintro ρ1296 w1297 hj1298 ⟨f39, f55, _⟩
      have hst := hj1298.2
      exact go_plain (op_pick_t (.bool true) f39 rfl (kS hj1298 rfl))
    intro ρ1299 w1300 hbw1300 hst hRw1300 hkw1300
    have uw1300_0 : ρ1299 0 = v_l := (hkw1300 0 rfl).trans q617_0
    have uw1300_1 : ρ1299 1 = (.int .i64 k) := (hkw1300 1 rfl).trans q617_1
    have uw1300_5 : ρ1299 5 = (.int .i64 (i : Int)) := (hkw1300 5 rfl).trans q617_5
    have uw1300_12 : ρ1299 12 = (.int .i64 (i : Int)) := (hkw1300 12 rfl).trans rfl
    have uw1300_13 : ρ1299 13 = v_l := (hkw1300 13 rfl).trans rfl
    have uw1300_14 : ρ1299 14 = (.int .i64 (l.length : Int)) := (hkw1300 14 rfl).trans rfl
    have uw1300_15 : ρ1299 15 = (.bool (decide ((i : Int) < (l.length : Int)))) := (hkw1300 15 rfl).trans rfl
    have uw1300_56 : ρ1299 56 = (.bool true) := hRw1300 38 56 rfl
    refine then_n ?_
    refine cE_cond true uw1300_56 (fun _ => ?_) (fun h => by cases h)
    refine cE_seq ?_
    refine cE_region rfl ?_
    refine s_cons (op_assign (.bool false) rfl ?_)
    refine s_nil ?_
    refine then_n ?_
    refine cE_ret ?_
    refine block_r (then_r (then_r (block_r (then_r ?_))))
    refine post_r _ (res1 (v := (.bool false)) rfl) ?_
    exact ⟨(retv1 (congrArg Value.bool (show false = (alignedA l k) from by first | (unfold alignedA; rw [coarse_no (by omega)]; rfl) | exact (hI.trans (ra_no (by omega) (Or.inl (by assumption)))).symm | exact (hI.trans (ra_no (by omega) (Or.inr (Or.inl (by assumption))))).symm | exact (hI.trans (ra_no (by omega) (Or.inr (Or.inr (by rw [lastF_pred (by omega) (by omega)]; assumption))))).symm | exact (hI.trans (aligns_end (by omega))).symm))), hst.bare⟩
  have c1301 : ¬ ((i : Int) < (l.length : Int)) := of_decide_eq_false b621
  refine cE_cond false (congrArg Value.bool b621) (fun h => by cases h) (fun _ => ?_)
  refine cE_exit ?_
  refine then_x (then_x (block_hit (then_n ?_)))
  refine cE_seq ?_
  refine cE_region rfl ?_
  refine s_cons (op_assign (.bool true) rfl ?_)
  refine s_nil ?_
  refine then_n ?_
  refine cE_ret ?_
  refine post_r _ (res1 (v := (.bool true)) rfl) ?_
  exact ⟨(retv1 (congrArg Value.bool (show true = (alignedA l k) from by first | (unfold alignedA; rw [coarse_no (by omega)]; rfl) | exact (hI.trans (ra_no (by omega) (Or.inl (by assumption)))).symm | exact (hI.trans (ra_no (by omega) (Or.inr (Or.inl (by assumption))))).symm | exact (hI.trans (ra_no (by omega) (Or.inr (Or.inr (by rw [lastF_pred (by omega) (by omega)]; assumption))))).symm | exact (hI.trans (aligns_end (by omega))).symm))), hst.bare⟩

end Go.Proofs.Ytpamjfbdgaamoaa
