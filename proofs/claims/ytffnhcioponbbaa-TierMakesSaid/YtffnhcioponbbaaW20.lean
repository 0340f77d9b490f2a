/- the reference: twinkeepref1.MayAgg -/
import Derived.Test.YtffnhcioponbbaaTR
import Derived.Test.YtffnhcioponbbaaT
namespace Go.Proofs.Ytffnhcioponbbaa
open Go.RowKit

set_option maxHeartbeats 4000000 in
theorem c_rMay (w0 : World) (a : Agg) :
    Calls Try.prog 38 #[(.agg #[(.int .i64 a.From), (.int .i64 a.Count), (.int .i64 a.Sum), (.int .i64 a.Min), (.int .i64 a.Max), (.int .i64 a.First), (.int .i64 a.Last)])] w0 fun e w' => e = .returned (.bool (mayA a)) ∧ St w0 w' [] := by
  refine calls_E (n := 73) (ts := [2]) Try.func38 rfl rfl rfl (by simp) ?_
  have hst := St.start w0
  refine cE_seq ?_
  refine cE_region rfl ?_
  refine s_cons (op_box (v := (.agg #[(.int .i64 a.From), (.int .i64 a.Count), (.int .i64 a.Sum), (.int .i64 a.Min), (.int .i64 a.Max), (.int .i64 a.First), (.int .i64 a.Last)])) (cs := #[(.int .i64 a.From), (.int .i64 a.Count), (.int .i64 a.Sum), (.int .i64 a.Min), (.int .i64 a.Max), (.int .i64 a.First), (.int .i64 a.Last)]) hst rfl rfl (fun g1 w2 hst _ => ?_))
  replace hst : St w0 w2 [.blk g1 26 #[(.int .i64 a.From), (.int .i64 a.Count), (.int .i64 a.Sum), (.int .i64 a.Min), (.int .i64 a.Max), (.int .i64 a.First), (.int .i64 a.Last)]] := hst
  refine s_cons (op_assign (.bool false) rfl ?_)
  refine s_nil ?_
  refine then_n ?_
  refine cE_seq ?_
  refine cE_seq ?_
  refine cE_region rfl ?_
  refine s_cons (op_fieldAddr (s := 0) Try.underlying26 rfl rfl Try.sizeOf2 rfl ?_)
  refine s_cons (op_load1 (u := (.int .i64 a.Count)) Try.isAgg2 rfl ((hst.cell 0 rfl).drop 1) ?_)
  refine s_cons (op_lss (k := .i64) (a := a.Count) (b := 1) rfl rfl ?_)
  refine s_cons (op_move (.bool (decide (a.Count < 1))) rfl ?_)
  rcases Bool.eq_false_or_eq_true (decide (a.Count < 1)) with b3 | b3
  · have c4 : a.Count < 1 := of_decide_eq_true b3
    refine s_no 6 rfl (congrArg Value.bool b3) ?_
    refine s_no 6 rfl (congrArg Value.bool b3) ?_
    refine s_no 6 rfl (congrArg Value.bool b3) ?_
    refine s_cons (op_pick_t (.bool true) (congrArg Value.bool b3) rfl ?_)
    refine s_cons (op_move (.bool true) rfl ?_)
    refine s_no 11 rfl rfl ?_
    refine s_no 11 rfl rfl ?_
    refine s_no 11 rfl rfl ?_
    refine s_cons (op_pick_t (.bool true) rfl rfl ?_)
    refine s_cons (op_move (.bool true) rfl ?_)
    refine s_no 16 rfl rfl ?_
    refine s_no 16 rfl rfl ?_
    refine s_no 16 rfl rfl ?_
    refine s_cons (op_pick_t (.bool true) rfl rfl ?_)
    refine s_cons (op_move (.bool true) rfl ?_)
    refine s_no 21 rfl rfl ?_
    refine s_no 21 rfl rfl ?_
    refine s_no 21 rfl rfl ?_
    refine s_no 21 rfl rfl ?_
    refine s_no 21 rfl rfl ?_
    refine s_cons (op_pick_t (.bool true) rfl rfl ?_)
    refine s_cons (op_move (.bool true) rfl ?_)
    refine s_no 28 rfl rfl ?_
    refine s_no 28 rfl rfl ?_
    refine s_no 28 rfl rfl ?_
    refine s_no 28 rfl rfl ?_
    refine s_no 28 rfl rfl ?_
    refine s_cons (op_pick_t (.bool true) rfl rfl ?_)
    refine s_cons (op_move (.bool true) rfl ?_)
    refine s_no 35 rfl rfl ?_
    refine s_no 35 rfl rfl ?_
    refine s_no 35 rfl rfl ?_
    refine s_no 35 rfl rfl ?_
    refine s_no 35 rfl rfl ?_
    refine s_cons (op_pick_t (.bool true) rfl rfl ?_)
    refine s_cons (op_move (.bool true) rfl ?_)
    refine s_no 42 rfl rfl ?_
    refine s_no 42 rfl rfl ?_
    refine s_no 42 rfl rfl ?_
    refine s_no 42 rfl rfl ?_
    refine s_no 42 rfl rfl ?_
    refine s_cons (op_pick_t (.bool true) rfl rfl ?_)
    refine s_cons (op_move (.bool true) rfl ?_)
    refine s_no 49 rfl rfl ?_
    refine s_no 49 rfl rfl ?_
    refine s_no 49 rfl rfl ?_
    refine s_no 49 rfl rfl ?_
    refine s_no 49 rfl rfl ?_
    refine s_cons (op_pick_t (.bool true) rfl rfl ?_)
    refine s_nil ?_
    refine then_n ?_
    refine cE_cond true rfl (fun _ => ?_) (fun h => by cases h)
    refine cE_seq ?_
    refine cE_region rfl ?_
    refine s_cons (op_assign (.bool false) rfl ?_)
    refine s_nil ?_
    refine then_n ?_
    refine cE_ret ?_
    refine then_r ?_
    refine post_r _ (res1 (v := (.bool false)) rfl) ?_
    exact ⟨(retv1 (congrArg Value.bool (show false = (mayA a) from by (rw [Bool.eq_iff_iff]; simp only [mayA, mayP, i64R, addB, agg_iff, true_and, and_true, decide_eq_true_eq, Bool.false_eq_true, true_iff, false_iff]; omega)))), hst.bare⟩
  · have c5 : ¬ (a.Count < 1) := of_decide_eq_false b3
    refine s_yes 6 rfl (congrArg Value.bool b3) (op_fieldAddr (s := 0) Try.underlying26 rfl rfl Try.sizeOf2 rfl ?_)
    refine s_yes 6 rfl (congrArg Value.bool b3) (op_load1 (u := (.int .i64 a.Count)) Try.isAgg2 rfl ((hst.cell 0 rfl).drop 1) ?_)
    refine s_yes 6 rfl (congrArg Value.bool b3) (op_gtr (k := .i64) (a := a.Count) (b := 1099511627776) rfl rfl ?_)
    refine s_cons (op_pick_f (.bool (decide (1099511627776 < a.Count))) (congrArg Value.bool b3) rfl ?_)
    refine s_cons (op_move (.bool (decide (1099511627776 < a.Count))) rfl ?_)
    rcases Bool.eq_false_or_eq_true (decide (1099511627776 < a.Count)) with b6 | b6
    · have c7 : 1099511627776 < a.Count := of_decide_eq_true b6
      refine s_no 11 rfl (congrArg Value.bool b6) ?_
      refine s_no 11 rfl (congrArg Value.bool b6) ?_
      refine s_no 11 rfl (congrArg Value.bool b6) ?_
      refine s_cons (op_pick_t (.bool true) (congrArg Value.bool b6) rfl ?_)
      refine s_cons (op_move (.bool true) rfl ?_)
      refine s_no 16 rfl rfl ?_
      refine s_no 16 rfl rfl ?_
      refine s_no 16 rfl rfl ?_
      refine s_cons (op_pick_t (.bool true) rfl rfl ?_)
      refine s_cons (op_move (.bool true) rfl ?_)
      refine s_no 21 rfl rfl ?_
      refine s_no 21 rfl rfl ?_
      refine s_no 21 rfl rfl ?_
      refine s_no 21 rfl rfl ?_
      refine s_no 21 rfl rfl ?_
      refine s_cons (op_pick_t (.bool true) rfl rfl ?_)
      refine s_cons (op_move (.bool true) rfl ?_)
      refine s_no 28 rfl rfl ?_
      refine s_no 28 rfl rfl ?_
      refine s_no 28 rfl rfl ?_
      refine s_no 28 rfl rfl ?_
      refine s_no 28 rfl rfl ?_
      refine s_cons (op_pick_t (.bool true) rfl rfl ?_)
      refine s_cons (op_move (.bool true) rfl ?_)
      refine s_no 35 rfl rfl ?_
      refine s_no 35 rfl rfl ?_
      refine s_no 35 rfl rfl ?_
      refine s_no 35 rfl rfl ?_
      refine s_no 35 rfl rfl ?_
      refine s_cons (op_pick_t (.bool true) rfl rfl ?_)
      refine s_cons (op_move (.bool true) rfl ?_)
      refine s_no 42 rfl rfl ?_
      refine s_no 42 rfl rfl ?_
      refine s_no 42 rfl rfl ?_
      refine s_no 42 rfl rfl ?_
      refine s_no 42 rfl rfl ?_
      refine s_cons (op_pick_t (.bool true) rfl rfl ?_)
      refine s_cons (op_move (.bool true) rfl ?_)
      refine s_no 49 rfl rfl ?_
      refine s_no 49 rfl rfl ?_
      refine s_no 49 rfl rfl ?_
      refine s_no 49 rfl rfl ?_
      refine s_no 49 rfl rfl ?_
      refine s_cons (op_pick_t (.bool true) rfl rfl ?_)
      refine s_nil ?_
      refine then_n ?_
      refine cE_cond true rfl (fun _ => ?_) (fun h => by cases h)
      refine cE_seq ?_
      refine cE_region rfl ?_
      refine s_cons (op_assign (.bool false) rfl ?_)
      refine s_nil ?_
      refine then_n ?_
      refine cE_ret ?_
      refine then_r ?_
      refine post_r _ (res1 (v := (.bool false)) rfl) ?_
      exact ⟨(retv1 (congrArg Value.bool (show false = (mayA a) from by (rw [Bool.eq_iff_iff]; simp only [mayA, mayP, i64R, addB, agg_iff, true_and, and_true, decide_eq_true_eq, Bool.false_eq_true, true_iff, false_iff]; omega)))), hst.bare⟩
    · have c8 : ¬ (1099511627776 < a.Count) := of_decide_eq_false b6
      refine s_yes 11 rfl (congrArg Value.bool b6) (op_fieldAddr (s := 0) Try.underlying26 rfl rfl Try.sizeOf2 rfl ?_)
      refine s_yes 11 rfl (congrArg Value.bool b6) (op_load1 (u := (.int .i64 a.From)) Try.isAgg2 rfl (hst.cell 0 rfl) ?_)
      refine s_yes 11 rfl (congrArg Value.bool b6) (op_lss (k := .i64) (a := a.From) (b := 0) rfl rfl ?_)
      refine s_cons (op_pick_f (.bool (decide (a.From < 0))) (congrArg Value.bool b6) rfl ?_)
      refine s_cons (op_move (.bool (decide (a.From < 0))) rfl ?_)
      rcases Bool.eq_false_or_eq_true (decide (a.From < 0)) with b9 | b9
      · have c10 : a.From < 0 := of_decide_eq_true b9
        refine s_no 16 rfl (congrArg Value.bool b9) ?_
        refine s_no 16 rfl (congrArg Value.bool b9) ?_
        refine s_no 16 rfl (congrArg Value.bool b9) ?_
        refine s_cons (op_pick_t (.bool true) (congrArg Value.bool b9) rfl ?_)
        refine s_cons (op_move (.bool true) rfl ?_)
        refine s_no 21 rfl rfl ?_
        refine s_no 21 rfl rfl ?_
        refine s_no 21 rfl rfl ?_
        refine s_no 21 rfl rfl ?_
        refine s_no 21 rfl rfl ?_
        refine s_cons (op_pick_t (.bool true) rfl rfl ?_)
        refine s_cons (op_move (.bool true) rfl ?_)
        refine s_no 28 rfl rfl ?_
        refine s_no 28 rfl rfl ?_
        refine s_no 28 rfl rfl ?_
        refine s_no 28 rfl rfl ?_
        refine s_no 28 rfl rfl ?_
        refine s_cons (op_pick_t (.bool true) rfl rfl ?_)
        refine s_cons (op_move (.bool true) rfl ?_)
        refine s_no 35 rfl rfl ?_
        refine s_no 35 rfl rfl ?_
        refine s_no 35 rfl rfl ?_
        refine s_no 35 rfl rfl ?_
        refine s_no 35 rfl rfl ?_
        refine s_cons (op_pick_t (.bool true) rfl rfl ?_)
        refine s_cons (op_move (.bool true) rfl ?_)
        refine s_no 42 rfl rfl ?_
        refine s_no 42 rfl rfl ?_
        refine s_no 42 rfl rfl ?_
        refine s_no 42 rfl rfl ?_
        refine s_no 42 rfl rfl ?_
        refine s_cons (op_pick_t (.bool true) rfl rfl ?_)
        refine s_cons (op_move (.bool true) rfl ?_)
        refine s_no 49 rfl rfl ?_
        refine s_no 49 rfl rfl ?_
        refine s_no 49 rfl rfl ?_
        refine s_no 49 rfl rfl ?_
        refine s_no 49 rfl rfl ?_
        refine s_cons (op_pick_t (.bool true) rfl rfl ?_)
        refine s_nil ?_
        refine then_n ?_
        refine cE_cond true rfl (fun _ => ?_) (fun h => by cases h)
        refine cE_seq ?_
        refine cE_region rfl ?_
        refine s_cons (op_assign (.bool false) rfl ?_)
        refine s_nil ?_
        refine then_n ?_
        refine cE_ret ?_
        refine then_r ?_
        refine post_r _ (res1 (v := (.bool false)) rfl) ?_
        exact ⟨(retv1 (congrArg Value.bool (show false = (mayA a) from by (rw [Bool.eq_iff_iff]; simp only [mayA, mayP, i64R, addB, agg_iff, true_and, and_true, decide_eq_true_eq, Bool.false_eq_true, true_iff, false_iff]; omega)))), hst.bare⟩
      · have c11 : ¬ (a.From < 0) := of_decide_eq_false b9
        refine s_yes 16 rfl (congrArg Value.bool b9) (op_fieldAddr (s := 0) Try.underlying26 rfl rfl Try.sizeOf2 rfl ?_)
        refine s_yes 16 rfl (congrArg Value.bool b9) (op_load1 (u := (.int .i64 a.From)) Try.isAgg2 rfl (hst.cell 0 rfl) ?_)
        refine s_yes 16 rfl (congrArg Value.bool b9) (op_gtr (k := .i64) (a := a.From) (b := 1099511627776) rfl rfl ?_)
        refine s_cons (op_pick_f (.bool (decide (1099511627776 < a.From))) (congrArg Value.bool b9) rfl ?_)
        refine s_cons (op_move (.bool (decide (1099511627776 < a.From))) rfl ?_)
        rcases Bool.eq_false_or_eq_true (decide (1099511627776 < a.From)) with b12 | b12
        · have c13 : 1099511627776 < a.From := of_decide_eq_true b12
          refine s_no 21 rfl (congrArg Value.bool b12) ?_
          refine s_no 21 rfl (congrArg Value.bool b12) ?_
          refine s_no 21 rfl (congrArg Value.bool b12) ?_
          refine s_no 21 rfl (congrArg Value.bool b12) ?_
          refine s_no 21 rfl (congrArg Value.bool b12) ?_
          refine s_cons (op_pick_t (.bool true) (congrArg Value.bool b12) rfl ?_)
          refine s_cons (op_move (.bool true) rfl ?_)
          refine s_no 28 rfl rfl ?_
          refine s_no 28 rfl rfl ?_
          refine s_no 28 rfl rfl ?_
          refine s_no 28 rfl rfl ?_
          refine s_no 28 rfl rfl ?_
          refine s_cons (op_pick_t (.bool true) rfl rfl ?_)
          refine s_cons (op_move (.bool true) rfl ?_)
          refine s_no 35 rfl rfl ?_
          refine s_no 35 rfl rfl ?_
          refine s_no 35 rfl rfl ?_
          refine s_no 35 rfl rfl ?_
          refine s_no 35 rfl rfl ?_
          refine s_cons (op_pick_t (.bool true) rfl rfl ?_)
          refine s_cons (op_move (.bool true) rfl ?_)
          refine s_no 42 rfl rfl ?_
          refine s_no 42 rfl rfl ?_
          refine s_no 42 rfl rfl ?_
          refine s_no 42 rfl rfl ?_
          refine s_no 42 rfl rfl ?_
          refine s_cons (op_pick_t (.bool true) rfl rfl ?_)
          refine s_cons (op_move (.bool true) rfl ?_)
          refine s_no 49 rfl rfl ?_
          refine s_no 49 rfl rfl ?_
          refine s_no 49 rfl rfl ?_
          refine s_no 49 rfl rfl ?_
          refine s_no 49 rfl rfl ?_
          refine s_cons (op_pick_t (.bool true) rfl rfl ?_)
          refine s_nil ?_
          refine then_n ?_
          refine cE_cond true rfl (fun _ => ?_) (fun h => by cases h)
          refine cE_seq ?_
          refine cE_region rfl ?_
          refine s_cons (op_assign (.bool false) rfl ?_)
          refine s_nil ?_
          refine then_n ?_
          refine cE_ret ?_
          refine then_r ?_
          refine post_r _ (res1 (v := (.bool false)) rfl) ?_
          exact ⟨(retv1 (congrArg Value.bool (show false = (mayA a) from by (rw [Bool.eq_iff_iff]; simp only [mayA, mayP, i64R, addB, agg_iff, true_and, and_true, decide_eq_true_eq, Bool.false_eq_true, true_iff, false_iff]; omega)))), hst.bare⟩
        · have c14 : ¬ (1099511627776 < a.From) := of_decide_eq_false b12
          refine s_yes 21 rfl (congrArg Value.bool b12) (op_fieldAddr (s := 0) Try.underlying26 rfl rfl Try.sizeOf2 rfl ?_)
          refine s_yes 21 rfl (congrArg Value.bool b12) (op_load1 (u := (.int .i64 a.Min)) Try.isAgg2 rfl ((hst.cell 0 rfl).drop 3) ?_)
          refine s_yes 21 rfl (congrArg Value.bool b12) (op_fieldAddr (s := 0) Try.underlying26 rfl rfl Try.sizeOf2 rfl ?_)
          refine s_yes 21 rfl (congrArg Value.bool b12) (op_load1 (u := (.int .i64 a.First)) Try.isAgg2 rfl ((hst.cell 0 rfl).drop 5) ?_)
          refine s_yes 21 rfl (congrArg Value.bool b12) (op_gtr (k := .i64) (a := a.Min) (b := a.First) rfl rfl ?_)
          refine s_cons (op_pick_f (.bool (decide (a.First < a.Min))) (congrArg Value.bool b12) rfl ?_)
          refine s_cons (op_move (.bool (decide (a.First < a.Min))) rfl ?_)
          rcases Bool.eq_false_or_eq_true (decide (a.First < a.Min)) with b15 | b15
          · have c16 : a.First < a.Min := of_decide_eq_true b15
            refine s_no 28 rfl (congrArg Value.bool b15) ?_
            refine s_no 28 rfl (congrArg Value.bool b15) ?_
            refine s_no 28 rfl (congrArg Value.bool b15) ?_
            refine s_no 28 rfl (congrArg Value.bool b15) ?_
            refine s_no 28 rfl (congrArg Value.bool b15) ?_
            refine s_cons (op_pick_t (.bool true) (congrArg Value.bool b15) rfl ?_)
            refine s_cons (op_move (.bool true) rfl ?_)
            refine s_no 35 rfl rfl ?_
            refine s_no 35 rfl rfl ?_
            refine s_no 35 rfl rfl ?_
            refine s_no 35 rfl rfl ?_
            refine s_no 35 rfl rfl ?_
            refine s_cons (op_pick_t (.bool true) rfl rfl ?_)
            refine s_cons (op_move (.bool true) rfl ?_)
            refine s_no 42 rfl rfl ?_
            refine s_no 42 rfl rfl ?_
            refine s_no 42 rfl rfl ?_
            refine s_no 42 rfl rfl ?_
            refine s_no 42 rfl rfl ?_
            refine s_cons (op_pick_t (.bool true) rfl rfl ?_)
            refine s_cons (op_move (.bool true) rfl ?_)
            refine s_no 49 rfl rfl ?_
            refine s_no 49 rfl rfl ?_
            refine s_no 49 rfl rfl ?_
            refine s_no 49 rfl rfl ?_
            refine s_no 49 rfl rfl ?_
            refine s_cons (op_pick_t (.bool true) rfl rfl ?_)
            refine s_nil ?_
            refine then_n ?_
            refine cE_cond true rfl (fun _ => ?_) (fun h => by cases h)
            refine cE_seq ?_
            refine cE_region rfl ?_
            refine s_cons (op_assign (.bool false) rfl ?_)
            refine s_nil ?_
            refine then_n ?_
            refine cE_ret ?_
            refine then_r ?_
            refine post_r _ (res1 (v := (.bool false)) rfl) ?_
            exact ⟨(retv1 (congrArg Value.bool (show false = (mayA a) from by (rw [Bool.eq_iff_iff]; simp only [mayA, mayP, i64R, addB, agg_iff, true_and, and_true, decide_eq_true_eq, Bool.false_eq_true, true_iff, false_iff]; omega)))), hst.bare⟩
          · have c17 : ¬ (a.First < a.Min) := of_decide_eq_false b15
            refine s_yes 28 rfl (congrArg Value.bool b15) (op_fieldAddr (s := 0) Try.underlying26 rfl rfl Try.sizeOf2 rfl ?_)
            refine s_yes 28 rfl (congrArg Value.bool b15) (op_load1 (u := (.int .i64 a.Min)) Try.isAgg2 rfl ((hst.cell 0 rfl).drop 3) ?_)
            refine s_yes 28 rfl (congrArg Value.bool b15) (op_fieldAddr (s := 0) Try.underlying26 rfl rfl Try.sizeOf2 rfl ?_)
            refine s_yes 28 rfl (congrArg Value.bool b15) (op_load1 (u := (.int .i64 a.Last)) Try.isAgg2 rfl ((hst.cell 0 rfl).drop 6) ?_)
            refine s_yes 28 rfl (congrArg Value.bool b15) (op_gtr (k := .i64) (a := a.Min) (b := a.Last) rfl rfl ?_)
            refine s_cons (op_pick_f (.bool (decide (a.Last < a.Min))) (congrArg Value.bool b15) rfl ?_)
            refine s_cons (op_move (.bool (decide (a.Last < a.Min))) rfl ?_)
            rcases Bool.eq_false_or_eq_true (decide (a.Last < a.Min)) with b18 | b18
            · have c19 : a.Last < a.Min := of_decide_eq_true b18
              refine s_no 35 rfl (congrArg Value.bool b18) ?_
              refine s_no 35 rfl (congrArg Value.bool b18) ?_
              refine s_no 35 rfl (congrArg Value.bool b18) ?_
              refine s_no 35 rfl (congrArg Value.bool b18) ?_
              refine s_no 35 rfl (congrArg Value.bool b18) ?_
              refine s_cons (op_pick_t (.bool true) (congrArg Value.bool b18) rfl ?_)
              refine s_cons (op_move (.bool true) rfl ?_)
              refine s_no 42 rfl rfl ?_
              refine s_no 42 rfl rfl ?_
              refine s_no 42 rfl rfl ?_
              refine s_no 42 rfl rfl ?_
              refine s_no 42 rfl rfl ?_
              refine s_cons (op_pick_t (.bool true) rfl rfl ?_)
              refine s_cons (op_move (.bool true) rfl ?_)
              refine s_no 49 rfl rfl ?_
              refine s_no 49 rfl rfl ?_
              refine s_no 49 rfl rfl ?_
              refine s_no 49 rfl rfl ?_
              refine s_no 49 rfl rfl ?_
              refine s_cons (op_pick_t (.bool true) rfl rfl ?_)
              refine s_nil ?_
              refine then_n ?_
              refine cE_cond true rfl (fun _ => ?_) (fun h => by cases h)
              refine cE_seq ?_
              refine cE_region rfl ?_
              refine s_cons (op_assign (.bool false) rfl ?_)
              refine s_nil ?_
              refine then_n ?_
              refine cE_ret ?_
              refine then_r ?_
              refine post_r _ (res1 (v := (.bool false)) rfl) ?_
              exact ⟨(retv1 (congrArg Value.bool (show false = (mayA a) from by (rw [Bool.eq_iff_iff]; simp only [mayA, mayP, i64R, addB, agg_iff, true_and, and_true, decide_eq_true_eq, Bool.false_eq_true, true_iff, false_iff]; omega)))), hst.bare⟩
            · have c20 : ¬ (a.Last < a.Min) := of_decide_eq_false b18
              refine s_yes 35 rfl (congrArg Value.bool b18) (op_fieldAddr (s := 0) Try.underlying26 rfl rfl Try.sizeOf2 rfl ?_)
              refine s_yes 35 rfl (congrArg Value.bool b18) (op_load1 (u := (.int .i64 a.Min)) Try.isAgg2 rfl ((hst.cell 0 rfl).drop 3) ?_)
              refine s_yes 35 rfl (congrArg Value.bool b18) (op_fieldAddr (s := 0) Try.underlying26 rfl rfl Try.sizeOf2 rfl ?_)
              refine s_yes 35 rfl (congrArg Value.bool b18) (op_load1 (u := (.int .i64 a.Max)) Try.isAgg2 rfl ((hst.cell 0 rfl).drop 4) ?_)
              refine s_yes 35 rfl (congrArg Value.bool b18) (op_gtr (k := .i64) (a := a.Min) (b := a.Max) rfl rfl ?_)
              refine s_cons (op_pick_f (.bool (decide (a.Max < a.Min))) (congrArg Value.bool b18) rfl ?_)
              refine s_cons (op_move (.bool (decide (a.Max < a.Min))) rfl ?_)
              rcases Bool.eq_false_or_eq_true (decide (a.Max < a.Min)) with b21 | b21
              · have c22 : a.Max < a.Min := of_decide_eq_true b21
                refine s_no 42 rfl (congrArg Value.bool b21) ?_
                refine s_no 42 rfl (congrArg Value.bool b21) ?_
                refine s_no 42 rfl (congrArg Value.bool b21) ?_
                refine s_no 42 rfl (congrArg Value.bool b21) ?_
                refine s_no 42 rfl (congrArg Value.bool b21) ?_
                refine s_cons (op_pick_t (.bool true) (congrArg Value.bool b21) rfl ?_)
                refine s_cons (op_move (.bool true) rfl ?_)
                refine s_no 49 rfl rfl ?_
                refine s_no 49 rfl rfl ?_
                refine s_no 49 rfl rfl ?_
                refine s_no 49 rfl rfl ?_
                refine s_no 49 rfl rfl ?_
                refine s_cons (op_pick_t (.bool true) rfl rfl ?_)
                refine s_nil ?_
                refine then_n ?_
                refine cE_cond true rfl (fun _ => ?_) (fun h => by cases h)
                refine cE_seq ?_
                refine cE_region rfl ?_
                refine s_cons (op_assign (.bool false) rfl ?_)
                refine s_nil ?_
                refine then_n ?_
                refine cE_ret ?_
                refine then_r ?_
                refine post_r _ (res1 (v := (.bool false)) rfl) ?_
                exact ⟨(retv1 (congrArg Value.bool (show false = (mayA a) from by (rw [Bool.eq_iff_iff]; simp only [mayA, mayP, i64R, addB, agg_iff, true_and, and_true, decide_eq_true_eq, Bool.false_eq_true, true_iff, false_iff]; omega)))), hst.bare⟩
              · have c23 : ¬ (a.Max < a.Min) := of_decide_eq_false b21
                refine s_yes 42 rfl (congrArg Value.bool b21) (op_fieldAddr (s := 0) Try.underlying26 rfl rfl Try.sizeOf2 rfl ?_)
                refine s_yes 42 rfl (congrArg Value.bool b21) (op_load1 (u := (.int .i64 a.Max)) Try.isAgg2 rfl ((hst.cell 0 rfl).drop 4) ?_)
                refine s_yes 42 rfl (congrArg Value.bool b21) (op_fieldAddr (s := 0) Try.underlying26 rfl rfl Try.sizeOf2 rfl ?_)
                refine s_yes 42 rfl (congrArg Value.bool b21) (op_load1 (u := (.int .i64 a.First)) Try.isAgg2 rfl ((hst.cell 0 rfl).drop 5) ?_)
                refine s_yes 42 rfl (congrArg Value.bool b21) (op_lss (k := .i64) (a := a.Max) (b := a.First) rfl rfl ?_)
                refine s_cons (op_pick_f (.bool (decide (a.Max < a.First))) (congrArg Value.bool b21) rfl ?_)
                refine s_cons (op_move (.bool (decide (a.Max < a.First))) rfl ?_)
                rcases Bool.eq_false_or_eq_true (decide (a.Max < a.First)) with b24 | b24
                · have c25 : a.Max < a.First := of_decide_eq_true b24
                  refine s_no 49 rfl (congrArg Value.bool b24) ?_
                  refine s_no 49 rfl (congrArg Value.bool b24) ?_
                  refine s_no 49 rfl (congrArg Value.bool b24) ?_
                  refine s_no 49 rfl (congrArg Value.bool b24) ?_
                  refine s_no 49 rfl (congrArg Value.bool b24) ?_
                  refine s_cons (op_pick_t (.bool true) (congrArg Value.bool b24) rfl ?_)
                  refine s_nil ?_
                  refine then_n ?_
                  refine cE_cond true rfl (fun _ => ?_) (fun h => by cases h)
                  refine cE_seq ?_
                  refine cE_region rfl ?_
                  refine s_cons (op_assign (.bool false) rfl ?_)
                  refine s_nil ?_
                  refine then_n ?_
                  refine cE_ret ?_
                  refine then_r ?_
                  refine post_r _ (res1 (v := (.bool false)) rfl) ?_
                  exact ⟨(retv1 (congrArg Value.bool (show false = (mayA a) from by (rw [Bool.eq_iff_iff]; simp only [mayA, mayP, i64R, addB, agg_iff, true_and, and_true, decide_eq_true_eq, Bool.false_eq_true, true_iff, false_iff]; omega)))), hst.bare⟩
                · have c26 : ¬ (a.Max < a.First) := of_decide_eq_false b24
                  refine s_yes 49 rfl (congrArg Value.bool b24) (op_fieldAddr (s := 0) Try.underlying26 rfl rfl Try.sizeOf2 rfl ?_)
                  refine s_yes 49 rfl (congrArg Value.bool b24) (op_load1 (u := (.int .i64 a.Max)) Try.isAgg2 rfl ((hst.cell 0 rfl).drop 4) ?_)
                  refine s_yes 49 rfl (congrArg Value.bool b24) (op_fieldAddr (s := 0) Try.underlying26 rfl rfl Try.sizeOf2 rfl ?_)
                  refine s_yes 49 rfl (congrArg Value.bool b24) (op_load1 (u := (.int .i64 a.Last)) Try.isAgg2 rfl ((hst.cell 0 rfl).drop 6) ?_)
                  refine s_yes 49 rfl (congrArg Value.bool b24) (op_lss (k := .i64) (a := a.Max) (b := a.Last) rfl rfl ?_)
                  refine s_cons (op_pick_f (.bool (decide (a.Max < a.Last))) (congrArg Value.bool b24) rfl ?_)
                  refine s_nil ?_
                  refine then_n ?_
                  rcases Bool.eq_false_or_eq_true (decide (a.Max < a.Last)) with b27 | b27
                  · have c28 : a.Max < a.Last := of_decide_eq_true b27
                    refine cE_cond true (congrArg Value.bool b27) (fun _ => ?_) (fun h => by cases h)
                    refine cE_seq ?_
                    refine cE_region rfl ?_
                    refine s_cons (op_assign (.bool false) rfl ?_)
                    refine s_nil ?_
                    refine then_n ?_
                    refine cE_ret ?_
                    refine then_r ?_
                    refine post_r _ (res1 (v := (.bool false)) rfl) ?_
                    exact ⟨(retv1 (congrArg Value.bool (show false = (mayA a) from by (rw [Bool.eq_iff_iff]; simp only [mayA, mayP, i64R, addB, agg_iff, true_and, and_true, decide_eq_true_eq, Bool.false_eq_true, true_iff, false_iff]; omega)))), hst.bare⟩
                  · have c29 : ¬ (a.Max < a.Last) := of_decide_eq_false b27
                    refine cE_cond false (congrArg Value.bool b27) (fun h => by cases h) (fun _ => ?_)
                    refine cE_skip ?_
                    refine then_n ?_
                    refine cE_seq ?_
                    refine cE_region rfl ?_
                    refine s_cons (op_fieldAddr (s := 0) Try.underlying26 rfl rfl Try.sizeOf2 rfl ?_)
                    refine s_cons (op_load1 (u := (.int .i64 a.Count)) Try.isAgg2 rfl ((hst.cell 0 rfl).drop 1) ?_)
                    refine s_cons (op_gtr (k := .i64) (a := a.Count) (b := 1) rfl rfl ?_)
                    refine s_cons (op_move (.bool (decide (1 < a.Count))) rfl ?_)
                    rcases Bool.eq_false_or_eq_true (decide (1 < a.Count)) with b30 | b30
                    · have c31 : 1 < a.Count := of_decide_eq_true b30
                      refine s_no 59 rfl (congrArg Value.bool b30) ?_
                      refine s_no 59 rfl (congrArg Value.bool b30) ?_
                      refine s_no 59 rfl (congrArg Value.bool b30) ?_
                      refine s_no 59 rfl (congrArg Value.bool b30) ?_
                      refine s_no 59 rfl (congrArg Value.bool b30) ?_
                      refine s_no 59 rfl (congrArg Value.bool b30) ?_
                      refine s_un 65 rfl rfl ?_
                      refine s_un 65 rfl rfl ?_
                      refine s_un 65 rfl rfl ?_
                      refine s_un 65 rfl rfl ?_
                      refine s_un 65 rfl rfl ?_
                      refine s_no 59 rfl (congrArg Value.bool b30) ?_
                      refine s_cons (op_pick_t (.bool true) (congrArg Value.bool b30) rfl ?_)
                      refine s_cons (op_assign (.bool true) rfl ?_)
                      refine s_nil ?_
                      refine then_n ?_
                      refine cE_ret ?_
                      refine post_r _ (res1 (v := (.bool true)) rfl) ?_
                      exact ⟨(retv1 (congrArg Value.bool (show true = (mayA a) from by (rw [Bool.eq_iff_iff]; simp only [mayA, mayP, i64R, addB, agg_iff, true_and, and_true, decide_eq_true_eq, Bool.false_eq_true, true_iff, false_iff]; omega)))), hst.bare⟩
                    · have c32 : ¬ (1 < a.Count) := of_decide_eq_false b30
                      refine s_yes 59 rfl (congrArg Value.bool b30) (op_fieldAddr (s := 0) Try.underlying26 rfl rfl Try.sizeOf2 rfl ?_)
                      refine s_yes 59 rfl (congrArg Value.bool b30) (op_load1 (u := (.int .i64 a.Sum)) Try.isAgg2 rfl ((hst.cell 0 rfl).drop 2) ?_)
                      refine s_yes 59 rfl (congrArg Value.bool b30) (op_fieldAddr (s := 0) Try.underlying26 rfl rfl Try.sizeOf2 rfl ?_)
                      refine s_yes 59 rfl (congrArg Value.bool b30) (op_load1 (u := (.int .i64 a.Min)) Try.isAgg2 rfl ((hst.cell 0 rfl).drop 3) ?_)
                      refine s_yes 59 rfl (congrArg Value.bool b30) (op_eql (k := .i64) (a := a.Sum) (b := a.Min) rfl rfl ?_)
                      refine s_yes 59 rfl (congrArg Value.bool b30) (op_move (.bool (decide (a.Sum = a.Min))) rfl ?_)
                      rcases Bool.eq_false_or_eq_true (decide (a.Sum = a.Min)) with b33 | b33
                      · have c34 : a.Sum = a.Min := of_decide_eq_true b33
                        refine s_yes 65 rfl (congrArg Value.bool b33) (op_fieldAddr (s := 0) Try.underlying26 rfl rfl Try.sizeOf2 rfl ?_)
                        refine s_yes 65 rfl (congrArg Value.bool b33) (op_load1 (u := (.int .i64 a.Min)) Try.isAgg2 rfl ((hst.cell 0 rfl).drop 3) ?_)
                        refine s_yes 65 rfl (congrArg Value.bool b33) (op_fieldAddr (s := 0) Try.underlying26 rfl rfl Try.sizeOf2 rfl ?_)
                        refine s_yes 65 rfl (congrArg Value.bool b33) (op_load1 (u := (.int .i64 a.Max)) Try.isAgg2 rfl ((hst.cell 0 rfl).drop 4) ?_)
                        refine s_yes 65 rfl (congrArg Value.bool b33) (op_eql (k := .i64) (a := a.Min) (b := a.Max) rfl rfl ?_)
                        refine s_yes 59 rfl (congrArg Value.bool b30) (op_pick_t (.bool (decide (a.Min = a.Max))) (congrArg Value.bool b33) rfl ?_)
                        refine s_cons (op_pick_f (.bool (decide (a.Min = a.Max))) (congrArg Value.bool b30) rfl ?_)
                        refine s_cons (op_assign (.bool (decide (a.Min = a.Max))) rfl ?_)
                        refine s_nil ?_
                        refine then_n ?_
                        refine cE_ret ?_
                        refine post_r _ (res1 (v := (.bool (decide (a.Min = a.Max)))) rfl) ?_
                        exact ⟨(retv1 (congrArg Value.bool (show (decide (a.Min = a.Max)) = (mayA a) from by (rw [Bool.eq_iff_iff]; simp only [mayA, mayP, i64R, addB, agg_iff, true_and, and_true, decide_eq_true_eq, Bool.false_eq_true, true_iff, false_iff]; omega)))), hst.bare⟩
                      · have c35 : ¬ (a.Sum = a.Min) := of_decide_eq_false b33
                        refine s_no 65 rfl (congrArg Value.bool b33) ?_
                        refine s_no 65 rfl (congrArg Value.bool b33) ?_
                        refine s_no 65 rfl (congrArg Value.bool b33) ?_
                        refine s_no 65 rfl (congrArg Value.bool b33) ?_
                        refine s_no 65 rfl (congrArg Value.bool b33) ?_
                        refine s_yes 59 rfl (congrArg Value.bool b30) (op_pick_f (.bool false) (congrArg Value.bool b33) rfl ?_)
                        refine s_cons (op_pick_f (.bool false) (congrArg Value.bool b30) rfl ?_)
                        refine s_cons (op_assign (.bool false) rfl ?_)
                        refine s_nil ?_
                        refine then_n ?_
                        refine cE_ret ?_
                        refine post_r _ (res1 (v := (.bool false)) rfl) ?_
                        exact ⟨(retv1 (congrArg Value.bool (show false = (mayA a) from by (rw [Bool.eq_iff_iff]; simp only [mayA, mayP, i64R, addB, agg_iff, true_and, and_true, decide_eq_true_eq, Bool.false_eq_true, true_iff, false_iff]; omega)))), hst.bare⟩

end Go.Proofs.Ytffnhcioponbbaa
