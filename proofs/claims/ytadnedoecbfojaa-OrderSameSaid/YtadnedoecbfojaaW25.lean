/- order.Roll$1 -/
import Derived.Test.YtadnedoecbfojaaOX
import Derived.Test.YtadnedoecbfojaaW10
namespace Go.Proofs.Ytadnedoecbfojaa
open Go.RowKit

theorem c_covers {w0 w : World} {L : List Item} (y : Info) (g_x : Nat) (x0 : Int) (x1 : Int) (x2 : Int) (x3 : Int) (x4 : Int) (hx0 : -9223372036854775808 ≤ x1) (hx1 : x1 < 3) (hst : St w0 w (.blk g_x 34 #[(.int .i64 x0), (.int .i64 x1), (.int .i64 x2), (.int .i64 x3), (.int .u32 x4)] :: L)) :
    Calls Try.prog 16 #[(.agg #[(.int .i64 y.Id), (.int .i64 y.Tier), (.int .i64 y.From), (.int .i64 y.To), (.int .u32 y.Sum)]), (.pointer (some ⟨g_x, 0, none⟩))] w fun e w' => e = .returned (.bool (decide (y.Tier = x1 + 1 ∧ y.From = x2 ∧ y.To = x3))) ∧ St w0 w' (.blk g_x 34 #[(.int .i64 x0), (.int .i64 x1), (.int .i64 x2), (.int .i64 x3), (.int .u32 x4)] :: L) := by
  refine calls_E (n := 24) (ts := [3]) Try.func16 rfl rfl rfl (by simp) ?_
  refine cE_seq ?_
  refine cE_region rfl ?_
  refine s_cons (op_box (v := (.agg #[(.int .i64 y.Id), (.int .i64 y.Tier), (.int .i64 y.From), (.int .i64 y.To), (.int .u32 y.Sum)])) (cs := #[(.int .i64 y.Id), (.int .i64 y.Tier), (.int .i64 y.From), (.int .i64 y.To), (.int .u32 y.Sum)]) hst rfl rfl (fun g1 w2 hst _ => ?_))
  replace hst : St w0 w2 (.blk g1 34 #[(.int .i64 y.Id), (.int .i64 y.Tier), (.int .i64 y.From), (.int .i64 y.To), (.int .u32 y.Sum)] :: .blk g_x 34 #[(.int .i64 x0), (.int .i64 x1), (.int .i64 x2), (.int .i64 x3), (.int .u32 x4)] :: L) := hst
  refine s_cons (op_assign (.bool false) rfl ?_)
  refine s_nil ?_
  refine then_n ?_
  refine cE_seq ?_
  refine cE_region rfl ?_
  refine s_cons (op_fieldAddr (s := 0) Try.underlying34 rfl rfl Try.sizeOf3 rfl ?_)
  refine s_cons (op_load1 (u := (.int .i64 y.Tier)) Try.isAgg3 rfl ((hst.cell 0 rfl).drop 1) ?_)
  refine s_cons (op_fieldAddr (s := 0) Try.underlying34 rfl rfl Try.sizeOf3 rfl ?_)
  refine s_cons (op_load1 (u := (.int .i64 x1)) Try.isAgg3 rfl ((hst.cell 1 rfl).drop 1) ?_)
  refine s_cons (op_add (k := .i64) (a := x1) (b := 1) (x1 + 1) rfl rfl (xi64 (by omega) (by omega)) ?_)
  refine s_cons (op_eql (k := .i64) (a := y.Tier) (b := (x1 + 1)) rfl rfl ?_)
  refine s_cons (op_move (.bool (decide (y.Tier = (x1 + 1)))) rfl ?_)
  rcases Bool.eq_false_or_eq_true (decide (y.Tier = (x1 + 1))) with b3 | b3
  · have c4 : y.Tier = (x1 + 1) := of_decide_eq_true b3
    refine s_yes 10 rfl (congrArg Value.bool b3) (op_fieldAddr (s := 0) Try.underlying34 rfl rfl Try.sizeOf2 rfl ?_)
    refine s_yes 10 rfl (congrArg Value.bool b3) (op_load1 (u := (.int .i64 y.From)) Try.isAgg2 rfl ((hst.cell 0 rfl).drop 2) ?_)
    refine s_yes 10 rfl (congrArg Value.bool b3) (op_fieldAddr (s := 0) Try.underlying34 rfl rfl Try.sizeOf2 rfl ?_)
    refine s_yes 10 rfl (congrArg Value.bool b3) (op_load1 (u := (.int .i64 x2)) Try.isAgg2 rfl ((hst.cell 1 rfl).drop 2) ?_)
    refine s_yes 10 rfl (congrArg Value.bool b3) (op_eql (k := .i64) (a := y.From) (b := x2) rfl rfl ?_)
    refine s_cons (op_pick_t (.bool (decide (y.From = x2))) (congrArg Value.bool b3) rfl ?_)
    refine s_cons (op_move (.bool (decide (y.From = x2))) rfl ?_)
    rcases Bool.eq_false_or_eq_true (decide (y.From = x2)) with b5 | b5
    · have c6 : y.From = x2 := of_decide_eq_true b5
      refine s_yes 17 rfl (congrArg Value.bool b5) (op_fieldAddr (s := 0) Try.underlying34 rfl rfl Try.sizeOf2 rfl ?_)
      refine s_yes 17 rfl (congrArg Value.bool b5) (op_load1 (u := (.int .i64 y.To)) Try.isAgg2 rfl ((hst.cell 0 rfl).drop 3) ?_)
      refine s_yes 17 rfl (congrArg Value.bool b5) (op_fieldAddr (s := 0) Try.underlying34 rfl rfl Try.sizeOf2 rfl ?_)
      refine s_yes 17 rfl (congrArg Value.bool b5) (op_load1 (u := (.int .i64 x3)) Try.isAgg2 rfl ((hst.cell 1 rfl).drop 3) ?_)
      refine s_yes 17 rfl (congrArg Value.bool b5) (op_eql (k := .i64) (a := y.To) (b := x3) rfl rfl ?_)
      refine s_cons (op_pick_t (.bool (decide (y.To = x3))) (congrArg Value.bool b5) rfl ?_)
      refine s_cons (op_assign (.bool (decide (y.To = x3))) rfl ?_)
      refine s_nil ?_
      refine then_n ?_
      refine cE_ret ?_
      refine post_r _ (res1 (v := (.bool (decide (y.To = x3)))) rfl) ?_
      exact ⟨(retv1 (congrArg Value.bool (show (decide (y.To = x3)) = (decide (y.Tier = x1 + 1 ∧ y.From = x2 ∧ y.To = x3)) from by first | rfl | exact (decide_eq_true (by omega)).symm | exact (decide_eq_false (by omega)).symm | (rw [Bool.eq_iff_iff]; simp [b3, b5] <;> omega)))), hst.sub (.cons _ (.cons_cons _ (List.Sublist.refl _)))⟩
    have c7 : ¬ (y.From = x2) := of_decide_eq_false b5
    refine s_no 17 rfl (congrArg Value.bool b5) ?_
    refine s_no 17 rfl (congrArg Value.bool b5) ?_
    refine s_no 17 rfl (congrArg Value.bool b5) ?_
    refine s_no 17 rfl (congrArg Value.bool b5) ?_
    refine s_no 17 rfl (congrArg Value.bool b5) ?_
    refine s_cons (op_pick_f (.bool false) (congrArg Value.bool b5) rfl ?_)
    refine s_cons (op_assign (.bool false) rfl ?_)
    refine s_nil ?_
    refine then_n ?_
    refine cE_ret ?_
    refine post_r _ (res1 (v := (.bool false)) rfl) ?_
    exact ⟨(retv1 (congrArg Value.bool (show false = (decide (y.Tier = x1 + 1 ∧ y.From = x2 ∧ y.To = x3)) from by first | rfl | exact (decide_eq_true (by omega)).symm | exact (decide_eq_false (by omega)).symm | (rw [Bool.eq_iff_iff]; simp [b3, b5] <;> omega)))), hst.sub (.cons _ (.cons_cons _ (List.Sublist.refl _)))⟩
  have c8 : ¬ (y.Tier = (x1 + 1)) := of_decide_eq_false b3
  refine s_no 10 rfl (congrArg Value.bool b3) ?_
  refine s_no 10 rfl (congrArg Value.bool b3) ?_
  refine s_no 10 rfl (congrArg Value.bool b3) ?_
  refine s_no 10 rfl (congrArg Value.bool b3) ?_
  refine s_no 10 rfl (congrArg Value.bool b3) ?_
  refine s_cons (op_pick_f (.bool false) (congrArg Value.bool b3) rfl ?_)
  refine s_cons (op_move (.bool false) rfl ?_)
  refine s_no 17 rfl rfl ?_
  refine s_no 17 rfl rfl ?_
  refine s_no 17 rfl rfl ?_
  refine s_no 17 rfl rfl ?_
  refine s_no 17 rfl rfl ?_
  refine s_cons (op_pick_f (.bool false) rfl rfl ?_)
  refine s_cons (op_assign (.bool false) rfl ?_)
  refine s_nil ?_
  refine then_n ?_
  refine cE_ret ?_
  refine post_r _ (res1 (v := (.bool false)) rfl) ?_
  exact ⟨(retv1 (congrArg Value.bool (show false = (decide (y.Tier = x1 + 1 ∧ y.From = x2 ∧ y.To = x3)) from by first | rfl | exact (decide_eq_true (by omega)).symm | exact (decide_eq_false (by omega)).symm | (rw [Bool.eq_iff_iff]; simp [b3] <;> omega)))), hst.sub (.cons _ (.cons_cons _ (List.Sublist.refl _)))⟩

end Go.Proofs.Ytadnedoecbfojaa
