/- twinkeepref17.ahead -/
import Derived.Test.YtadnedoecbfojaaT
import Derived.Test.YtadnedoecbfojaaJ
import Derived.Test.YtadnedoecbfojaaK
import Derived.Test.YtadnedoecbfojaaSM
import Derived.Test.YtadnedoecbfojaaW1
import Derived.Test.YtadnedoecbfojaaW2
import Derived.Test.YtadnedoecbfojaaW3
import Derived.Test.YtadnedoecbfojaaW4
import Derived.Test.YtadnedoecbfojaaW5
import Derived.Test.YtadnedoecbfojaaW6
namespace Go.Proofs.Ytadnedoecbfojaa
open Go.RowKit

theorem c_ahead (w0 : World) (a : Info) (b : Info) :
    Calls Try.prog 15 #[(.agg #[(.int .i64 a.Id), (.int .i64 a.Tier), (.int .i64 a.From), (.int .i64 a.To), (.int .u32 a.Sum)]), (.agg #[(.int .i64 b.Id), (.int .i64 b.Tier), (.int .i64 b.From), (.int .i64 b.To), (.int .u32 b.Sum)])] w0 fun e w' => e = .returned (.bool (ahead a b)) ∧ St w0 w' [] := by
  refine calls_E (n := 34) (ts := [4]) Try.func15 rfl rfl rfl (by simp) ?_
  have hst := St.start w0
  refine cE_seq ?_
  refine cE_region rfl ?_
  refine s_cons (op_box (v := (.agg #[(.int .i64 a.Id), (.int .i64 a.Tier), (.int .i64 a.From), (.int .i64 a.To), (.int .u32 a.Sum)])) (cs := #[(.int .i64 a.Id), (.int .i64 a.Tier), (.int .i64 a.From), (.int .i64 a.To), (.int .u32 a.Sum)]) hst rfl rfl (fun g1 w2 hst _ => ?_))
  replace hst : St w0 w2 [.blk g1 34 #[(.int .i64 a.Id), (.int .i64 a.Tier), (.int .i64 a.From), (.int .i64 a.To), (.int .u32 a.Sum)]] := hst
  refine s_cons (op_box (v := (.agg #[(.int .i64 b.Id), (.int .i64 b.Tier), (.int .i64 b.From), (.int .i64 b.To), (.int .u32 b.Sum)])) (cs := #[(.int .i64 b.Id), (.int .i64 b.Tier), (.int .i64 b.From), (.int .i64 b.To), (.int .u32 b.Sum)]) hst rfl rfl (fun g3 w4 hst _ => ?_))
  replace hst : St w0 w4 [.blk g3 34 #[(.int .i64 b.Id), (.int .i64 b.Tier), (.int .i64 b.From), (.int .i64 b.To), (.int .u32 b.Sum)], .blk g1 34 #[(.int .i64 a.Id), (.int .i64 a.Tier), (.int .i64 a.From), (.int .i64 a.To), (.int .u32 a.Sum)]] := hst
  refine s_cons (op_assign (.bool false) rfl ?_)
  refine s_nil ?_
  refine then_n ?_
  refine cE_seq ?_
  refine cE_seq ?_
  refine cE_region rfl ?_
  refine s_cons (op_fieldAddr (s := 0) Try.underlying34 rfl rfl Try.sizeOf3 rfl ?_)
  refine s_cons (op_load1 (u := (.int .i64 a.Tier)) Try.isAgg3 rfl ((hst.cell 1 rfl).drop 1) ?_)
  refine s_cons (op_fieldAddr (s := 0) Try.underlying34 rfl rfl Try.sizeOf3 rfl ?_)
  refine s_cons (op_load1 (u := (.int .i64 b.Tier)) Try.isAgg3 rfl ((hst.cell 0 rfl).drop 1) ?_)
  refine s_cons (op_neq (k := .i64) (a := a.Tier) (b := b.Tier) rfl rfl ?_)
  refine s_nil ?_
  refine then_n ?_
  rcases Bool.eq_false_or_eq_true (decide (a.Tier = b.Tier)) with b5 | b5
  · have c6 : a.Tier = b.Tier := of_decide_eq_true b5
    refine cE_cond false (congrArg Value.bool (congrArg (! ·) b5)) (fun h => by cases h) (fun _ => ?_)
    refine cE_skip ?_
    refine then_n ?_
    refine cE_seq ?_
    refine cE_region rfl ?_
    refine s_cons (op_fieldAddr (s := 0) Try.underlying34 rfl rfl Try.sizeOf2 rfl ?_)
    refine s_cons (op_load1 (u := (.int .i64 a.From)) Try.isAgg2 rfl ((hst.cell 1 rfl).drop 2) ?_)
    refine s_cons (op_fieldAddr (s := 0) Try.underlying34 rfl rfl Try.sizeOf2 rfl ?_)
    refine s_cons (op_load1 (u := (.int .i64 b.From)) Try.isAgg2 rfl ((hst.cell 0 rfl).drop 2) ?_)
    refine s_cons (op_lss (k := .i64) (a := a.From) (b := b.From) rfl rfl ?_)
    refine s_cons (op_move (.bool (decide (a.From < b.From))) rfl ?_)
    rcases Bool.eq_false_or_eq_true (decide (a.From < b.From)) with b7 | b7
    · have c8 : a.From < b.From := of_decide_eq_true b7
      refine s_no 20 rfl (congrArg Value.bool b7) ?_
      refine s_no 20 rfl (congrArg Value.bool b7) ?_
      refine s_no 20 rfl (congrArg Value.bool b7) ?_
      refine s_no 20 rfl (congrArg Value.bool b7) ?_
      refine s_no 20 rfl (congrArg Value.bool b7) ?_
      refine s_no 20 rfl (congrArg Value.bool b7) ?_
      refine s_un 26 rfl rfl ?_
      refine s_un 26 rfl rfl ?_
      refine s_un 26 rfl rfl ?_
      refine s_un 26 rfl rfl ?_
      refine s_un 26 rfl rfl ?_
      refine s_no 20 rfl (congrArg Value.bool b7) ?_
      refine s_cons (op_pick_t (.bool true) (congrArg Value.bool b7) rfl ?_)
      refine s_cons (op_assign (.bool true) rfl ?_)
      refine s_nil ?_
      refine then_n ?_
      refine cE_ret ?_
      refine post_r _ (res1 (v := (.bool true)) rfl) ?_
      exact ⟨(retv1 (congrArg Value.bool (show true = (ahead a b) from by first | exact (ahead_yes (by omega)).symm | exact (ahead_no (by omega)).symm | (rw [Bool.eq_iff_iff]; simp [ahead, b5, b7] <;> omega)))), hst.bare⟩
    have c9 : ¬ (a.From < b.From) := of_decide_eq_false b7
    refine s_yes 20 rfl (congrArg Value.bool b7) (op_fieldAddr (s := 0) Try.underlying34 rfl rfl Try.sizeOf2 rfl ?_)
    refine s_yes 20 rfl (congrArg Value.bool b7) (op_load1 (u := (.int .i64 a.From)) Try.isAgg2 rfl ((hst.cell 1 rfl).drop 2) ?_)
    refine s_yes 20 rfl (congrArg Value.bool b7) (op_fieldAddr (s := 0) Try.underlying34 rfl rfl Try.sizeOf2 rfl ?_)
    refine s_yes 20 rfl (congrArg Value.bool b7) (op_load1 (u := (.int .i64 b.From)) Try.isAgg2 rfl ((hst.cell 0 rfl).drop 2) ?_)
    refine s_yes 20 rfl (congrArg Value.bool b7) (op_eql (k := .i64) (a := a.From) (b := b.From) rfl rfl ?_)
    refine s_yes 20 rfl (congrArg Value.bool b7) (op_move (.bool (decide (a.From = b.From))) rfl ?_)
    rcases Bool.eq_false_or_eq_true (decide (a.From = b.From)) with b10 | b10
    · have c11 : a.From = b.From := of_decide_eq_true b10
      refine s_yes 26 rfl (congrArg Value.bool b10) (op_fieldAddr (s := 0) Try.underlying34 rfl rfl Try.sizeOf3 rfl ?_)
      refine s_yes 26 rfl (congrArg Value.bool b10) (op_load1 (u := (.int .i64 a.Id)) Try.isAgg3 rfl (hst.cell 1 rfl) ?_)
      refine s_yes 26 rfl (congrArg Value.bool b10) (op_fieldAddr (s := 0) Try.underlying34 rfl rfl Try.sizeOf3 rfl ?_)
      refine s_yes 26 rfl (congrArg Value.bool b10) (op_load1 (u := (.int .i64 b.Id)) Try.isAgg3 rfl (hst.cell 0 rfl) ?_)
      refine s_yes 26 rfl (congrArg Value.bool b10) (op_lss (k := .i64) (a := a.Id) (b := b.Id) rfl rfl ?_)
      refine s_yes 20 rfl (congrArg Value.bool b7) (op_pick_t (.bool (decide (a.Id < b.Id))) (congrArg Value.bool b10) rfl ?_)
      refine s_cons (op_pick_f (.bool (decide (a.Id < b.Id))) (congrArg Value.bool b7) rfl ?_)
      refine s_cons (op_assign (.bool (decide (a.Id < b.Id))) rfl ?_)
      refine s_nil ?_
      refine then_n ?_
      refine cE_ret ?_
      refine post_r _ (res1 (v := (.bool (decide (a.Id < b.Id)))) rfl) ?_
      exact ⟨(retv1 (congrArg Value.bool (show (decide (a.Id < b.Id)) = (ahead a b) from by first | exact (ahead_yes (by omega)).symm | exact (ahead_no (by omega)).symm | (rw [Bool.eq_iff_iff]; simp [ahead, b5, b7, b10] <;> omega)))), hst.bare⟩
    have c12 : ¬ (a.From = b.From) := of_decide_eq_false b10
    refine s_no 26 rfl (congrArg Value.bool b10) ?_
    refine s_no 26 rfl (congrArg Value.bool b10) ?_
    refine s_no 26 rfl (congrArg Value.bool b10) ?_
    refine s_no 26 rfl (congrArg Value.bool b10) ?_
    refine s_no 26 rfl (congrArg Value.bool b10) ?_
    refine s_yes 20 rfl (congrArg Value.bool b7) (op_pick_f (.bool false) (congrArg Value.bool b10) rfl ?_)
    refine s_cons (op_pick_f (.bool false) (congrArg Value.bool b7) rfl ?_)
    refine s_cons (op_assign (.bool false) rfl ?_)
    refine s_nil ?_
    refine then_n ?_
    refine cE_ret ?_
    refine post_r _ (res1 (v := (.bool false)) rfl) ?_
    exact ⟨(retv1 (congrArg Value.bool (show false = (ahead a b) from by first | exact (ahead_yes (by omega)).symm | exact (ahead_no (by omega)).symm | (rw [Bool.eq_iff_iff]; simp [ahead, b5, b7, b10] <;> omega)))), hst.bare⟩
  have c13 : ¬ (a.Tier = b.Tier) := of_decide_eq_false b5
  refine cE_cond true (congrArg Value.bool (congrArg (! ·) b5)) (fun _ => ?_) (fun h => by cases h)
  refine cE_seq ?_
  refine cE_region rfl ?_
  refine s_cons (op_fieldAddr (s := 0) Try.underlying34 rfl rfl Try.sizeOf3 rfl ?_)
  refine s_cons (op_load1 (u := (.int .i64 a.Tier)) Try.isAgg3 rfl ((hst.cell 1 rfl).drop 1) ?_)
  refine s_cons (op_fieldAddr (s := 0) Try.underlying34 rfl rfl Try.sizeOf3 rfl ?_)
  refine s_cons (op_load1 (u := (.int .i64 b.Tier)) Try.isAgg3 rfl ((hst.cell 0 rfl).drop 1) ?_)
  refine s_cons (op_gtr (k := .i64) (a := a.Tier) (b := b.Tier) rfl rfl ?_)
  refine s_cons (op_assign (.bool (decide (b.Tier < a.Tier))) rfl ?_)
  refine s_nil ?_
  refine then_n ?_
  refine cE_ret ?_
  refine then_r ?_
  refine post_r _ (res1 (v := (.bool (decide (b.Tier < a.Tier)))) rfl) ?_
  exact ⟨(retv1 (congrArg Value.bool (show (decide (b.Tier < a.Tier)) = (ahead a b) from by first | exact (ahead_yes (by omega)).symm | exact (ahead_no (by omega)).symm | (rw [Bool.eq_iff_iff]; simp [ahead, b5] <;> omega)))), hst.bare⟩

end Go.Proofs.Ytadnedoecbfojaa
