/- twinkeepref1.One, twinkeepref1.Add, twinkeepref1.Join, twinkeepref1.All, twinkeepref1.Raw, twinkeeplaw4.Rise -/
import Derived.Test.YtpamjfbdgaamoaaTS
import Derived.Test.YtpamjfbdgaamoaaU
import Derived.Test.YtpamjfbdgaamoaaA
import Derived.Test.YtpamjfbdgaamoaaW6
namespace Go.Proofs.Ytpamjfbdgaamoaa
open Go.RowKit

theorem c_rOne (w0 : World) (s : Sample) (fr : Int) :
    Calls Try.prog 47 #[(.agg #[(.int .i64 s.T), (.int .i64 s.V)]), (.int .i64 fr)] w0 fun e w' => e = .returned (.agg #[(.int .i64 fr), (.int .i64 1), (.int .i64 s.V), (.int .i64 s.V), (.int .i64 s.V), (.int .i64 s.V), (.int .i64 s.V)]) ∧ St w0 w' [] := by
  refine calls_G (n := 17) (rs := [.cell 4 71]) Try.func47 rfl rfl rfl (by simp) ?_
  have hst := St.start w0
  refine cE_seq ?_
  refine cE_region rfl ?_
  refine s_cons (op_box (v := (.agg #[(.int .i64 s.T), (.int .i64 s.V)])) (cs := #[(.int .i64 s.T), (.int .i64 s.V)]) hst rfl rfl (fun g1 w2 hst _ => ?_))
  replace hst : St w0 w2 [.blk g1 48 #[(.int .i64 s.T), (.int .i64 s.V)]] := hst
  refine s_cons (op_alloc (cs := #[(.int .i64 0), (.int .i64 0), (.int .i64 0), (.int .i64 0), (.int .i64 0), (.int .i64 0), (.int .i64 0)]) hst Try.zeroValue71 rfl (fun g3 w4 hst _ => ?_))
  replace hst : St w0 w4 [.blk g3 71 #[(.int .i64 0), (.int .i64 0), (.int .i64 0), (.int .i64 0), (.int .i64 0), (.int .i64 0), (.int .i64 0)], .blk g1 48 #[(.int .i64 s.T), (.int .i64 s.V)]] := hst
  refine s_nil ?_
  refine then_n ?_
  refine cE_seq ?_
  refine cE_region rfl ?_
  refine s_cons (op_move (.int .i64 fr) rfl ?_)
  refine s_cons (op_fieldAddr (s := 0) Try.underlying48 rfl rfl Try.sizeOf2 rfl ?_)
  refine s_cons (op_load1 (u := (.int .i64 s.V)) Try.isAgg2 rfl ((hst.cell 1 rfl).drop 1) ?_)
  refine s_cons (op_fieldAddr (s := 0) Try.underlying48 rfl rfl Try.sizeOf2 rfl ?_)
  refine s_cons (op_load1 (u := (.int .i64 s.V)) Try.isAgg2 rfl ((hst.cell 1 rfl).drop 1) ?_)
  refine s_cons (op_fieldAddr (s := 0) Try.underlying48 rfl rfl Try.sizeOf2 rfl ?_)
  refine s_cons (op_load1 (u := (.int .i64 s.V)) Try.isAgg2 rfl ((hst.cell 1 rfl).drop 1) ?_)
  refine s_cons (op_fieldAddr (s := 0) Try.underlying48 rfl rfl Try.sizeOf2 rfl ?_)
  refine s_cons (op_load1 (u := (.int .i64 s.V)) Try.isAgg2 rfl ((hst.cell 1 rfl).drop 1) ?_)
  refine s_cons (op_fieldAddr (s := 0) Try.underlying48 rfl rfl Try.sizeOf2 rfl ?_)
  refine s_cons (op_load1 (u := (.int .i64 s.V)) Try.isAgg2 rfl ((hst.cell 1 rfl).drop 1) ?_)
  refine s_cons (op_build (r := (.agg #[(.int .i64 fr), (.int .i64 1), (.int .i64 s.V), (.int .i64 s.V), (.int .i64 s.V), (.int .i64 s.V), (.int .i64 s.V)])) (evp_cons (v := (.int .i64 fr)) rfl (evp_cons (v := (.int .i64 1)) rfl (evp_cons (v := (.int .i64 s.V)) rfl (evp_cons (v := (.int .i64 s.V)) rfl (evp_cons (v := (.int .i64 s.V)) rfl (evp_cons (v := (.int .i64 s.V)) rfl (evp_cons (v := (.int .i64 s.V)) rfl evp_nil))))))) (by simp [Instr.build, Instr.fill, Value.cells, Try.runUnderlying71, Try.zeroValue71]) ?_)
  refine s_cons0 (op_storeAll hst 0 rfl Try.sizeOf71 rfl rfl rfl rfl (by simp [Value.oneCell']) (fun w5 hst => ?_))
  replace hst : St w0 w5 [.blk g3 71 #[(.int .i64 fr), (.int .i64 1), (.int .i64 s.V), (.int .i64 s.V), (.int .i64 s.V), (.int .i64 s.V), (.int .i64 s.V)], .blk g1 48 #[(.int .i64 s.T), (.int .i64 s.V)]] := hst
  refine s_nil ?_
  refine then_n ?_
  refine cE_ret ?_
  refine postG_r _ (rvN (cs := [(.int .i64 fr), (.int .i64 1), (.int .i64 s.V), (.int .i64 s.V), (.int .i64 s.V), (.int .i64 s.V), (.int .i64 s.V)]) Try.isAgg71 Try.sizeOf71 rfl (Pt.of (hst.cell 0 rfl) rfl) rfl rvnil) ?_
  exact ⟨rfl, hst.bare⟩

theorem c_rAdd (w0 : World) (a : Int) (b : Int) (a0 : -9223372036854775808 ≤ a) (b0 : -9223372036854775808 ≤ b) (a1 : a ≤ 9223372036854775807) (b1 : b ≤ 9223372036854775807) :
    Calls Try.prog 51 #[(.int .i64 a), (.int .i64 b)] w0 fun e w' => e = .returned (.tuple #[(.int .i64 (addV a b)), (.bool (addB a b))]) ∧ St w0 w' [] := by
  have hws := wsum_cases (a := a) (b := b) ⟨a0, a1⟩ ⟨b0, b1⟩
  refine calls_E (n := 36) (ts := [4, 5]) Try.func51 rfl rfl rfl (by simp) ?_
  have hst := St.start w0
  refine cE_seq ?_
  refine cE_region rfl ?_
  refine s_cons (op_assign (.int .i64 0) rfl ?_)
  refine s_cons (op_assign (.bool false) rfl ?_)
  refine s_nil ?_
  refine then_n ?_
  refine cE_seq ?_
  refine cE_region rfl ?_
  refine s_cons (op_move (.int .i64 a) rfl ?_)
  refine s_cons (op_conv (k := .i64) (a := a) (a % 18446744073709551616) Try.underlying54 (by rw [Try.underlying2]; rfl) rfl (IntKind.wrap_u64 _) ?_)
  refine s_cons (op_move (.int .i64 b) rfl ?_)
  refine s_cons (op_conv (k := .i64) (a := b) (b % 18446744073709551616) Try.underlying54 (by rw [Try.underlying2]; rfl) rfl (IntKind.wrap_u64 _) ?_)
  refine s_cons (op_add (k := .u64) (a := (a % 18446744073709551616)) (b := (b % 18446744073709551616)) (((a % 18446744073709551616) + (b % 18446744073709551616)) % 18446744073709551616) rfl rfl (IntKind.wrap_u64 _) ?_)
  refine s_cons (op_conv (k := .u64) (a := (((a % 18446744073709551616) + (b % 18446744073709551616)) % 18446744073709551616)) (wsum a b) Try.underlying2 (by rw [Try.underlying54]; rfl) rfl (add_wrap ⟨a0, a1⟩ ⟨b0, b1⟩) ?_)
  refine s_cons (op_assign (.int .i64 (wsum a b)) rfl ?_)
  refine s_nil ?_
  refine then_n ?_
  refine cE_seq ?_
  refine cE_seq ?_
  refine cE_region rfl ?_
  refine s_cons (op_move (.int .i64 a) rfl ?_)
  refine s_cons (op_geq (k := .i64) (a := a) (b := 0) rfl rfl ?_)
  refine s_cons (op_move (.bool (decide (0 ≤ a))) rfl ?_)
  rcases Bool.eq_false_or_eq_true (decide (0 ≤ a)) with b6 | b6
  · have c7 : 0 ≤ a := of_decide_eq_true b6
    refine s_yes 15 rfl (congrArg Value.bool b6) (op_move (.int .i64 b) rfl ?_)
    refine s_yes 15 rfl (congrArg Value.bool b6) (op_geq (k := .i64) (a := b) (b := 0) rfl rfl ?_)
    refine s_cons (op_pick_t (.bool (decide (0 ≤ b))) (congrArg Value.bool b6) rfl ?_)
    refine s_cons (op_move (.bool (decide (0 ≤ b))) rfl ?_)
    rcases Bool.eq_false_or_eq_true (decide (0 ≤ b)) with b8 | b8
    · have c9 : 0 ≤ b := of_decide_eq_true b8
      refine s_yes 19 rfl (congrArg Value.bool b8) (op_move (.int .i64 (wsum a b)) rfl ?_)
      refine s_yes 19 rfl (congrArg Value.bool b8) (op_lss (k := .i64) (a := (wsum a b)) (b := 0) rfl rfl ?_)
      refine s_cons (op_pick_t (.bool (decide ((wsum a b) < 0))) (congrArg Value.bool b8) rfl ?_)
      refine s_cons (op_move (.bool (decide ((wsum a b) < 0))) rfl ?_)
      rcases Bool.eq_false_or_eq_true (decide ((wsum a b) < 0)) with b10 | b10
      · have c11 : (wsum a b) < 0 := of_decide_eq_true b10
        refine s_no 23 rfl (congrArg Value.bool b10) ?_
        refine s_no 23 rfl (congrArg Value.bool b10) ?_
        refine s_no 23 rfl (congrArg Value.bool b10) ?_
        refine s_un 26 rfl rfl ?_
        refine s_un 26 rfl rfl ?_
        refine s_no 23 rfl (congrArg Value.bool b10) ?_
        refine s_no 23 rfl (congrArg Value.bool b10) ?_
        refine s_un 30 rfl rfl ?_
        refine s_un 30 rfl rfl ?_
        refine s_no 23 rfl (congrArg Value.bool b10) ?_
        refine s_cons (op_pick_t (.bool true) (congrArg Value.bool b10) rfl ?_)
        refine s_nil ?_
        refine then_n ?_
        refine cE_cond true rfl (fun _ => ?_) (fun h => by cases h)
        refine cE_seq ?_
        refine cE_region rfl ?_
        refine s_cons (op_assign (.int .i64 0) rfl ?_)
        refine s_cons (op_assign (.bool false) rfl ?_)
        refine s_nil ?_
        refine then_n ?_
        refine cE_ret ?_
        refine then_r ?_
        refine post_r _ (res2 (v := (.int .i64 0)) rfl (x := (.bool false)) rfl) ?_
        exact ⟨(retv2 (congrArg (Value.int .i64) (show 0 = (addV a b) from by first | (unfold addV; split <;> omega) | (rw [Bool.eq_iff_iff]; simp only [mayA, mayP, i64R, addB, agg_iff, true_and, and_true, decide_eq_true_eq, Bool.false_eq_true, true_iff, false_iff]; omega))) (congrArg Value.bool (show false = (addB a b) from by first | (unfold addV; split <;> omega) | (rw [Bool.eq_iff_iff]; simp only [mayA, mayP, i64R, addB, agg_iff, true_and, and_true, decide_eq_true_eq, Bool.false_eq_true, true_iff, false_iff]; omega)))), hst.bare⟩
      · have c12 : ¬ ((wsum a b) < 0) := of_decide_eq_false b10
        refine s_yes 23 rfl (congrArg Value.bool b10) (op_move (.int .i64 a) rfl ?_)
        refine s_yes 23 rfl (congrArg Value.bool b10) (op_lss (k := .i64) (a := a) (b := 0) rfl rfl ?_)
        refine s_yes 23 rfl (congrArg Value.bool b10) (op_move (.bool (decide (a < 0))) rfl ?_)
        rcases Bool.eq_false_or_eq_true (decide (a < 0)) with b13 | b13
        · have c14 : a < 0 := of_decide_eq_true b13
          refine s_yes 26 rfl (congrArg Value.bool b13) (op_move (.int .i64 b) rfl ?_)
          refine s_yes 26 rfl (congrArg Value.bool b13) (op_lss (k := .i64) (a := b) (b := 0) rfl rfl ?_)
          refine s_yes 23 rfl (congrArg Value.bool b10) (op_pick_t (.bool (decide (b < 0))) (congrArg Value.bool b13) rfl ?_)
          refine s_yes 23 rfl (congrArg Value.bool b10) (op_move (.bool (decide (b < 0))) rfl ?_)
          rcases Bool.eq_false_or_eq_true (decide (b < 0)) with b15 | b15
          · have c16 : b < 0 := of_decide_eq_true b15
            refine s_yes 30 rfl (congrArg Value.bool b15) (op_move (.int .i64 (wsum a b)) rfl ?_)
            refine s_yes 30 rfl (congrArg Value.bool b15) (op_geq (k := .i64) (a := (wsum a b)) (b := 0) rfl rfl ?_)
            refine s_yes 23 rfl (congrArg Value.bool b10) (op_pick_t (.bool (decide (0 ≤ (wsum a b)))) (congrArg Value.bool b15) rfl ?_)
            refine s_cons (op_pick_f (.bool (decide (0 ≤ (wsum a b)))) (congrArg Value.bool b10) rfl ?_)
            refine s_nil ?_
            refine then_n ?_
            rcases Bool.eq_false_or_eq_true (decide (0 ≤ (wsum a b))) with b17 | b17
            · have c18 : 0 ≤ (wsum a b) := of_decide_eq_true b17
              refine cE_cond true (congrArg Value.bool b17) (fun _ => ?_) (fun h => by cases h)
              refine cE_seq ?_
              refine cE_region rfl ?_
              refine s_cons (op_assign (.int .i64 0) rfl ?_)
              refine s_cons (op_assign (.bool false) rfl ?_)
              refine s_nil ?_
              refine then_n ?_
              refine cE_ret ?_
              refine then_r ?_
              refine post_r _ (res2 (v := (.int .i64 0)) rfl (x := (.bool false)) rfl) ?_
              exact ⟨(retv2 (congrArg (Value.int .i64) (show 0 = (addV a b) from by first | (unfold addV; split <;> omega) | (rw [Bool.eq_iff_iff]; simp only [mayA, mayP, i64R, addB, agg_iff, true_and, and_true, decide_eq_true_eq, Bool.false_eq_true, true_iff, false_iff]; omega))) (congrArg Value.bool (show false = (addB a b) from by first | (unfold addV; split <;> omega) | (rw [Bool.eq_iff_iff]; simp only [mayA, mayP, i64R, addB, agg_iff, true_and, and_true, decide_eq_true_eq, Bool.false_eq_true, true_iff, false_iff]; omega)))), hst.bare⟩
            · have c19 : ¬ (0 ≤ (wsum a b)) := of_decide_eq_false b17
              refine cE_cond false (congrArg Value.bool b17) (fun h => by cases h) (fun _ => ?_)
              refine cE_skip ?_
              refine then_n ?_
              refine cE_seq ?_
              refine cE_region rfl ?_
              refine s_cons (op_move (.int .i64 (wsum a b)) rfl ?_)
              refine s_cons (op_assign (.int .i64 (wsum a b)) rfl ?_)
              refine s_cons (op_assign (.bool true) rfl ?_)
              refine s_nil ?_
              refine then_n ?_
              refine cE_ret ?_
              refine post_r _ (res2 (v := (.int .i64 (wsum a b))) rfl (x := (.bool true)) rfl) ?_
              exact ⟨(retv2 (congrArg (Value.int .i64) (show (wsum a b) = (addV a b) from by first | (unfold addV; split <;> omega) | (rw [Bool.eq_iff_iff]; simp only [mayA, mayP, i64R, addB, agg_iff, true_and, and_true, decide_eq_true_eq, Bool.false_eq_true, true_iff, false_iff]; omega))) (congrArg Value.bool (show true = (addB a b) from by first | (unfold addV; split <;> omega) | (rw [Bool.eq_iff_iff]; simp only [mayA, mayP, i64R, addB, agg_iff, true_and, and_true, decide_eq_true_eq, Bool.false_eq_true, true_iff, false_iff]; omega)))), hst.bare⟩
          · have c20 : ¬ (b < 0) := of_decide_eq_false b15
            refine s_no 30 rfl (congrArg Value.bool b15) ?_
            refine s_no 30 rfl (congrArg Value.bool b15) ?_
            refine s_yes 23 rfl (congrArg Value.bool b10) (op_pick_f (.bool false) (congrArg Value.bool b15) rfl ?_)
            refine s_cons (op_pick_f (.bool false) (congrArg Value.bool b10) rfl ?_)
            refine s_nil ?_
            refine then_n ?_
            refine cE_cond false rfl (fun h => by cases h) (fun _ => ?_)
            refine cE_skip ?_
            refine then_n ?_
            refine cE_seq ?_
            refine cE_region rfl ?_
            refine s_cons (op_move (.int .i64 (wsum a b)) rfl ?_)
            refine s_cons (op_assign (.int .i64 (wsum a b)) rfl ?_)
            refine s_cons (op_assign (.bool true) rfl ?_)
            refine s_nil ?_
            refine then_n ?_
            refine cE_ret ?_
            refine post_r _ (res2 (v := (.int .i64 (wsum a b))) rfl (x := (.bool true)) rfl) ?_
            exact ⟨(retv2 (congrArg (Value.int .i64) (show (wsum a b) = (addV a b) from by first | (unfold addV; split <;> omega) | (rw [Bool.eq_iff_iff]; simp only [mayA, mayP, i64R, addB, agg_iff, true_and, and_true, decide_eq_true_eq, Bool.false_eq_true, true_iff, false_iff]; omega))) (congrArg Value.bool (show true = (addB a b) from by first | (unfold addV; split <;> omega) | (rw [Bool.eq_iff_iff]; simp only [mayA, mayP, i64R, addB, agg_iff, true_and, and_true, decide_eq_true_eq, Bool.false_eq_true, true_iff, false_iff]; omega)))), hst.bare⟩
        · have c21 : ¬ (a < 0) := of_decide_eq_false b13
          refine s_no 26 rfl (congrArg Value.bool b13) ?_
          refine s_no 26 rfl (congrArg Value.bool b13) ?_
          refine s_yes 23 rfl (congrArg Value.bool b10) (op_pick_f (.bool false) (congrArg Value.bool b13) rfl ?_)
          refine s_yes 23 rfl (congrArg Value.bool b10) (op_move (.bool false) rfl ?_)
          refine s_no 30 rfl rfl ?_
          refine s_no 30 rfl rfl ?_
          refine s_yes 23 rfl (congrArg Value.bool b10) (op_pick_f (.bool false) rfl rfl ?_)
          refine s_cons (op_pick_f (.bool false) (congrArg Value.bool b10) rfl ?_)
          refine s_nil ?_
          refine then_n ?_
          refine cE_cond false rfl (fun h => by cases h) (fun _ => ?_)
          refine cE_skip ?_
          refine then_n ?_
          refine cE_seq ?_
          refine cE_region rfl ?_
          refine s_cons (op_move (.int .i64 (wsum a b)) rfl ?_)
          refine s_cons (op_assign (.int .i64 (wsum a b)) rfl ?_)
          refine s_cons (op_assign (.bool true) rfl ?_)
          refine s_nil ?_
          refine then_n ?_
          refine cE_ret ?_
          refine post_r _ (res2 (v := (.int .i64 (wsum a b))) rfl (x := (.bool true)) rfl) ?_
          exact ⟨(retv2 (congrArg (Value.int .i64) (show (wsum a b) = (addV a b) from by first | (unfold addV; split <;> omega) | (rw [Bool.eq_iff_iff]; simp only [mayA, mayP, i64R, addB, agg_iff, true_and, and_true, decide_eq_true_eq, Bool.false_eq_true, true_iff, false_iff]; omega))) (congrArg Value.bool (show true = (addB a b) from by first | (unfold addV; split <;> omega) | (rw [Bool.eq_iff_iff]; simp only [mayA, mayP, i64R, addB, agg_iff, true_and, and_true, decide_eq_true_eq, Bool.false_eq_true, true_iff, false_iff]; omega)))), hst.bare⟩
    · have c22 : ¬ (0 ≤ b) := of_decide_eq_false b8
      refine s_no 19 rfl (congrArg Value.bool b8) ?_
      refine s_no 19 rfl (congrArg Value.bool b8) ?_
      refine s_cons (op_pick_f (.bool false) (congrArg Value.bool b8) rfl ?_)
      refine s_cons (op_move (.bool false) rfl ?_)
      refine s_yes 23 rfl rfl (op_move (.int .i64 a) rfl ?_)
      refine s_yes 23 rfl rfl (op_lss (k := .i64) (a := a) (b := 0) rfl rfl ?_)
      refine s_yes 23 rfl rfl (op_move (.bool (decide (a < 0))) rfl ?_)
      rcases Bool.eq_false_or_eq_true (decide (a < 0)) with b23 | b23
      · have c24 : a < 0 := of_decide_eq_true b23
        refine s_yes 26 rfl (congrArg Value.bool b23) (op_move (.int .i64 b) rfl ?_)
        refine s_yes 26 rfl (congrArg Value.bool b23) (op_lss (k := .i64) (a := b) (b := 0) rfl rfl ?_)
        refine s_yes 23 rfl rfl (op_pick_t (.bool (decide (b < 0))) (congrArg Value.bool b23) rfl ?_)
        refine s_yes 23 rfl rfl (op_move (.bool (decide (b < 0))) rfl ?_)
        rcases Bool.eq_false_or_eq_true (decide (b < 0)) with b25 | b25
        · have c26 : b < 0 := of_decide_eq_true b25
          refine s_yes 30 rfl (congrArg Value.bool b25) (op_move (.int .i64 (wsum a b)) rfl ?_)
          refine s_yes 30 rfl (congrArg Value.bool b25) (op_geq (k := .i64) (a := (wsum a b)) (b := 0) rfl rfl ?_)
          refine s_yes 23 rfl rfl (op_pick_t (.bool (decide (0 ≤ (wsum a b)))) (congrArg Value.bool b25) rfl ?_)
          refine s_cons (op_pick_f (.bool (decide (0 ≤ (wsum a b)))) rfl rfl ?_)
          refine s_nil ?_
          refine then_n ?_
          rcases Bool.eq_false_or_eq_true (decide (0 ≤ (wsum a b))) with b27 | b27
          · have c28 : 0 ≤ (wsum a b) := of_decide_eq_true b27
            refine cE_cond true (congrArg Value.bool b27) (fun _ => ?_) (fun h => by cases h)
            refine cE_seq ?_
            refine cE_region rfl ?_
            refine s_cons (op_assign (.int .i64 0) rfl ?_)
            refine s_cons (op_assign (.bool false) rfl ?_)
            refine s_nil ?_
            refine then_n ?_
            refine cE_ret ?_
            refine then_r ?_
            refine post_r _ (res2 (v := (.int .i64 0)) rfl (x := (.bool false)) rfl) ?_
            exact ⟨(retv2 (congrArg (Value.int .i64) (show 0 = (addV a b) from by first | (unfold addV; split <;> omega) | (rw [Bool.eq_iff_iff]; simp only [mayA, mayP, i64R, addB, agg_iff, true_and, and_true, decide_eq_true_eq, Bool.false_eq_true, true_iff, false_iff]; omega))) (congrArg Value.bool (show false = (addB a b) from by first | (unfold addV; split <;> omega) | (rw [Bool.eq_iff_iff]; simp only [mayA, mayP, i64R, addB, agg_iff, true_and, and_true, decide_eq_true_eq, Bool.false_eq_true, true_iff, false_iff]; omega)))), hst.bare⟩
          · have c29 : ¬ (0 ≤ (wsum a b)) := of_decide_eq_false b27
            refine cE_cond false (congrArg Value.bool b27) (fun h => by cases h) (fun _ => ?_)
            refine cE_skip ?_
            refine then_n ?_
            refine cE_seq ?_
            refine cE_region rfl ?_
            refine s_cons (op_move (.int .i64 (wsum a b)) rfl ?_)
            refine s_cons (op_assign (.int .i64 (wsum a b)) rfl ?_)
            refine s_cons (op_assign (.bool true) rfl ?_)
            refine s_nil ?_
            refine then_n ?_
            refine cE_ret ?_
            refine post_r _ (res2 (v := (.int .i64 (wsum a b))) rfl (x := (.bool true)) rfl) ?_
            exact ⟨(retv2 (congrArg (Value.int .i64) (show (wsum a b) = (addV a b) from by first | (unfold addV; split <;> omega) | (rw [Bool.eq_iff_iff]; simp only [mayA, mayP, i64R, addB, agg_iff, true_and, and_true, decide_eq_true_eq, Bool.false_eq_true, true_iff, false_iff]; omega))) (congrArg Value.bool (show true = (addB a b) from by first | (unfold addV; split <;> omega) | (rw [Bool.eq_iff_iff]; simp only [mayA, mayP, i64R, addB, agg_iff, true_and, and_true, decide_eq_true_eq, Bool.false_eq_true, true_iff, false_iff]; omega)))), hst.bare⟩
        · have c30 : ¬ (b < 0) := of_decide_eq_false b25
          refine s_no 30 rfl (congrArg Value.bool b25) ?_
          refine s_no 30 rfl (congrArg Value.bool b25) ?_
          refine s_yes 23 rfl rfl (op_pick_f (.bool false) (congrArg Value.bool b25) rfl ?_)
          refine s_cons (op_pick_f (.bool false) rfl rfl ?_)
          refine s_nil ?_
          refine then_n ?_
          refine cE_cond false rfl (fun h => by cases h) (fun _ => ?_)
          refine cE_skip ?_
          refine then_n ?_
          refine cE_seq ?_
          refine cE_region rfl ?_
          refine s_cons (op_move (.int .i64 (wsum a b)) rfl ?_)
          refine s_cons (op_assign (.int .i64 (wsum a b)) rfl ?_)
          refine s_cons (op_assign (.bool true) rfl ?_)
          refine s_nil ?_
          refine then_n ?_
          refine cE_ret ?_
          refine post_r _ (res2 (v := (.int .i64 (wsum a b))) rfl (x := (.bool true)) rfl) ?_
          exact ⟨(retv2 (congrArg (Value.int .i64) (show (wsum a b) = (addV a b) from by first | (unfold addV; split <;> omega) | (rw [Bool.eq_iff_iff]; simp only [mayA, mayP, i64R, addB, agg_iff, true_and, and_true, decide_eq_true_eq, Bool.false_eq_true, true_iff, false_iff]; omega))) (congrArg Value.bool (show true = (addB a b) from by first | (unfold addV; split <;> omega) | (rw [Bool.eq_iff_iff]; simp only [mayA, mayP, i64R, addB, agg_iff, true_and, and_true, decide_eq_true_eq, Bool.false_eq_true, true_iff, false_iff]; omega)))), hst.bare⟩
      · have c31 : ¬ (a < 0) := of_decide_eq_false b23
        refine s_no 26 rfl (congrArg Value.bool b23) ?_
        refine s_no 26 rfl (congrArg Value.bool b23) ?_
        refine s_yes 23 rfl rfl (op_pick_f (.bool false) (congrArg Value.bool b23) rfl ?_)
        refine s_yes 23 rfl rfl (op_move (.bool false) rfl ?_)
        refine s_no 30 rfl rfl ?_
        refine s_no 30 rfl rfl ?_
        refine s_yes 23 rfl rfl (op_pick_f (.bool false) rfl rfl ?_)
        refine s_cons (op_pick_f (.bool false) rfl rfl ?_)
        refine s_nil ?_
        refine then_n ?_
        refine cE_cond false rfl (fun h => by cases h) (fun _ => ?_)
        refine cE_skip ?_
        refine then_n ?_
        refine cE_seq ?_
        refine cE_region rfl ?_
        refine s_cons (op_move (.int .i64 (wsum a b)) rfl ?_)
        refine s_cons (op_assign (.int .i64 (wsum a b)) rfl ?_)
        refine s_cons (op_assign (.bool true) rfl ?_)
        refine s_nil ?_
        refine then_n ?_
        refine cE_ret ?_
        refine post_r _ (res2 (v := (.int .i64 (wsum a b))) rfl (x := (.bool true)) rfl) ?_
        exact ⟨(retv2 (congrArg (Value.int .i64) (show (wsum a b) = (addV a b) from by first | (unfold addV; split <;> omega) | (rw [Bool.eq_iff_iff]; simp only [mayA, mayP, i64R, addB, agg_iff, true_and, and_true, decide_eq_true_eq, Bool.false_eq_true, true_iff, false_iff]; omega))) (congrArg Value.bool (show true = (addB a b) from by first | (unfold addV; split <;> omega) | (rw [Bool.eq_iff_iff]; simp only [mayA, mayP, i64R, addB, agg_iff, true_and, and_true, decide_eq_true_eq, Bool.false_eq_true, true_iff, false_iff]; omega)))), hst.bare⟩
  · have c32 : ¬ (0 ≤ a) := of_decide_eq_false b6
    refine s_no 15 rfl (congrArg Value.bool b6) ?_
    refine s_no 15 rfl (congrArg Value.bool b6) ?_
    refine s_cons (op_pick_f (.bool false) (congrArg Value.bool b6) rfl ?_)
    refine s_cons (op_move (.bool false) rfl ?_)
    refine s_no 19 rfl rfl ?_
    refine s_no 19 rfl rfl ?_
    refine s_cons (op_pick_f (.bool false) rfl rfl ?_)
    refine s_cons (op_move (.bool false) rfl ?_)
    refine s_yes 23 rfl rfl (op_move (.int .i64 a) rfl ?_)
    refine s_yes 23 rfl rfl (op_lss (k := .i64) (a := a) (b := 0) rfl rfl ?_)
    refine s_yes 23 rfl rfl (op_move (.bool (decide (a < 0))) rfl ?_)
    rcases Bool.eq_false_or_eq_true (decide (a < 0)) with b33 | b33
    · have c34 : a < 0 := of_decide_eq_true b33
      refine s_yes 26 rfl (congrArg Value.bool b33) (op_move (.int .i64 b) rfl ?_)
      refine s_yes 26 rfl (congrArg Value.bool b33) (op_lss (k := .i64) (a := b) (b := 0) rfl rfl ?_)
      refine s_yes 23 rfl rfl (op_pick_t (.bool (decide (b < 0))) (congrArg Value.bool b33) rfl ?_)
      refine s_yes 23 rfl rfl (op_move (.bool (decide (b < 0))) rfl ?_)
      rcases Bool.eq_false_or_eq_true (decide (b < 0)) with b35 | b35
      · have c36 : b < 0 := of_decide_eq_true b35
        refine s_yes 30 rfl (congrArg Value.bool b35) (op_move (.int .i64 (wsum a b)) rfl ?_)
        refine s_yes 30 rfl (congrArg Value.bool b35) (op_geq (k := .i64) (a := (wsum a b)) (b := 0) rfl rfl ?_)
        refine s_yes 23 rfl rfl (op_pick_t (.bool (decide (0 ≤ (wsum a b)))) (congrArg Value.bool b35) rfl ?_)
        refine s_cons (op_pick_f (.bool (decide (0 ≤ (wsum a b)))) rfl rfl ?_)
        refine s_nil ?_
        refine then_n ?_
        rcases Bool.eq_false_or_eq_true (decide (0 ≤ (wsum a b))) with b37 | b37
        · have c38 : 0 ≤ (wsum a b) := of_decide_eq_true b37
          refine cE_cond true (congrArg Value.bool b37) (fun _ => ?_) (fun h => by cases h)
          refine cE_seq ?_
          refine cE_region rfl ?_
          refine s_cons (op_assign (.int .i64 0) rfl ?_)
          refine s_cons (op_assign (.bool false) rfl ?_)
          refine s_nil ?_
          refine then_n ?_
          refine cE_ret ?_
          refine then_r ?_
          refine post_r _ (res2 (v := (.int .i64 0)) rfl (x := (.bool false)) rfl) ?_
          exact ⟨(retv2 (congrArg (Value.int .i64) (show 0 = (addV a b) from by first | (unfold addV; split <;> omega) | (rw [Bool.eq_iff_iff]; simp only [mayA, mayP, i64R, addB, agg_iff, true_and, and_true, decide_eq_true_eq, Bool.false_eq_true, true_iff, false_iff]; omega))) (congrArg Value.bool (show false = (addB a b) from by first | (unfold addV; split <;> omega) | (rw [Bool.eq_iff_iff]; simp only [mayA, mayP, i64R, addB, agg_iff, true_and, and_true, decide_eq_true_eq, Bool.false_eq_true, true_iff, false_iff]; omega)))), hst.bare⟩
        · have c39 : ¬ (0 ≤ (wsum a b)) := of_decide_eq_false b37
          refine cE_cond false (congrArg Value.bool b37) (fun h => by cases h) (fun _ => ?_)
          refine cE_skip ?_
          refine then_n ?_
          refine cE_seq ?_
          refine cE_region rfl ?_
          refine s_cons (op_move (.int .i64 (wsum a b)) rfl ?_)
          refine s_cons (op_assign (.int .i64 (wsum a b)) rfl ?_)
          refine s_cons (op_assign (.bool true) rfl ?_)
          refine s_nil ?_
          refine then_n ?_
          refine cE_ret ?_
          refine post_r _ (res2 (v := (.int .i64 (wsum a b))) rfl (x := (.bool true)) rfl) ?_
          exact ⟨(retv2 (congrArg (Value.int .i64) (show (wsum a b) = (addV a b) from by first | (unfold addV; split <;> omega) | (rw [Bool.eq_iff_iff]; simp only [mayA, mayP, i64R, addB, agg_iff, true_and, and_true, decide_eq_true_eq, Bool.false_eq_true, true_iff, false_iff]; omega))) (congrArg Value.bool (show true = (addB a b) from by first | (unfold addV; split <;> omega) | (rw [Bool.eq_iff_iff]; simp only [mayA, mayP, i64R, addB, agg_iff, true_and, and_true, decide_eq_true_eq, Bool.false_eq_true, true_iff, false_iff]; omega)))), hst.bare⟩
      · have c40 : ¬ (b < 0) := of_decide_eq_false b35
        refine s_no 30 rfl (congrArg Value.bool b35) ?_
        refine s_no 30 rfl (congrArg Value.bool b35) ?_
        refine s_yes 23 rfl rfl (op_pick_f (.bool false) (congrArg Value.bool b35) rfl ?_)
        refine s_cons (op_pick_f (.bool false) rfl rfl ?_)
        refine s_nil ?_
        refine then_n ?_
        refine cE_cond false rfl (fun h => by cases h) (fun _ => ?_)
        refine cE_skip ?_
        refine then_n ?_
        refine cE_seq ?_
        refine cE_region rfl ?_
        refine s_cons (op_move (.int .i64 (wsum a b)) rfl ?_)
        refine s_cons (op_assign (.int .i64 (wsum a b)) rfl ?_)
        refine s_cons (op_assign (.bool true) rfl ?_)
        refine s_nil ?_
        refine then_n ?_
        refine cE_ret ?_
        refine post_r _ (res2 (v := (.int .i64 (wsum a b))) rfl (x := (.bool true)) rfl) ?_
        exact ⟨(retv2 (congrArg (Value.int .i64) (show (wsum a b) = (addV a b) from by first | (unfold addV; split <;> omega) | (rw [Bool.eq_iff_iff]; simp only [mayA, mayP, i64R, addB, agg_iff, true_and, and_true, decide_eq_true_eq, Bool.false_eq_true, true_iff, false_iff]; omega))) (congrArg Value.bool (show true = (addB a b) from by first | (unfold addV; split <;> omega) | (rw [Bool.eq_iff_iff]; simp only [mayA, mayP, i64R, addB, agg_iff, true_and, and_true, decide_eq_true_eq, Bool.false_eq_true, true_iff, false_iff]; omega)))), hst.bare⟩
    · have c41 : ¬ (a < 0) := of_decide_eq_false b33
      refine s_no 26 rfl (congrArg Value.bool b33) ?_
      refine s_no 26 rfl (congrArg Value.bool b33) ?_
      refine s_yes 23 rfl rfl (op_pick_f (.bool false) (congrArg Value.bool b33) rfl ?_)
      refine s_yes 23 rfl rfl (op_move (.bool false) rfl ?_)
      refine s_no 30 rfl rfl ?_
      refine s_no 30 rfl rfl ?_
      refine s_yes 23 rfl rfl (op_pick_f (.bool false) rfl rfl ?_)
      refine s_cons (op_pick_f (.bool false) rfl rfl ?_)
      refine s_nil ?_
      refine then_n ?_
      refine cE_cond false rfl (fun h => by cases h) (fun _ => ?_)
      refine cE_skip ?_
      refine then_n ?_
      refine cE_seq ?_
      refine cE_region rfl ?_
      refine s_cons (op_move (.int .i64 (wsum a b)) rfl ?_)
      refine s_cons (op_assign (.int .i64 (wsum a b)) rfl ?_)
      refine s_cons (op_assign (.bool true) rfl ?_)
      refine s_nil ?_
      refine then_n ?_
      refine cE_ret ?_
      refine post_r _ (res2 (v := (.int .i64 (wsum a b))) rfl (x := (.bool true)) rfl) ?_
      exact ⟨(retv2 (congrArg (Value.int .i64) (show (wsum a b) = (addV a b) from by first | (unfold addV; split <;> omega) | (rw [Bool.eq_iff_iff]; simp only [mayA, mayP, i64R, addB, agg_iff, true_and, and_true, decide_eq_true_eq, Bool.false_eq_true, true_iff, false_iff]; omega))) (congrArg Value.bool (show true = (addB a b) from by first | (unfold addV; split <;> omega) | (rw [Bool.eq_iff_iff]; simp only [mayA, mayP, i64R, addB, agg_iff, true_and, and_true, decide_eq_true_eq, Bool.false_eq_true, true_iff, false_iff]; omega)))), hst.bare⟩

set_option maxHeartbeats 4000000 in
theorem c_rJoin (w0 : World) (a : Agg) (b : Agg) (ha : a.ok) (hb : b.ok) :
    Calls Try.prog 48 #[(.agg #[(.int .i64 a.From), (.int .i64 a.Count), (.int .i64 a.Sum), (.int .i64 a.Min), (.int .i64 a.Max), (.int .i64 a.First), (.int .i64 a.Last)]), (.agg #[(.int .i64 b.From), (.int .i64 b.Count), (.int .i64 b.Sum), (.int .i64 b.Min), (.int .i64 b.Max), (.int .i64 b.First), (.int .i64 b.Last)])] w0 fun e w' => e = .returned (.tuple #[(.agg #[(.int .i64 (((joinA a b).1).From)), (.int .i64 (((joinA a b).1).Count)), (.int .i64 (((joinA a b).1).Sum)), (.int .i64 (((joinA a b).1).Min)), (.int .i64 (((joinA a b).1).Max)), (.int .i64 (((joinA a b).1).First)), (.int .i64 (((joinA a b).1).Last))]), (.int .i64 ((joinA a b).2))]) ∧ St w0 w' [] := by
  refine calls_G (n := 59) (rs := [.cell 4 71, .tmp 5]) Try.func48 rfl rfl rfl (by simp) ?_
  have hst := St.start w0
  refine cE_seq ?_
  refine cE_region rfl ?_
  refine s_cons (op_box (v := (.agg #[(.int .i64 a.From), (.int .i64 a.Count), (.int .i64 a.Sum), (.int .i64 a.Min), (.int .i64 a.Max), (.int .i64 a.First), (.int .i64 a.Last)])) (cs := #[(.int .i64 a.From), (.int .i64 a.Count), (.int .i64 a.Sum), (.int .i64 a.Min), (.int .i64 a.Max), (.int .i64 a.First), (.int .i64 a.Last)]) hst rfl rfl (fun g42 w43 hst _ => ?_))
  replace hst : St w0 w43 [.blk g42 71 #[(.int .i64 a.From), (.int .i64 a.Count), (.int .i64 a.Sum), (.int .i64 a.Min), (.int .i64 a.Max), (.int .i64 a.First), (.int .i64 a.Last)]] := hst
  refine s_cons (op_box (v := (.agg #[(.int .i64 b.From), (.int .i64 b.Count), (.int .i64 b.Sum), (.int .i64 b.Min), (.int .i64 b.Max), (.int .i64 b.First), (.int .i64 b.Last)])) (cs := #[(.int .i64 b.From), (.int .i64 b.Count), (.int .i64 b.Sum), (.int .i64 b.Min), (.int .i64 b.Max), (.int .i64 b.First), (.int .i64 b.Last)]) hst rfl rfl (fun g44 w45 hst _ => ?_))
  replace hst : St w0 w45 [.blk g44 71 #[(.int .i64 b.From), (.int .i64 b.Count), (.int .i64 b.Sum), (.int .i64 b.Min), (.int .i64 b.Max), (.int .i64 b.First), (.int .i64 b.Last)], .blk g42 71 #[(.int .i64 a.From), (.int .i64 a.Count), (.int .i64 a.Sum), (.int .i64 a.Min), (.int .i64 a.Max), (.int .i64 a.First), (.int .i64 a.Last)]] := hst
  refine s_cons (op_alloc (cs := #[(.int .i64 0), (.int .i64 0), (.int .i64 0), (.int .i64 0), (.int .i64 0), (.int .i64 0), (.int .i64 0)]) hst Try.zeroValue71 rfl (fun g46 w47 hst _ => ?_))
  replace hst : St w0 w47 [.blk g46 71 #[(.int .i64 0), (.int .i64 0), (.int .i64 0), (.int .i64 0), (.int .i64 0), (.int .i64 0), (.int .i64 0)], .blk g44 71 #[(.int .i64 b.From), (.int .i64 b.Count), (.int .i64 b.Sum), (.int .i64 b.Min), (.int .i64 b.Max), (.int .i64 b.First), (.int .i64 b.Last)], .blk g42 71 #[(.int .i64 a.From), (.int .i64 a.Count), (.int .i64 a.Sum), (.int .i64 a.Min), (.int .i64 a.Max), (.int .i64 a.First), (.int .i64 a.Last)]] := hst
  refine s_cons (op_assign (.int .i64 0) rfl ?_)
  refine s_nil ?_
  refine then_n ?_
  refine cE_seq ?_
  refine cE_seq ?_
  refine cE_region rfl ?_
  refine s_cons (op_loadN (cs := [(.int .i64 a.From), (.int .i64 a.Count), (.int .i64 a.Sum), (.int .i64 a.Min), (.int .i64 a.Max), (.int .i64 a.First), (.int .i64 a.Last)]) Try.isAgg71 Try.sizeOf71 rfl (Pt.of (hst.cell 2 rfl) rfl) rfl ?_)
  refine s_cons (op_call Try.call46 (evs_cons (v := (.agg #[(.int .i64 a.From), (.int .i64 a.Count), (.int .i64 a.Sum), (.int .i64 a.Min), (.int .i64 a.Max), (.int .i64 a.First), (.int .i64 a.Last)])) rfl evs_nil) (c_rMay (w0 := w47) (a := a)) ?_)
  rintro _ w48 ⟨rfl, hcall⟩
  refine ⟨_, rfl, ?_⟩
  have hst : St w0 w48 [.blk g46 71 #[(.int .i64 0), (.int .i64 0), (.int .i64 0), (.int .i64 0), (.int .i64 0), (.int .i64 0), (.int .i64 0)], .blk g44 71 #[(.int .i64 b.From), (.int .i64 b.Count), (.int .i64 b.Sum), (.int .i64 b.Min), (.int .i64 b.Max), (.int .i64 b.First), (.int .i64 b.Last)], .blk g42 71 #[(.int .i64 a.From), (.int .i64 a.Count), (.int .i64 a.Sum), (.int .i64 a.Min), (.int .i64 a.Max), (.int .i64 a.First), (.int .i64 a.Last)]] := hst.call hcall
  refine s_cons (op_not (b := mayA a) rfl ?_)
  refine s_cons (op_move (.bool (!(mayA a))) rfl ?_)
  rcases Bool.eq_false_or_eq_true (mayA a) with b49 | b49
  · have hma := mayA_true b49
    refine s_yes 11 rfl (congrArg Value.bool (congrArg (! ·) b49)) (op_loadN (cs := [(.int .i64 b.From), (.int .i64 b.Count), (.int .i64 b.Sum), (.int .i64 b.Min), (.int .i64 b.Max), (.int .i64 b.First), (.int .i64 b.Last)]) Try.isAgg71 Try.sizeOf71 rfl (Pt.of (hst.cell 1 rfl) rfl) rfl ?_)
    refine s_yes 11 rfl (congrArg Value.bool (congrArg (! ·) b49)) (op_call Try.call46 (evs_cons (v := (.agg #[(.int .i64 b.From), (.int .i64 b.Count), (.int .i64 b.Sum), (.int .i64 b.Min), (.int .i64 b.Max), (.int .i64 b.First), (.int .i64 b.Last)])) rfl evs_nil) (c_rMay (w0 := w48) (a := b)) ?_)
    rintro _ w50 ⟨rfl, hcall⟩
    refine ⟨_, rfl, ?_⟩
    have hst : St w0 w50 [.blk g46 71 #[(.int .i64 0), (.int .i64 0), (.int .i64 0), (.int .i64 0), (.int .i64 0), (.int .i64 0), (.int .i64 0)], .blk g44 71 #[(.int .i64 b.From), (.int .i64 b.Count), (.int .i64 b.Sum), (.int .i64 b.Min), (.int .i64 b.Max), (.int .i64 b.First), (.int .i64 b.Last)], .blk g42 71 #[(.int .i64 a.From), (.int .i64 a.Count), (.int .i64 a.Sum), (.int .i64 a.Min), (.int .i64 a.Max), (.int .i64 a.First), (.int .i64 a.Last)]] := hst.call hcall
    refine s_yes 11 rfl (congrArg Value.bool (congrArg (! ·) b49)) (op_not (b := mayA b) rfl ?_)
    refine s_cons (op_pick_f (.bool (!(mayA b))) (congrArg Value.bool (congrArg (! ·) b49)) rfl ?_)
    refine s_cons (op_move (.bool (!(mayA b))) rfl ?_)
    rcases Bool.eq_false_or_eq_true (mayA b) with b51 | b51
    · have hmb := mayA_true b51
      refine s_yes 16 rfl (congrArg Value.bool (congrArg (! ·) b51)) (op_fieldAddr (s := 0) Try.underlying71 rfl rfl Try.sizeOf2 rfl ?_)
      refine s_yes 16 rfl (congrArg Value.bool (congrArg (! ·) b51)) (op_load1 (u := (.int .i64 a.Count)) Try.isAgg2 rfl ((hst.cell 2 rfl).drop 1) ?_)
      refine s_yes 16 rfl (congrArg Value.bool (congrArg (! ·) b51)) (op_fieldAddr (s := 0) Try.underlying71 rfl rfl Try.sizeOf2 rfl ?_)
      refine s_yes 16 rfl (congrArg Value.bool (congrArg (! ·) b51)) (op_load1 (u := (.int .i64 b.Count)) Try.isAgg2 rfl ((hst.cell 1 rfl).drop 1) ?_)
      refine s_yes 16 rfl (congrArg Value.bool (congrArg (! ·) b51)) (op_add (k := .i64) (a := a.Count) (b := b.Count) (a.Count + b.Count) rfl rfl (xi64 (by omega) (by omega)) ?_)
      refine s_yes 16 rfl (congrArg Value.bool (congrArg (! ·) b51)) (op_gtr (k := .i64) (a := (a.Count + b.Count)) (b := 1099511627776) rfl rfl ?_)
      refine s_cons (op_pick_f (.bool (decide (1099511627776 < (a.Count + b.Count)))) (congrArg Value.bool (congrArg (! ·) b51)) rfl ?_)
      refine s_nil ?_
      refine then_n ?_
      rcases Bool.eq_false_or_eq_true (decide (1099511627776 < (a.Count + b.Count))) with b52 | b52
      · have c53 : 1099511627776 < (a.Count + b.Count) := of_decide_eq_true b52
        refine cE_cond true (congrArg Value.bool b52) (fun _ => ?_) (fun h => by cases h)
        refine cE_seq ?_
        refine cE_region rfl ?_
        refine s_cons (op_build (r := (.agg #[(.int .i64 0), (.int .i64 0), (.int .i64 0), (.int .i64 0), (.int .i64 0), (.int .i64 0), (.int .i64 0)])) evp_nil (by simp [Instr.build, Instr.fill, Value.cells, Try.runUnderlying71, Try.zeroValue71]) ?_)
        refine s_cons0 (op_storeAll hst 0 rfl Try.sizeOf71 rfl rfl rfl rfl (by simp [Value.oneCell']) (fun w54 hst => ?_))
        replace hst : St w0 w54 [.blk g46 71 #[(.int .i64 0), (.int .i64 0), (.int .i64 0), (.int .i64 0), (.int .i64 0), (.int .i64 0), (.int .i64 0)], .blk g44 71 #[(.int .i64 b.From), (.int .i64 b.Count), (.int .i64 b.Sum), (.int .i64 b.Min), (.int .i64 b.Max), (.int .i64 b.First), (.int .i64 b.Last)], .blk g42 71 #[(.int .i64 a.From), (.int .i64 a.Count), (.int .i64 a.Sum), (.int .i64 a.Min), (.int .i64 a.Max), (.int .i64 a.First), (.int .i64 a.Last)]] := hst
        refine s_cons (op_assign (.int .i64 1) rfl ?_)
        refine s_nil ?_
        refine then_n ?_
        refine cE_ret ?_
        refine then_r ?_
        refine postG_r _ (rvN (cs := [(.int .i64 0), (.int .i64 0), (.int .i64 0), (.int .i64 0), (.int .i64 0), (.int .i64 0), (.int .i64 0)]) Try.isAgg71 Try.sizeOf71 rfl (Pt.of (hst.cell 0 rfl) rfl) rfl (rvt (v := (.int .i64 1)) rfl rvnil)) ?_
        exact ⟨(retv2 (congrArg aggV (show (⟨0, 0, 0, 0, 0, 0, 0⟩ : Agg) = (joinA a b).1 from by (unfold joinA; (repeat' split) <;> first | rfl | (exfalso; simp_all; try omega)))) (congrArg (Value.int .i64) (show 1 = (joinA a b).2 from by (unfold joinA; (repeat' split) <;> first | rfl | (exfalso; simp_all; try omega))))), hst.bare⟩
      · have c55 : ¬ (1099511627776 < (a.Count + b.Count)) := of_decide_eq_false b52
        refine cE_cond false (congrArg Value.bool b52) (fun h => by cases h) (fun _ => ?_)
        refine cE_skip ?_
        refine then_n ?_
        refine cE_seq ?_
        refine cE_region rfl ?_
        refine s_cons (op_fieldAddr (s := 0) Try.underlying71 rfl rfl Try.sizeOf2 rfl ?_)
        refine s_cons (op_load1 (u := (.int .i64 a.Sum)) Try.isAgg2 rfl ((hst.cell 2 rfl).drop 2) ?_)
        refine s_cons (op_fieldAddr (s := 0) Try.underlying71 rfl rfl Try.sizeOf2 rfl ?_)
        refine s_cons (op_load1 (u := (.int .i64 b.Sum)) Try.isAgg2 rfl ((hst.cell 1 rfl).drop 2) ?_)
        refine s_cons (op_call Try.call51 (evs_cons (v := (.int .i64 a.Sum)) rfl (evs_cons (v := (.int .i64 b.Sum)) rfl evs_nil)) (c_rAdd (w0 := w50) (a := a.Sum) (b := b.Sum) (a0 := (by omega)) (b0 := (by omega)) (a1 := (by omega)) (b1 := (by omega))) ?_)
        rintro _ w56 ⟨rfl, hcall⟩
        refine ⟨_, rfl, ?_⟩
        have hst : St w0 w56 [.blk g46 71 #[(.int .i64 0), (.int .i64 0), (.int .i64 0), (.int .i64 0), (.int .i64 0), (.int .i64 0), (.int .i64 0)], .blk g44 71 #[(.int .i64 b.From), (.int .i64 b.Count), (.int .i64 b.Sum), (.int .i64 b.Min), (.int .i64 b.Max), (.int .i64 b.First), (.int .i64 b.Last)], .blk g42 71 #[(.int .i64 a.From), (.int .i64 a.Count), (.int .i64 a.Sum), (.int .i64 a.Min), (.int .i64 a.Max), (.int .i64 a.First), (.int .i64 a.Last)]] := hst.call hcall
        refine s_cons (op_move (.tuple #[(.int .i64 (addV a.Sum b.Sum)), (.bool (addB a.Sum b.Sum))]) rfl ?_)
        refine s_cons (op_extract (.int .i64 (addV a.Sum b.Sum)) rfl rfl ?_)
        refine s_cons (op_extract (.bool (addB a.Sum b.Sum)) rfl rfl ?_)
        refine s_cons (op_assign (.int .i64 (addV a.Sum b.Sum)) rfl ?_)
        refine s_cons (op_assign (.bool (addB a.Sum b.Sum)) rfl ?_)
        refine s_nil ?_
        refine then_n ?_
        refine cE_seq ?_
        refine cE_seq ?_
        refine cE_region rfl ?_
        refine s_cons (op_move (.bool (addB a.Sum b.Sum)) rfl ?_)
        refine s_cons (op_not (b := addB a.Sum b.Sum) rfl ?_)
        refine s_nil ?_
        refine then_n ?_
        rcases Bool.eq_false_or_eq_true (addB a.Sum b.Sum) with b57 | b57
        · refine cE_cond false (congrArg Value.bool (congrArg (! ·) b57)) (fun h => by cases h) (fun _ => ?_)
          refine cE_skip ?_
          refine then_n ?_
          refine cE_seq ?_
          refine cE_region rfl ?_
          refine s_cons (op_fieldAddr (s := 0) Try.underlying71 rfl rfl Try.sizeOf2 rfl ?_)
          refine s_cons (op_load1 (u := (.int .i64 a.From)) Try.isAgg2 rfl (hst.cell 2 rfl) ?_)
          refine s_cons (op_fieldAddr (s := 0) Try.underlying71 rfl rfl Try.sizeOf2 rfl ?_)
          refine s_cons (op_load1 (u := (.int .i64 a.Count)) Try.isAgg2 rfl ((hst.cell 2 rfl).drop 1) ?_)
          refine s_cons (op_fieldAddr (s := 0) Try.underlying71 rfl rfl Try.sizeOf2 rfl ?_)
          refine s_cons (op_load1 (u := (.int .i64 b.Count)) Try.isAgg2 rfl ((hst.cell 1 rfl).drop 1) ?_)
          refine s_cons (op_add (k := .i64) (a := a.Count) (b := b.Count) (a.Count + b.Count) rfl rfl (xi64 (by omega) (by omega)) ?_)
          refine s_cons (op_move (.int .i64 (addV a.Sum b.Sum)) rfl ?_)
          refine s_cons (op_fieldAddr (s := 0) Try.underlying71 rfl rfl Try.sizeOf2 rfl ?_)
          refine s_cons (op_load1 (u := (.int .i64 a.Min)) Try.isAgg2 rfl ((hst.cell 2 rfl).drop 3) ?_)
          refine s_cons (op_fieldAddr (s := 0) Try.underlying71 rfl rfl Try.sizeOf2 rfl ?_)
          refine s_cons (op_load1 (u := (.int .i64 b.Min)) Try.isAgg2 rfl ((hst.cell 1 rfl).drop 3) ?_)
          refine s_cons (op_min2 (k := .i64) (a := a.Min) (b := b.Min) rfl rfl ?_)
          refine s_cons (op_fieldAddr (s := 0) Try.underlying71 rfl rfl Try.sizeOf2 rfl ?_)
          refine s_cons (op_load1 (u := (.int .i64 a.Max)) Try.isAgg2 rfl ((hst.cell 2 rfl).drop 4) ?_)
          refine s_cons (op_fieldAddr (s := 0) Try.underlying71 rfl rfl Try.sizeOf2 rfl ?_)
          refine s_cons (op_load1 (u := (.int .i64 b.Max)) Try.isAgg2 rfl ((hst.cell 1 rfl).drop 4) ?_)
          refine s_cons (op_max2 (k := .i64) (a := a.Max) (b := b.Max) rfl rfl ?_)
          refine s_cons (op_fieldAddr (s := 0) Try.underlying71 rfl rfl Try.sizeOf2 rfl ?_)
          refine s_cons (op_load1 (u := (.int .i64 a.First)) Try.isAgg2 rfl ((hst.cell 2 rfl).drop 5) ?_)
          refine s_cons (op_fieldAddr (s := 0) Try.underlying71 rfl rfl Try.sizeOf2 rfl ?_)
          refine s_cons (op_load1 (u := (.int .i64 b.Last)) Try.isAgg2 rfl ((hst.cell 1 rfl).drop 6) ?_)
          refine s_cons (op_build (r := (.agg #[(.int .i64 a.From), (.int .i64 (a.Count + b.Count)), (.int .i64 (addV a.Sum b.Sum)), (.int .i64 (min a.Min b.Min)), (.int .i64 (max a.Max b.Max)), (.int .i64 a.First), (.int .i64 b.Last)])) (evp_cons (v := (.int .i64 a.From)) rfl (evp_cons (v := (.int .i64 (a.Count + b.Count))) rfl (evp_cons (v := (.int .i64 (addV a.Sum b.Sum))) rfl (evp_cons (v := (.int .i64 (min a.Min b.Min))) rfl (evp_cons (v := (.int .i64 (max a.Max b.Max))) rfl (evp_cons (v := (.int .i64 a.First)) rfl (evp_cons (v := (.int .i64 b.Last)) rfl evp_nil))))))) (by simp [Instr.build, Instr.fill, Value.cells, Try.runUnderlying71, Try.zeroValue71]) ?_)
          refine s_cons0 (op_storeAll hst 0 rfl Try.sizeOf71 rfl rfl rfl rfl (by simp [Value.oneCell']) (fun w58 hst => ?_))
          replace hst : St w0 w58 [.blk g46 71 #[(.int .i64 a.From), (.int .i64 (a.Count + b.Count)), (.int .i64 (addV a.Sum b.Sum)), (.int .i64 (min a.Min b.Min)), (.int .i64 (max a.Max b.Max)), (.int .i64 a.First), (.int .i64 b.Last)], .blk g44 71 #[(.int .i64 b.From), (.int .i64 b.Count), (.int .i64 b.Sum), (.int .i64 b.Min), (.int .i64 b.Max), (.int .i64 b.First), (.int .i64 b.Last)], .blk g42 71 #[(.int .i64 a.From), (.int .i64 a.Count), (.int .i64 a.Sum), (.int .i64 a.Min), (.int .i64 a.Max), (.int .i64 a.First), (.int .i64 a.Last)]] := hst
          refine s_cons (op_assign (.int .i64 0) rfl ?_)
          refine s_nil ?_
          refine then_n ?_
          refine cE_ret ?_
          refine postG_r _ (rvN (cs := [(.int .i64 a.From), (.int .i64 (a.Count + b.Count)), (.int .i64 (addV a.Sum b.Sum)), (.int .i64 (min a.Min b.Min)), (.int .i64 (max a.Max b.Max)), (.int .i64 a.First), (.int .i64 b.Last)]) Try.isAgg71 Try.sizeOf71 rfl (Pt.of (hst.cell 0 rfl) rfl) rfl (rvt (v := (.int .i64 0)) rfl rvnil)) ?_
          exact ⟨(retv2 (congrArg aggV (show (⟨a.From, (a.Count + b.Count), (addV a.Sum b.Sum), (min a.Min b.Min), (max a.Max b.Max), a.First, b.Last⟩ : Agg) = (joinA a b).1 from by (unfold joinA; (repeat' split) <;> first | rfl | (exfalso; simp_all; try omega)))) (congrArg (Value.int .i64) (show 0 = (joinA a b).2 from by (unfold joinA; (repeat' split) <;> first | rfl | (exfalso; simp_all; try omega))))), hst.bare⟩
        · refine cE_cond true (congrArg Value.bool (congrArg (! ·) b57)) (fun _ => ?_) (fun h => by cases h)
          refine cE_seq ?_
          refine cE_region rfl ?_
          refine s_cons (op_build (r := (.agg #[(.int .i64 0), (.int .i64 0), (.int .i64 0), (.int .i64 0), (.int .i64 0), (.int .i64 0), (.int .i64 0)])) evp_nil (by simp [Instr.build, Instr.fill, Value.cells, Try.runUnderlying71, Try.zeroValue71]) ?_)
          refine s_cons0 (op_storeAll hst 0 rfl Try.sizeOf71 rfl rfl rfl rfl (by simp [Value.oneCell']) (fun w59 hst => ?_))
          replace hst : St w0 w59 [.blk g46 71 #[(.int .i64 0), (.int .i64 0), (.int .i64 0), (.int .i64 0), (.int .i64 0), (.int .i64 0), (.int .i64 0)], .blk g44 71 #[(.int .i64 b.From), (.int .i64 b.Count), (.int .i64 b.Sum), (.int .i64 b.Min), (.int .i64 b.Max), (.int .i64 b.First), (.int .i64 b.Last)], .blk g42 71 #[(.int .i64 a.From), (.int .i64 a.Count), (.int .i64 a.Sum), (.int .i64 a.Min), (.int .i64 a.Max), (.int .i64 a.First), (.int .i64 a.Last)]] := hst
          refine s_cons (op_assign (.int .i64 3) rfl ?_)
          refine s_nil ?_
          refine then_n ?_
          refine cE_ret ?_
          refine then_r ?_
          refine postG_r _ (rvN (cs := [(.int .i64 0), (.int .i64 0), (.int .i64 0), (.int .i64 0), (.int .i64 0), (.int .i64 0), (.int .i64 0)]) Try.isAgg71 Try.sizeOf71 rfl (Pt.of (hst.cell 0 rfl) rfl) rfl (rvt (v := (.int .i64 3)) rfl rvnil)) ?_
          exact ⟨(retv2 (congrArg aggV (show (⟨0, 0, 0, 0, 0, 0, 0⟩ : Agg) = (joinA a b).1 from by (unfold joinA; (repeat' split) <;> first | rfl | (exfalso; simp_all; try omega)))) (congrArg (Value.int .i64) (show 3 = (joinA a b).2 from by (unfold joinA; (repeat' split) <;> first | rfl | (exfalso; simp_all; try omega))))), hst.bare⟩
    · refine s_no 16 rfl (congrArg Value.bool (congrArg (! ·) b51)) ?_
      refine s_no 16 rfl (congrArg Value.bool (congrArg (! ·) b51)) ?_
      refine s_no 16 rfl (congrArg Value.bool (congrArg (! ·) b51)) ?_
      refine s_no 16 rfl (congrArg Value.bool (congrArg (! ·) b51)) ?_
      refine s_no 16 rfl (congrArg Value.bool (congrArg (! ·) b51)) ?_
      refine s_no 16 rfl (congrArg Value.bool (congrArg (! ·) b51)) ?_
      refine s_cons (op_pick_t (.bool true) (congrArg Value.bool (congrArg (! ·) b51)) rfl ?_)
      refine s_nil ?_
      refine then_n ?_
      refine cE_cond true rfl (fun _ => ?_) (fun h => by cases h)
      refine cE_seq ?_
      refine cE_region rfl ?_
      refine s_cons (op_build (r := (.agg #[(.int .i64 0), (.int .i64 0), (.int .i64 0), (.int .i64 0), (.int .i64 0), (.int .i64 0), (.int .i64 0)])) evp_nil (by simp [Instr.build, Instr.fill, Value.cells, Try.runUnderlying71, Try.zeroValue71]) ?_)
      refine s_cons0 (op_storeAll hst 0 rfl Try.sizeOf71 rfl rfl rfl rfl (by simp [Value.oneCell']) (fun w60 hst => ?_))
      replace hst : St w0 w60 [.blk g46 71 #[(.int .i64 0), (.int .i64 0), (.int .i64 0), (.int .i64 0), (.int .i64 0), (.int .i64 0), (.int .i64 0)], .blk g44 71 #[(.int .i64 b.From), (.int .i64 b.Count), (.int .i64 b.Sum), (.int .i64 b.Min), (.int .i64 b.Max), (.int .i64 b.First), (.int .i64 b.Last)], .blk g42 71 #[(.int .i64 a.From), (.int .i64 a.Count), (.int .i64 a.Sum), (.int .i64 a.Min), (.int .i64 a.Max), (.int .i64 a.First), (.int .i64 a.Last)]] := hst
      refine s_cons (op_assign (.int .i64 1) rfl ?_)
      refine s_nil ?_
      refine then_n ?_
      refine cE_ret ?_
      refine then_r ?_
      refine postG_r _ (rvN (cs := [(.int .i64 0), (.int .i64 0), (.int .i64 0), (.int .i64 0), (.int .i64 0), (.int .i64 0), (.int .i64 0)]) Try.isAgg71 Try.sizeOf71 rfl (Pt.of (hst.cell 0 rfl) rfl) rfl (rvt (v := (.int .i64 1)) rfl rvnil)) ?_
      exact ⟨(retv2 (congrArg aggV (show (⟨0, 0, 0, 0, 0, 0, 0⟩ : Agg) = (joinA a b).1 from by (unfold joinA; (repeat' split) <;> first | rfl | (exfalso; simp_all; try omega)))) (congrArg (Value.int .i64) (show 1 = (joinA a b).2 from by (unfold joinA; (repeat' split) <;> first | rfl | (exfalso; simp_all; try omega))))), hst.bare⟩
  · refine s_no 11 rfl (congrArg Value.bool (congrArg (! ·) b49)) ?_
    refine s_no 11 rfl (congrArg Value.bool (congrArg (! ·) b49)) ?_
    refine s_no 11 rfl (congrArg Value.bool (congrArg (! ·) b49)) ?_
    refine s_cons (op_pick_t (.bool true) (congrArg Value.bool (congrArg (! ·) b49)) rfl ?_)
    refine s_cons (op_move (.bool true) rfl ?_)
    refine s_no 16 rfl rfl ?_
    refine s_no 16 rfl rfl ?_
    refine s_no 16 rfl rfl ?_
    refine s_no 16 rfl rfl ?_
    refine s_no 16 rfl rfl ?_
    refine s_no 16 rfl rfl ?_
    refine s_cons (op_pick_t (.bool true) rfl rfl ?_)
    refine s_nil ?_
    refine then_n ?_
    refine cE_cond true rfl (fun _ => ?_) (fun h => by cases h)
    refine cE_seq ?_
    refine cE_region rfl ?_
    refine s_cons (op_build (r := (.agg #[(.int .i64 0), (.int .i64 0), (.int .i64 0), (.int .i64 0), (.int .i64 0), (.int .i64 0), (.int .i64 0)])) evp_nil (by simp [Instr.build, Instr.fill, Value.cells, Try.runUnderlying71, Try.zeroValue71]) ?_)
    refine s_cons0 (op_storeAll hst 0 rfl Try.sizeOf71 rfl rfl rfl rfl (by simp [Value.oneCell']) (fun w61 hst => ?_))
    replace hst : St w0 w61 [.blk g46 71 #[(.int .i64 0), (.int .i64 0), (.int .i64 0), (.int .i64 0), (.int .i64 0), (.int .i64 0), (.int .i64 0)], .blk g44 71 #[(.int .i64 b.From), (.int .i64 b.Count), (.int .i64 b.Sum), (.int .i64 b.Min), (.int .i64 b.Max), (.int .i64 b.First), (.int .i64 b.Last)], .blk g42 71 #[(.int .i64 a.From), (.int .i64 a.Count), (.int .i64 a.Sum), (.int .i64 a.Min), (.int .i64 a.Max), (.int .i64 a.First), (.int .i64 a.Last)]] := hst
    refine s_cons (op_assign (.int .i64 1) rfl ?_)
    refine s_nil ?_
    refine then_n ?_
    refine cE_ret ?_
    refine then_r ?_
    refine postG_r _ (rvN (cs := [(.int .i64 0), (.int .i64 0), (.int .i64 0), (.int .i64 0), (.int .i64 0), (.int .i64 0), (.int .i64 0)]) Try.isAgg71 Try.sizeOf71 rfl (Pt.of (hst.cell 0 rfl) rfl) rfl (rvt (v := (.int .i64 1)) rfl rvnil)) ?_
    exact ⟨(retv2 (congrArg aggV (show (⟨0, 0, 0, 0, 0, 0, 0⟩ : Agg) = (joinA a b).1 from by (unfold joinA; (repeat' split) <;> first | rfl | (exfalso; simp_all; try omega)))) (congrArg (Value.int .i64) (show 1 = (joinA a b).2 from by (unfold joinA; (repeat' split) <;> first | rfl | (exfalso; simp_all; try omega))))), hst.bare⟩

set_option maxHeartbeats 2000000 in
theorem c_rAll (w0 : World) (v_l : Value) (l : List Sample) (h_l : Sl w0 sampE v_l l) (fr : Int) (hl : ∀ s ∈ l, s.ok) (fr0 : -9223372036854775808 ≤ fr) (fr1 : fr ≤ 9223372036854775807) (hn : l.length ≤ 1000000) :
    Calls Try.prog 39 #[v_l, (.int .i64 fr)] w0 fun e w' => e = .returned (.tuple #[(.agg #[(.int .i64 (((allA l fr).1).From)), (.int .i64 (((allA l fr).1).Count)), (.int .i64 (((allA l fr).1).Sum)), (.int .i64 (((allA l fr).1).Min)), (.int .i64 (((allA l fr).1).Max)), (.int .i64 (((allA l fr).1).First)), (.int .i64 (((allA l fr).1).Last))]), (.int .i64 ((allA l fr).2))]) ∧ St w0 w' [] := by
  refine calls_G (n := 50) (rs := [.cell 4 71, .tmp 5]) Try.func39 rfl rfl rfl (by simp) ?_
  have hst := St.start w0
  refine cE_seq ?_
  refine cE_region rfl ?_
  refine s_cons (op_alloc (cs := #[(.int .i64 0), (.int .i64 0), (.int .i64 0), (.int .i64 0), (.int .i64 0), (.int .i64 0), (.int .i64 0)]) hst Try.zeroValue71 rfl (fun g62 w63 hst _ => ?_))
  replace hst : St w0 w63 [.blk g62 71 #[(.int .i64 0), (.int .i64 0), (.int .i64 0), (.int .i64 0), (.int .i64 0), (.int .i64 0), (.int .i64 0)]] := hst
  refine s_cons (op_assign (.int .i64 0) rfl ?_)
  refine s_nil ?_
  refine then_n ?_
  refine cE_seq ?_
  refine cE_seq ?_
  refine cE_region rfl ?_
  refine s_cons (op_move v_l rfl ?_)
  refine s_cons (op_len (E := sampE) (xs := l) Try.underlying22 rfl h_l ?_)
  refine s_cons (op_eql (k := .i64) (a := (l.length : Int)) (b := 0) rfl rfl ?_)
  refine s_cons (op_move (.bool (decide ((l.length : Int) = 0))) rfl ?_)
  rcases Bool.eq_false_or_eq_true (decide ((l.length : Int) = 0)) with b64 | b64
  · have c65 : (l.length : Int) = 0 := of_decide_eq_true b64
    refine s_no 13 rfl (congrArg Value.bool b64) ?_
    refine s_no 13 rfl (congrArg Value.bool b64) ?_
    refine s_cons (op_pick_t (.bool true) (congrArg Value.bool b64) rfl ?_)
    refine s_cons (op_move (.bool true) rfl ?_)
    refine s_no 17 rfl rfl ?_
    refine s_no 17 rfl rfl ?_
    refine s_cons (op_pick_t (.bool true) rfl rfl ?_)
    refine s_nil ?_
    refine then_n ?_
    refine cE_cond true rfl (fun _ => ?_) (fun h => by cases h)
    refine cE_seq ?_
    refine cE_region rfl ?_
    refine s_cons (op_build (r := (.agg #[(.int .i64 0), (.int .i64 0), (.int .i64 0), (.int .i64 0), (.int .i64 0), (.int .i64 0), (.int .i64 0)])) evp_nil (by simp [Instr.build, Instr.fill, Value.cells, Try.runUnderlying71, Try.zeroValue71]) ?_)
    refine s_cons0 (op_storeAll hst 0 rfl Try.sizeOf71 rfl rfl rfl rfl (by simp [Value.oneCell']) (fun w66 hst => ?_))
    replace hst : St w0 w66 [.blk g62 71 #[(.int .i64 0), (.int .i64 0), (.int .i64 0), (.int .i64 0), (.int .i64 0), (.int .i64 0), (.int .i64 0)]] := hst
    refine s_cons (op_assign (.int .i64 1) rfl ?_)
    refine s_nil ?_
    refine then_n ?_
    refine cE_ret ?_
    refine then_r ?_
    refine postG_r _ (rvN (cs := [(.int .i64 0), (.int .i64 0), (.int .i64 0), (.int .i64 0), (.int .i64 0), (.int .i64 0), (.int .i64 0)]) Try.isAgg71 Try.sizeOf71 rfl (Pt.of (hst.cell 0 rfl) rfl) rfl (rvt (v := (.int .i64 1)) rfl rvnil)) ?_
    exact ⟨(retv2 (congrArg aggV (show (⟨0, 0, 0, 0, 0, 0, 0⟩ : Agg) = (allA l fr).1 from by first | exact (congrArg Prod.fst (all_out (by omega))).symm | exact (congrArg Prod.snd (all_out (by omega))).symm | exact (congrArg Prod.fst (hI.trans (go_stop (by omega) (by assumption)))).symm | exact (congrArg Prod.snd (hI.trans (go_stop (by omega) (by assumption)))).symm | exact (congrArg Prod.fst (hI.trans (go_end (by omega) hmp))).symm | exact (congrArg Prod.snd (hI.trans (go_end (by omega) hmp))).symm)) (congrArg (Value.int .i64) (show 1 = (allA l fr).2 from by first | exact (congrArg Prod.fst (all_out (by omega))).symm | exact (congrArg Prod.snd (all_out (by omega))).symm | exact (congrArg Prod.fst (hI.trans (go_stop (by omega) (by assumption)))).symm | exact (congrArg Prod.snd (hI.trans (go_stop (by omega) (by assumption)))).symm | exact (congrArg Prod.fst (hI.trans (go_end (by omega) hmp))).symm | exact (congrArg Prod.snd (hI.trans (go_end (by omega) hmp))).symm))), hst.bare⟩
  · have c67 : ¬ ((l.length : Int) = 0) := of_decide_eq_false b64
    refine s_yes 13 rfl (congrArg Value.bool b64) (op_move (.int .i64 fr) rfl ?_)
    refine s_yes 13 rfl (congrArg Value.bool b64) (op_lss (k := .i64) (a := fr) (b := 0) rfl rfl ?_)
    refine s_cons (op_pick_f (.bool (decide (fr < 0))) (congrArg Value.bool b64) rfl ?_)
    refine s_cons (op_move (.bool (decide (fr < 0))) rfl ?_)
    rcases Bool.eq_false_or_eq_true (decide (fr < 0)) with b68 | b68
    · have c69 : fr < 0 := of_decide_eq_true b68
      refine s_no 17 rfl (congrArg Value.bool b68) ?_
      refine s_no 17 rfl (congrArg Value.bool b68) ?_
      refine s_cons (op_pick_t (.bool true) (congrArg Value.bool b68) rfl ?_)
      refine s_nil ?_
      refine then_n ?_
      refine cE_cond true rfl (fun _ => ?_) (fun h => by cases h)
      refine cE_seq ?_
      refine cE_region rfl ?_
      refine s_cons (op_build (r := (.agg #[(.int .i64 0), (.int .i64 0), (.int .i64 0), (.int .i64 0), (.int .i64 0), (.int .i64 0), (.int .i64 0)])) evp_nil (by simp [Instr.build, Instr.fill, Value.cells, Try.runUnderlying71, Try.zeroValue71]) ?_)
      refine s_cons0 (op_storeAll hst 0 rfl Try.sizeOf71 rfl rfl rfl rfl (by simp [Value.oneCell']) (fun w70 hst => ?_))
      replace hst : St w0 w70 [.blk g62 71 #[(.int .i64 0), (.int .i64 0), (.int .i64 0), (.int .i64 0), (.int .i64 0), (.int .i64 0), (.int .i64 0)]] := hst
      refine s_cons (op_assign (.int .i64 1) rfl ?_)
      refine s_nil ?_
      refine then_n ?_
      refine cE_ret ?_
      refine then_r ?_
      refine postG_r _ (rvN (cs := [(.int .i64 0), (.int .i64 0), (.int .i64 0), (.int .i64 0), (.int .i64 0), (.int .i64 0), (.int .i64 0)]) Try.isAgg71 Try.sizeOf71 rfl (Pt.of (hst.cell 0 rfl) rfl) rfl (rvt (v := (.int .i64 1)) rfl rvnil)) ?_
      exact ⟨(retv2 (congrArg aggV (show (⟨0, 0, 0, 0, 0, 0, 0⟩ : Agg) = (allA l fr).1 from by first | exact (congrArg Prod.fst (all_out (by omega))).symm | exact (congrArg Prod.snd (all_out (by omega))).symm | exact (congrArg Prod.fst (hI.trans (go_stop (by omega) (by assumption)))).symm | exact (congrArg Prod.snd (hI.trans (go_stop (by omega) (by assumption)))).symm | exact (congrArg Prod.fst (hI.trans (go_end (by omega) hmp))).symm | exact (congrArg Prod.snd (hI.trans (go_end (by omega) hmp))).symm)) (congrArg (Value.int .i64) (show 1 = (allA l fr).2 from by first | exact (congrArg Prod.fst (all_out (by omega))).symm | exact (congrArg Prod.snd (all_out (by omega))).symm | exact (congrArg Prod.fst (hI.trans (go_stop (by omega) (by assumption)))).symm | exact (congrArg Prod.snd (hI.trans (go_stop (by omega) (by assumption)))).symm | exact (congrArg Prod.fst (hI.trans (go_end (by omega) hmp))).symm | exact (congrArg Prod.snd (hI.trans (go_end (by omega) hmp))).symm))), hst.bare⟩
    · have c71 : ¬ (fr < 0) := of_decide_eq_false b68
      refine s_yes 17 rfl (congrArg Value.bool b68) (op_move (.int .i64 fr) rfl ?_)
      refine s_yes 17 rfl (congrArg Value.bool b68) (op_gtr (k := .i64) (a := fr) (b := 1099511627776) rfl rfl ?_)
      refine s_cons (op_pick_f (.bool (decide (1099511627776 < fr))) (congrArg Value.bool b68) rfl ?_)
      refine s_nil ?_
      refine then_n ?_
      rcases Bool.eq_false_or_eq_true (decide (1099511627776 < fr)) with b72 | b72
      · have c73 : 1099511627776 < fr := of_decide_eq_true b72
        refine cE_cond true (congrArg Value.bool b72) (fun _ => ?_) (fun h => by cases h)
        refine cE_seq ?_
        refine cE_region rfl ?_
        refine s_cons (op_build (r := (.agg #[(.int .i64 0), (.int .i64 0), (.int .i64 0), (.int .i64 0), (.int .i64 0), (.int .i64 0), (.int .i64 0)])) evp_nil (by simp [Instr.build, Instr.fill, Value.cells, Try.runUnderlying71, Try.zeroValue71]) ?_)
        refine s_cons0 (op_storeAll hst 0 rfl Try.sizeOf71 rfl rfl rfl rfl (by simp [Value.oneCell']) (fun w74 hst => ?_))
        replace hst : St w0 w74 [.blk g62 71 #[(.int .i64 0), (.int .i64 0), (.int .i64 0), (.int .i64 0), (.int .i64 0), (.int .i64 0), (.int .i64 0)]] := hst
        refine s_cons (op_assign (.int .i64 1) rfl ?_)
        refine s_nil ?_
        refine then_n ?_
        refine cE_ret ?_
        refine then_r ?_
        refine postG_r _ (rvN (cs := [(.int .i64 0), (.int .i64 0), (.int .i64 0), (.int .i64 0), (.int .i64 0), (.int .i64 0), (.int .i64 0)]) Try.isAgg71 Try.sizeOf71 rfl (Pt.of (hst.cell 0 rfl) rfl) rfl (rvt (v := (.int .i64 1)) rfl rvnil)) ?_
        exact ⟨(retv2 (congrArg aggV (show (⟨0, 0, 0, 0, 0, 0, 0⟩ : Agg) = (allA l fr).1 from by first | exact (congrArg Prod.fst (all_out (by omega))).symm | exact (congrArg Prod.snd (all_out (by omega))).symm | exact (congrArg Prod.fst (hI.trans (go_stop (by omega) (by assumption)))).symm | exact (congrArg Prod.snd (hI.trans (go_stop (by omega) (by assumption)))).symm | exact (congrArg Prod.fst (hI.trans (go_end (by omega) hmp))).symm | exact (congrArg Prod.snd (hI.trans (go_end (by omega) hmp))).symm)) (congrArg (Value.int .i64) (show 1 = (allA l fr).2 from by first | exact (congrArg Prod.fst (all_out (by omega))).symm | exact (congrArg Prod.snd (all_out (by omega))).symm | exact (congrArg Prod.fst (hI.trans (go_stop (by omega) (by assumption)))).symm | exact (congrArg Prod.snd (hI.trans (go_stop (by omega) (by assumption)))).symm | exact (congrArg Prod.fst (hI.trans (go_end (by omega) hmp))).symm | exact (congrArg Prod.snd (hI.trans (go_end (by omega) hmp))).symm))), hst.bare⟩
      · have c75 : ¬ (1099511627776 < fr) := of_decide_eq_false b72
        refine cE_cond false (congrArg Value.bool b72) (fun h => by cases h) (fun _ => ?_)
        refine cE_skip ?_
        refine then_n ?_
        refine cE_seq ?_
        refine cE_region rfl ?_
        refine s_cons (op_move v_l rfl ?_)
        refine s_cons (op_indexAddrN (E := sampE) (xs := l) 0 Try.underlying22 Try.sizeOf48 rfl h_l rfl (by omega) (by omega) (fun a76 o77 p78 => ?_))
        refine s_cons (op_loadN (cs := [(.int .i64 ((l[0]'(by omega)).T)), (.int .i64 ((l[0]'(by omega)).V))]) Try.isAgg48 Try.sizeOf48 rfl (Pt.of (p78.below hst.below) rfl) rfl ?_)
        refine s_cons (op_move (.int .i64 fr) rfl ?_)
        refine s_cons (op_call Try.call47 (evs_cons (v := (.agg #[(.int .i64 ((l[0]'(by omega)).T)), (.int .i64 ((l[0]'(by omega)).V))])) rfl (evs_cons (v := (.int .i64 fr)) rfl evs_nil)) (c_rOne (w0 := w63) (s := (l[0]'(by omega))) (fr := fr)) ?_)
        rintro _ w79 ⟨rfl, hcall⟩
        refine ⟨_, rfl, ?_⟩
        have hst : St w0 w79 [.blk g62 71 #[(.int .i64 0), (.int .i64 0), (.int .i64 0), (.int .i64 0), (.int .i64 0), (.int .i64 0), (.int .i64 0)]] := hst.call hcall
        refine s_cons (op_alloc (cs := #[(.int .i64 0), (.int .i64 0), (.int .i64 0), (.int .i64 0), (.int .i64 0), (.int .i64 0), (.int .i64 0)]) hst Try.zeroValue71 rfl (fun g80 w81 hst _ => ?_))
        replace hst : St w0 w81 [.blk g80 71 #[(.int .i64 0), (.int .i64 0), (.int .i64 0), (.int .i64 0), (.int .i64 0), (.int .i64 0), (.int .i64 0)], .blk g62 71 #[(.int .i64 0), (.int .i64 0), (.int .i64 0), (.int .i64 0), (.int .i64 0), (.int .i64 0), (.int .i64 0)]] := hst
        refine s_cons0 (op_storeAll hst 0 rfl Try.sizeOf71 rfl rfl rfl rfl (by simp [Value.oneCell']) (fun w82 hst => ?_))
        replace hst : St w0 w82 [.blk g80 71 #[(.int .i64 fr), (.int .i64 1), (.int .i64 ((l[0]'(by omega)).V)), (.int .i64 ((l[0]'(by omega)).V)), (.int .i64 ((l[0]'(by omega)).V)), (.int .i64 ((l[0]'(by omega)).V)), (.int .i64 ((l[0]'(by omega)).V))], .blk g62 71 #[(.int .i64 0), (.int .i64 0), (.int .i64 0), (.int .i64 0), (.int .i64 0), (.int .i64 0), (.int .i64 0)]] := hst
        refine s_nil ?_
        refine then_n ?_
        refine cE_seq ?_
        refine cE_seq ?_
        refine cE_region rfl ?_
        refine s_cons (op_assign (.int .i64 1) rfl ?_)
        refine s_nil ?_
        refine then_n ?_
        refine cE_block ?_
        refine cE_loop (fun (m : Nat) (ρ : Env) (w : World) => ∃ (acc : Agg) (i : Nat), m = l.length - i ∧ ρ 0 = v_l ∧ ρ 1 = (.int .i64 fr) ∧ ρ 4 = (.pointer (some ⟨g62, 0, none⟩)) ∧ ρ 10 = v_l ∧ ρ 11 = (.int .i64 (l.length : Int)) ∧ ρ 12 = (.bool (decide ((l.length : Int) = 0))) ∧ ρ 13 = (.bool (decide ((l.length : Int) = 0))) ∧ ρ 14 = (.int .i64 fr) ∧ ρ 15 = (.bool (decide (fr < 0))) ∧ ρ 16 = (.bool (decide (fr < 0))) ∧ ρ 17 = (.bool (decide (fr < 0))) ∧ ρ 18 = (.int .i64 fr) ∧ ρ 19 = (.bool (decide (1099511627776 < fr))) ∧ ρ 20 = (.bool (decide (1099511627776 < fr))) ∧ ρ 22 = v_l ∧ ρ 23 = (.pointer (some ⟨a76, o77, none⟩)) ∧ ρ 24 = (.agg #[(.int .i64 ((l[0]'(by omega)).T)), (.int .i64 ((l[0]'(by omega)).V))]) ∧ ρ 25 = (.int .i64 fr) ∧ ρ 26 = (.agg #[(.int .i64 fr), (.int .i64 1), (.int .i64 ((l[0]'(by omega)).V)), (.int .i64 ((l[0]'(by omega)).V)), (.int .i64 ((l[0]'(by omega)).V)), (.int .i64 ((l[0]'(by omega)).V)), (.int .i64 ((l[0]'(by omega)).V))]) ∧ ρ 6 = (.pointer (some ⟨g80, 0, none⟩)) ∧ ρ 7 = (.int .i64 (i : Int)) ∧ St w0 w [.blk g80 71 #[(.int .i64 acc.From), (.int .i64 acc.Count), (.int .i64 acc.Sum), (.int .i64 acc.Min), (.int .i64 acc.Max), (.int .i64 acc.First), (.int .i64 acc.Last)], .blk g62 71 #[(.int .i64 0), (.int .i64 0), (.int .i64 0), (.int .i64 0), (.int .i64 0), (.int .i64 0), (.int .i64 0)]] ∧ (i ≤ l.length) ∧ acc.ok ∧ (mayP acc) ∧ (allA l fr = goA acc (l.drop i) fr)) id _ ⟨(⟨fr, 1, (l[0]'(by omega)).V, (l[0]'(by omega)).V, (l[0]'(by omega)).V, (l[0]'(by omega)).V, (l[0]'(by omega)).V⟩ : Agg), 1, rfl, rfl, rfl, rfl, rfl, rfl, rfl, rfl, rfl, rfl, rfl, rfl, rfl, rfl, rfl, rfl, rfl, rfl, rfl, rfl, rfl, (congrArg (Value.int .i64) (show 1 = _ from by omega)), (hst.sub (.cons_cons _ (.cons_cons _ .slnil))), (by omega), (by first | exact oneA_ok (hl _ (List.getElem_mem _)).2 ⟨fr0, fr1⟩ | exact joinA_ok hok (hel (by omega))), (by first | exact one_may (by omega) (by omega) | exact join_may (by assumption)), (by first | exact all_one (by omega) | exact hI.trans (go_of (by omega) (by omega) (by omega) (by assumption)))⟩ ?_
        rintro m84 ρ85 w86 ⟨acc, i, hm84, q83_0, q83_1, q83_4, q83_10, q83_11, q83_12, q83_13, q83_14, q83_15, q83_16, q83_17, q83_18, q83_19, q83_20, q83_22, q83_23, q83_24, q83_25, q83_26, q83_6, q83_7, hst, hi, hok, hmp, hI⟩
        have hel := fun (h : i < l.length) => oneA_ok (hl _ (List.getElem_mem h)).2 ⟨fr0, fr1⟩
        refine cE_seq ?_
        refine cE_seq ?_
        refine cE_region rfl ?_
        refine s_cons (op_move (.int .i64 (i : Int)) q83_7 ?_)
        refine s_cons (op_move v_l q83_0 ?_)
        refine s_cons (op_len (E := sampE) (xs := l) Try.underlying22 rfl h_l ?_)
        refine s_cons (op_lss (k := .i64) (a := (i : Int)) (b := (l.length : Int)) rfl rfl ?_)
        refine s_nil ?_
        refine then_n ?_
        rcases Bool.eq_false_or_eq_true (decide ((i : Int) < (l.length : Int))) with b87 | b87
        · have c88 : (i : Int) < (l.length : Int) := of_decide_eq_true b87
          refine cE_cond true (congrArg Value.bool b87) (fun _ => ?_) (fun h => by cases h)
          refine cE_skip ?_
          refine then_n ?_
          refine cE_seq ?_
          refine cE_block ?_
          refine cE_seq ?_
          have hM97 : stabML [12] [(kEq (.agg #[(.int .i64 acc.From), (.int .i64 acc.Count), (.int .i64 acc.Sum), (.int .i64 acc.Min), (.int .i64 acc.Max), (.int .i64 acc.First), (.int .i64 acc.Last)])), (kEq v_l), (kEq (.int .i64 (i : Int))), (kPt0 w0 [(.int .i64 ((l[i]'(by omega)).T)), (.int .i64 ((l[i]'(by omega)).V))]), (kEq (.agg #[(.int .i64 ((l[i]'(by omega)).T)), (.int .i64 ((l[i]'(by omega)).V))])), (kEq (.int .i64 fr)), (kEq (.agg #[(.int .i64 fr), (.int .i64 1), (.int .i64 ((l[i]'(by omega)).V)), (.int .i64 ((l[i]'(by omega)).V)), (.int .i64 ((l[i]'(by omega)).V)), (.int .i64 ((l[i]'(by omega)).V)), (.int .i64 ((l[i]'(by omega)).V))])), (kEq (.tuple #[(.agg #[(.int .i64 (((joinA acc (⟨fr, 1, (l[i]'(by omega)).V, (l[i]'(by omega)).V, (l[i]'(by omega)).V, (l[i]'(by omega)).V, (l[i]'(by omega)).V⟩ : Agg)).1).From)), (.int .i64 (((joinA acc (⟨fr, 1, (l[i]'(by omega)).V, (l[i]'(by omega)).V, (l[i]'(by omega)).V, (l[i]'(by omega)).V, (l[i]'(by omega)).V⟩ : Agg)).1).Count)), (.int .i64 (((joinA acc (⟨fr, 1, (l[i]'(by omega)).V, (l[i]'(by omega)).V, (l[i]'(by omega)).V, (l[i]'(by omega)).V, (l[i]'(by omega)).V⟩ : Agg)).1).Sum)), (.int .i64 (((joinA acc (⟨fr, 1, (l[i]'(by omega)).V, (l[i]'(by omega)).V, (l[i]'(by omega)).V, (l[i]'(by omega)).V, (l[i]'(by omega)).V⟩ : Agg)).1).Min)), (.int .i64 (((joinA acc (⟨fr, 1, (l[i]'(by omega)).V, (l[i]'(by omega)).V, (l[i]'(by omega)).V, (l[i]'(by omega)).V, (l[i]'(by omega)).V⟩ : Agg)).1).Max)), (.int .i64 (((joinA acc (⟨fr, 1, (l[i]'(by omega)).V, (l[i]'(by omega)).V, (l[i]'(by omega)).V, (l[i]'(by omega)).V, (l[i]'(by omega)).V⟩ : Agg)).1).First)), (.int .i64 (((joinA acc (⟨fr, 1, (l[i]'(by omega)).V, (l[i]'(by omega)).V, (l[i]'(by omega)).V, (l[i]'(by omega)).V, (l[i]'(by omega)).V⟩ : Agg)).1).Last))]), (.int .i64 ((joinA acc (⟨fr, 1, (l[i]'(by omega)).V, (l[i]'(by omega)).V, (l[i]'(by omega)).V, (l[i]'(by omega)).V, (l[i]'(by omega)).V⟩ : Agg)).2))])), (kEq (.tuple #[(.agg #[(.int .i64 (((joinA acc (⟨fr, 1, (l[i]'(by omega)).V, (l[i]'(by omega)).V, (l[i]'(by omega)).V, (l[i]'(by omega)).V, (l[i]'(by omega)).V⟩ : Agg)).1).From)), (.int .i64 (((joinA acc (⟨fr, 1, (l[i]'(by omega)).V, (l[i]'(by omega)).V, (l[i]'(by omega)).V, (l[i]'(by omega)).V, (l[i]'(by omega)).V⟩ : Agg)).1).Count)), (.int .i64 (((joinA acc (⟨fr, 1, (l[i]'(by omega)).V, (l[i]'(by omega)).V, (l[i]'(by omega)).V, (l[i]'(by omega)).V, (l[i]'(by omega)).V⟩ : Agg)).1).Sum)), (.int .i64 (((joinA acc (⟨fr, 1, (l[i]'(by omega)).V, (l[i]'(by omega)).V, (l[i]'(by omega)).V, (l[i]'(by omega)).V, (l[i]'(by omega)).V⟩ : Agg)).1).Min)), (.int .i64 (((joinA acc (⟨fr, 1, (l[i]'(by omega)).V, (l[i]'(by omega)).V, (l[i]'(by omega)).V, (l[i]'(by omega)).V, (l[i]'(by omega)).V⟩ : Agg)).1).Max)), (.int .i64 (((joinA acc (⟨fr, 1, (l[i]'(by omega)).V, (l[i]'(by omega)).V, (l[i]'(by omega)).V, (l[i]'(by omega)).V, (l[i]'(by omega)).V⟩ : Agg)).1).First)), (.int .i64 (((joinA acc (⟨fr, 1, (l[i]'(by omega)).V, (l[i]'(by omega)).V, (l[i]'(by omega)).V, (l[i]'(by omega)).V, (l[i]'(by omega)).V⟩ : Agg)).1).Last))]), (.int .i64 ((joinA acc (⟨fr, 1, (l[i]'(by omega)).V, (l[i]'(by omega)).V, (l[i]'(by omega)).V, (l[i]'(by omega)).V, (l[i]'(by omega)).V⟩ : Agg)).2))])), (kEq (.agg #[(.int .i64 (((joinA acc (⟨fr, 1, (l[i]'(by omega)).V, (l[i]'(by omega)).V, (l[i]'(by omega)).V, (l[i]'(by omega)).V, (l[i]'(by omega)).V⟩ : Agg)).1).From)), (.int .i64 (((joinA acc (⟨fr, 1, (l[i]'(by omega)).V, (l[i]'(by omega)).V, (l[i]'(by omega)).V, (l[i]'(by omega)).V, (l[i]'(by omega)).V⟩ : Agg)).1).Count)), (.int .i64 (((joinA acc (⟨fr, 1, (l[i]'(by omega)).V, (l[i]'(by omega)).V, (l[i]'(by omega)).V, (l[i]'(by omega)).V, (l[i]'(by omega)).V⟩ : Agg)).1).Sum)), (.int .i64 (((joinA acc (⟨fr, 1, (l[i]'(by omega)).V, (l[i]'(by omega)).V, (l[i]'(by omega)).V, (l[i]'(by omega)).V, (l[i]'(by omega)).V⟩ : Agg)).1).Min)), (.int .i64 (((joinA acc (⟨fr, 1, (l[i]'(by omega)).V, (l[i]'(by omega)).V, (l[i]'(by omega)).V, (l[i]'(by omega)).V, (l[i]'(by omega)).V⟩ : Agg)).1).Max)), (.int .i64 (((joinA acc (⟨fr, 1, (l[i]'(by omega)).V, (l[i]'(by omega)).V, (l[i]'(by omega)).V, (l[i]'(by omega)).V, (l[i]'(by omega)).V⟩ : Agg)).1).First)), (.int .i64 (((joinA acc (⟨fr, 1, (l[i]'(by omega)).V, (l[i]'(by omega)).V, (l[i]'(by omega)).V, (l[i]'(by omega)).V, (l[i]'(by omega)).V⟩ : Agg)).1).Last))])), (kEq (.int .i64 ((joinA acc (⟨fr, 1, (l[i]'(by omega)).V, (l[i]'(by omega)).V, (l[i]'(by omega)).V, (l[i]'(by omega)).V, (l[i]'(by omega)).V⟩ : Agg)).2))), (fun (D : Nat → Bool) (v : Value) (w : World) => ∃ g94 : Nat, v = .pointer (some ⟨g94, 0, none⟩) ∧ (D 12 = false → St w0 w [.blk g94 71 #[(.int .i64 0), (.int .i64 0), (.int .i64 0), (.int .i64 0), (.int .i64 0), (.int .i64 0), (.int .i64 0)], .blk g80 71 #[(.int .i64 acc.From), (.int .i64 acc.Count), (.int .i64 acc.Sum), (.int .i64 acc.Min), (.int .i64 acc.Max), (.int .i64 acc.First), (.int .i64 acc.Last)], .blk g62 71 #[(.int .i64 0), (.int .i64 0), (.int .i64 0), (.int .i64 0), (.int .i64 0), (.int .i64 0), (.int .i64 0)]]) ∧ (D 12 = true → St w0 w [.blk g94 71 #[(.int .i64 (((joinA acc (⟨fr, 1, (l[i]'(by omega)).V, (l[i]'(by omega)).V, (l[i]'(by omega)).V, (l[i]'(by omega)).V, (l[i]'(by omega)).V⟩ : Agg)).1).From)), (.int .i64 (((joinA acc (⟨fr, 1, (l[i]'(by omega)).V, (l[i]'(by omega)).V, (l[i]'(by omega)).V, (l[i]'(by omega)).V, (l[i]'(by omega)).V⟩ : Agg)).1).Count)), (.int .i64 (((joinA acc (⟨fr, 1, (l[i]'(by omega)).V, (l[i]'(by omega)).V, (l[i]'(by omega)).V, (l[i]'(by omega)).V, (l[i]'(by omega)).V⟩ : Agg)).1).Sum)), (.int .i64 (((joinA acc (⟨fr, 1, (l[i]'(by omega)).V, (l[i]'(by omega)).V, (l[i]'(by omega)).V, (l[i]'(by omega)).V, (l[i]'(by omega)).V⟩ : Agg)).1).Min)), (.int .i64 (((joinA acc (⟨fr, 1, (l[i]'(by omega)).V, (l[i]'(by omega)).V, (l[i]'(by omega)).V, (l[i]'(by omega)).V, (l[i]'(by omega)).V⟩ : Agg)).1).Max)), (.int .i64 (((joinA acc (⟨fr, 1, (l[i]'(by omega)).V, (l[i]'(by omega)).V, (l[i]'(by omega)).V, (l[i]'(by omega)).V, (l[i]'(by omega)).V⟩ : Agg)).1).First)), (.int .i64 (((joinA acc (⟨fr, 1, (l[i]'(by omega)).V, (l[i]'(by omega)).V, (l[i]'(by omega)).V, (l[i]'(by omega)).V, (l[i]'(by omega)).V⟩ : Agg)).1).Last))], .blk g80 71 #[(.int .i64 acc.From), (.int .i64 acc.Count), (.int .i64 acc.Sum), (.int .i64 acc.Min), (.int .i64 acc.Max), (.int .i64 acc.First), (.int .i64 acc.Last)], .blk g62 71 #[(.int .i64 0), (.int .i64 0), (.int .i64 0), (.int .i64 0), (.int .i64 0), (.int .i64 0), (.int .i64 0)]])), kAny, (kEq (.int .i64 ((joinA acc (⟨fr, 1, (l[i]'(by omega)).V, (l[i]'(by omega)).V, (l[i]'(by omega)).V, (l[i]'(by omega)).V, (l[i]'(by omega)).V⟩ : Agg)).2)))] := ⟨mEq, mEq, mEq, mPt0, mEq, mEq, mEq, mEq, mEq, mEq, mEq, (fun D D' v w w' hD hb ⟨g, h1, h2⟩ => ⟨g, h1, (fun x0 => (h2.1 ((hD 12 (by decide)).symm.trans x0)).ext hb), (fun x0 => (h2.2 ((hD 12 (by decide)).symm.trans x0)).ext hb)⟩), mAny, mEq, trivial⟩
          refine cE_regionK (fun (D : Nat → Bool) (w : World) => St w0 w [.blk g80 71 #[(.int .i64 acc.From), (.int .i64 acc.Count), (.int .i64 acc.Sum), (.int .i64 acc.Min), (.int .i64 acc.Max), (.int .i64 acc.First), (.int .i64 acc.Last)], .blk g62 71 #[(.int .i64 0), (.int .i64 0), (.int .i64 0), (.int .i64 0), (.int .i64 0), (.int .i64 0), (.int .i64 0)]] ∧ (D 12 = false → St w0 w [.blk g80 71 #[(.int .i64 acc.From), (.int .i64 acc.Count), (.int .i64 acc.Sum), (.int .i64 acc.Min), (.int .i64 acc.Max), (.int .i64 acc.First), (.int .i64 acc.Last)], .blk g62 71 #[(.int .i64 0), (.int .i64 0), (.int .i64 0), (.int .i64 0), (.int .i64 0), (.int .i64 0), (.int .i64 0)]]) ∧ (D 12 = true → St w0 w [.blk g80 71 #[(.int .i64 acc.From), (.int .i64 acc.Count), (.int .i64 acc.Sum), (.int .i64 acc.Min), (.int .i64 acc.Max), (.int .i64 acc.First), (.int .i64 acc.Last)], .blk g62 71 #[(.int .i64 0), (.int .i64 0), (.int .i64 0), (.int .i64 0), (.int .i64 0), (.int .i64 0), (.int .i64 0)]])) [[(6, none)], [(0, none)], [(7, none)], [(35, some 1), (36, some 2)], [(37, some 3)], [(1, none)], [(38, some 4), (39, some 5)], [(34, some 0), (40, some 6)], [(41, some 7)], [(33, some 8)], [(33, some 8)], [], [(8, some 11), (42, some 9)], [(43, some 10)]] (RofK [(kEq (.agg #[(.int .i64 acc.From), (.int .i64 acc.Count), (.int .i64 acc.Sum), (.int .i64 acc.Min), (.int .i64 acc.Max), (.int .i64 acc.First), (.int .i64 acc.Last)])), (kEq v_l), (kEq (.int .i64 (i : Int))), (kPt0 w0 [(.int .i64 ((l[i]'(by omega)).T)), (.int .i64 ((l[i]'(by omega)).V))]), (kEq (.agg #[(.int .i64 ((l[i]'(by omega)).T)), (.int .i64 ((l[i]'(by omega)).V))])), (kEq (.int .i64 fr)), (kEq (.agg #[(.int .i64 fr), (.int .i64 1), (.int .i64 ((l[i]'(by omega)).V)), (.int .i64 ((l[i]'(by omega)).V)), (.int .i64 ((l[i]'(by omega)).V)), (.int .i64 ((l[i]'(by omega)).V)), (.int .i64 ((l[i]'(by omega)).V))])), (kEq (.tuple #[(.agg #[(.int .i64 (((joinA acc (⟨fr, 1, (l[i]'(by omega)).V, (l[i]'(by omega)).V, (l[i]'(by omega)).V, (l[i]'(by omega)).V, (l[i]'(by omega)).V⟩ : Agg)).1).From)), (.int .i64 (((joinA acc (⟨fr, 1, (l[i]'(by omega)).V, (l[i]'(by omega)).V, (l[i]'(by omega)).V, (l[i]'(by omega)).V, (l[i]'(by omega)).V⟩ : Agg)).1).Count)), (.int .i64 (((joinA acc (⟨fr, 1, (l[i]'(by omega)).V, (l[i]'(by omega)).V, (l[i]'(by omega)).V, (l[i]'(by omega)).V, (l[i]'(by omega)).V⟩ : Agg)).1).Sum)), (.int .i64 (((joinA acc (⟨fr, 1, (l[i]'(by omega)).V, (l[i]'(by omega)).V, (l[i]'(by omega)).V, (l[i]'(by omega)).V, (l[i]'(by omega)).V⟩ : Agg)).1).Min)), (.int .i64 (((joinA acc (⟨fr, 1, (l[i]'(by omega)).V, (l[i]'(by omega)).V, (l[i]'(by omega)).V, (l[i]'(by omega)).V, (l[i]'(by omega)).V⟩ : Agg)).1).Max)), (.int .i64 (((joinA acc (⟨fr, 1, (l[i]'(by omega)).V, (l[i]'(by omega)).V, (l[i]'(by omega)).V, (l[i]'(by omega)).V, (l[i]'(by omega)).V⟩ : Agg)).1).First)), (.int .i64 (((joinA acc (⟨fr, 1, (l[i]'(by omega)).V, (l[i]'(by omega)).V, (l[i]'(by omega)).V, (l[i]'(by omega)).V, (l[i]'(by omega)).V⟩ : Agg)).1).Last))]), (.int .i64 ((joinA acc (⟨fr, 1, (l[i]'(by omega)).V, (l[i]'(by omega)).V, (l[i]'(by omega)).V, (l[i]'(by omega)).V, (l[i]'(by omega)).V⟩ : Agg)).2))])), (kEq (.tuple #[(.agg #[(.int .i64 (((joinA acc (⟨fr, 1, (l[i]'(by omega)).V, (l[i]'(by omega)).V, (l[i]'(by omega)).V, (l[i]'(by omega)).V, (l[i]'(by omega)).V⟩ : Agg)).1).From)), (.int .i64 (((joinA acc (⟨fr, 1, (l[i]'(by omega)).V, (l[i]'(by omega)).V, (l[i]'(by omega)).V, (l[i]'(by omega)).V, (l[i]'(by omega)).V⟩ : Agg)).1).Count)), (.int .i64 (((joinA acc (⟨fr, 1, (l[i]'(by omega)).V, (l[i]'(by omega)).V, (l[i]'(by omega)).V, (l[i]'(by omega)).V, (l[i]'(by omega)).V⟩ : Agg)).1).Sum)), (.int .i64 (((joinA acc (⟨fr, 1, (l[i]'(by omega)).V, (l[i]'(by omega)).V, (l[i]'(by omega)).V, (l[i]'(by omega)).V, (l[i]'(by omega)).V⟩ : Agg)).1).Min)), (.int .i64 (((joinA acc (⟨fr, 1, (l[i]'(by omega)).V, (l[i]'(by omega)).V, (l[i]'(by omega)).V, (l[i]'(by omega)).V, (l[i]'(by omega)).V⟩ : Agg)).1).Max)), (.int .i64 (((joinA acc (⟨fr, 1, (l[i]'(by omega)).V, (l[i]'(by omega)).V, (l[i]'(by omega)).V, (l[i]'(by omega)).V, (l[i]'(by omega)).V⟩ : Agg)).1).First)), (.int .i64 (((joinA acc (⟨fr, 1, (l[i]'(by omega)).V, (l[i]'(by omega)).V, (l[i]'(by omega)).V, (l[i]'(by omega)).V, (l[i]'(by omega)).V⟩ : Agg)).1).Last))]), (.int .i64 ((joinA acc (⟨fr, 1, (l[i]'(by omega)).V, (l[i]'(by omega)).V, (l[i]'(by omega)).V, (l[i]'(by omega)).V, (l[i]'(by omega)).V⟩ : Agg)).2))])), (kEq (.agg #[(.int .i64 (((joinA acc (⟨fr, 1, (l[i]'(by omega)).V, (l[i]'(by omega)).V, (l[i]'(by omega)).V, (l[i]'(by omega)).V, (l[i]'(by omega)).V⟩ : Agg)).1).From)), (.int .i64 (((joinA acc (⟨fr, 1, (l[i]'(by omega)).V, (l[i]'(by omega)).V, (l[i]'(by omega)).V, (l[i]'(by omega)).V, (l[i]'(by omega)).V⟩ : Agg)).1).Count)), (.int .i64 (((joinA acc (⟨fr, 1, (l[i]'(by omega)).V, (l[i]'(by omega)).V, (l[i]'(by omega)).V, (l[i]'(by omega)).V, (l[i]'(by omega)).V⟩ : Agg)).1).Sum)), (.int .i64 (((joinA acc (⟨fr, 1, (l[i]'(by omega)).V, (l[i]'(by omega)).V, (l[i]'(by omega)).V, (l[i]'(by omega)).V, (l[i]'(by omega)).V⟩ : Agg)).1).Min)), (.int .i64 (((joinA acc (⟨fr, 1, (l[i]'(by omega)).V, (l[i]'(by omega)).V, (l[i]'(by omega)).V, (l[i]'(by omega)).V, (l[i]'(by omega)).V⟩ : Agg)).1).Max)), (.int .i64 (((joinA acc (⟨fr, 1, (l[i]'(by omega)).V, (l[i]'(by omega)).V, (l[i]'(by omega)).V, (l[i]'(by omega)).V, (l[i]'(by omega)).V⟩ : Agg)).1).First)), (.int .i64 (((joinA acc (⟨fr, 1, (l[i]'(by omega)).V, (l[i]'(by omega)).V, (l[i]'(by omega)).V, (l[i]'(by omega)).V, (l[i]'(by omega)).V⟩ : Agg)).1).Last))])), (kEq (.int .i64 ((joinA acc (⟨fr, 1, (l[i]'(by omega)).V, (l[i]'(by omega)).V, (l[i]'(by omega)).V, (l[i]'(by omega)).V, (l[i]'(by omega)).V⟩ : Agg)).2))), (fun (D : Nat → Bool) (v : Value) (w : World) => ∃ g94 : Nat, v = .pointer (some ⟨g94, 0, none⟩) ∧ (D 12 = false → St w0 w [.blk g94 71 #[(.int .i64 0), (.int .i64 0), (.int .i64 0), (.int .i64 0), (.int .i64 0), (.int .i64 0), (.int .i64 0)], .blk g80 71 #[(.int .i64 acc.From), (.int .i64 acc.Count), (.int .i64 acc.Sum), (.int .i64 acc.Min), (.int .i64 acc.Max), (.int .i64 acc.First), (.int .i64 acc.Last)], .blk g62 71 #[(.int .i64 0), (.int .i64 0), (.int .i64 0), (.int .i64 0), (.int .i64 0), (.int .i64 0), (.int .i64 0)]]) ∧ (D 12 = true → St w0 w [.blk g94 71 #[(.int .i64 (((joinA acc (⟨fr, 1, (l[i]'(by omega)).V, (l[i]'(by omega)).V, (l[i]'(by omega)).V, (l[i]'(by omega)).V, (l[i]'(by omega)).V⟩ : Agg)).1).From)), (.int .i64 (((joinA acc (⟨fr, 1, (l[i]'(by omega)).V, (l[i]'(by omega)).V, (l[i]'(by omega)).V, (l[i]'(by omega)).V, (l[i]'(by omega)).V⟩ : Agg)).1).Count)), (.int .i64 (((joinA acc (⟨fr, 1, (l[i]'(by omega)).V, (l[i]'(by omega)).V, (l[i]'(by omega)).V, (l[i]'(by omega)).V, (l[i]'(by omega)).V⟩ : Agg)).1).Sum)), (.int .i64 (((joinA acc (⟨fr, 1, (l[i]'(by omega)).V, (l[i]'(by omega)).V, (l[i]'(by omega)).V, (l[i]'(by omega)).V, (l[i]'(by omega)).V⟩ : Agg)).1).Min)), (.int .i64 (((joinA acc (⟨fr, 1, (l[i]'(by omega)).V, (l[i]'(by omega)).V, (l[i]'(by omega)).V, (l[i]'(by omega)).V, (l[i]'(by omega)).V⟩ : Agg)).1).Max)), (.int .i64 (((joinA acc (⟨fr, 1, (l[i]'(by omega)).V, (l[i]'(by omega)).V, (l[i]'(by omega)).V, (l[i]'(by omega)).V, (l[i]'(by omega)).V⟩ : Agg)).1).First)), (.int .i64 (((joinA acc (⟨fr, 1, (l[i]'(by omega)).V, (l[i]'(by omega)).V, (l[i]'(by omega)).V, (l[i]'(by omega)).V, (l[i]'(by omega)).V⟩ : Agg)).1).Last))], .blk g80 71 #[(.int .i64 acc.From), (.int .i64 acc.Count), (.int .i64 acc.Sum), (.int .i64 acc.Min), (.int .i64 acc.Max), (.int .i64 acc.First), (.int .i64 acc.Last)], .blk g62 71 #[(.int .i64 0), (.int .i64 0), (.int .i64 0), (.int .i64 0), (.int .i64 0), (.int .i64 0), (.int .i64 0)]])), kAny, (kEq (.int .i64 ((joinA acc (⟨fr, 1, (l[i]'(by omega)).V, (l[i]'(by omega)).V, (l[i]'(by omega)).V, (l[i]'(by omega)).V, (l[i]'(by omega)).V⟩ : Agg)).2)))]) (by kernel_rfl) rfl (by kernel_rfl) ⟨hst.drewW.sub (.cons_cons _ (.cons_cons _ .slnil)), (fun _ => hst.drewW), (fun h => absurd h Bool.false_ne_true)⟩ ⟨?_, ?_, ?_, ?_, ?_, ?_, ?_, ?_, ?_, ?_, ?_, ?_, ?_, ?_, trivial⟩ ?_
          · rintro D99 ρ100 w101 hD102 hE103 hC104 hJ105 hA106 ⟨f6, _⟩
            have hst := hJ105.2.1 (not_yet hD102 (fun hm => (hC104 12 0 hm (by kernel_rfl))))
            replace hst : St w0 w101 [.blk g80 71 #[(.int .i64 acc.From), (.int .i64 acc.Count), (.int .i64 acc.Sum), (.int .i64 acc.Min), (.int .i64 acc.Max), (.int .i64 acc.First), (.int .i64 acc.Last)], .blk g62 71 #[(.int .i64 0), (.int .i64 0), (.int .i64 0), (.int .i64 0), (.int .i64 0), (.int .i64 0), (.int .i64 0)]] := hst
            exact go_plain (op_loadN (cs := [(.int .i64 acc.From), (.int .i64 acc.Count), (.int .i64 acc.Sum), (.int .i64 acc.Min), (.int .i64 acc.Max), (.int .i64 acc.First), (.int .i64 acc.Last)]) Try.isAgg71 Try.sizeOf71 (f6.trans q83_6) (Pt.of (hst.cell 0 rfl) rfl) rfl (kN0 (i := 0) hM97 (by decide) (by exact hJ105) (by exact rfl)))
          · rintro D107 ρ108 w109 hD110 hE111 hC112 hJ113 hA114 ⟨f0, _⟩
            have hst := hJ113.2.1 (not_yet hD110 (fun hm => (hC112 12 1 hm (by kernel_rfl))))
            replace hst : St w0 w109 [.blk g80 71 #[(.int .i64 acc.From), (.int .i64 acc.Count), (.int .i64 acc.Sum), (.int .i64 acc.Min), (.int .i64 acc.Max), (.int .i64 acc.First), (.int .i64 acc.Last)], .blk g62 71 #[(.int .i64 0), (.int .i64 0), (.int .i64 0), (.int .i64 0), (.int .i64 0), (.int .i64 0), (.int .i64 0)]] := hst
            exact go_plain (op_move v_l (f0.trans q83_0) (kN0 (i := 1) hM97 (by decide) (by exact hJ113) (by exact rfl)))
          · rintro D115 ρ116 w117 hD118 hE119 hC120 hJ121 hA122 ⟨f7, _⟩
            have hst := hJ121.2.1 (not_yet hD118 (fun hm => (hC120 12 2 hm (by kernel_rfl))))
            replace hst : St w0 w117 [.blk g80 71 #[(.int .i64 acc.From), (.int .i64 acc.Count), (.int .i64 acc.Sum), (.int .i64 acc.Min), (.int .i64 acc.Max), (.int .i64 acc.First), (.int .i64 acc.Last)], .blk g62 71 #[(.int .i64 0), (.int .i64 0), (.int .i64 0), (.int .i64 0), (.int .i64 0), (.int .i64 0), (.int .i64 0)]] := hst
            exact go_plain (op_move (.int .i64 (i : Int)) (f7.trans q83_7) (kN0 (i := 2) hM97 (by decide) (by exact hJ121) (by exact rfl)))
          · rintro D123 ρ124 w125 hD126 hE127 hC128 hJ129 hA130 ⟨f35, f36, _⟩
            have hst := hJ129.2.1 (not_yet hD126 (fun hm => (hC128 12 3 hm (by kernel_rfl))))
            replace hst : St w0 w125 [.blk g80 71 #[(.int .i64 acc.From), (.int .i64 acc.Count), (.int .i64 acc.Sum), (.int .i64 acc.Min), (.int .i64 acc.Max), (.int .i64 acc.First), (.int .i64 acc.Last)], .blk g62 71 #[(.int .i64 0), (.int .i64 0), (.int .i64 0), (.int .i64 0), (.int .i64 0), (.int .i64 0), (.int .i64 0)]] := hst
            refine go_plain (op_indexAddrN (E := sampE) (xs := l) i Try.underlying22 Try.sizeOf48 f35 h_l f36 (by omega) (by omega) (fun a131 o132 p133 => ?_))
            exact (kN0 (i := 3) hM97 (by decide) (by exact hJ129) (by exact ⟨_, _, rfl, p133⟩))
          · rintro D134 ρ135 w136 hD137 hE138 hC139 hJ140 hA141 ⟨f37, _⟩
            have hst := hJ140.2.1 (not_yet hD137 (fun hm => (hC139 12 4 hm (by kernel_rfl))))
            replace hst : St w0 w136 [.blk g80 71 #[(.int .i64 acc.From), (.int .i64 acc.Count), (.int .i64 acc.Sum), (.int .i64 acc.Min), (.int .i64 acc.Max), (.int .i64 acc.First), (.int .i64 acc.Last)], .blk g62 71 #[(.int .i64 0), (.int .i64 0), (.int .i64 0), (.int .i64 0), (.int .i64 0), (.int .i64 0), (.int .i64 0)]] := hst
            obtain ⟨a142, o143, e144, p145⟩ := f37
            exact go_plain (op_loadN (cs := [(.int .i64 ((l[i]'(by omega)).T)), (.int .i64 ((l[i]'(by omega)).V))]) Try.isAgg48 Try.sizeOf48 e144 (Pt.of (p145.below hst.below) rfl) rfl (kN0 (i := 4) hM97 (by decide) (by exact hJ140) (by exact rfl)))
          · rintro D146 ρ147 w148 hD149 hE150 hC151 hJ152 hA153 ⟨f1, _⟩
            have hst := hJ152.2.1 (not_yet hD149 (fun hm => (hC151 12 5 hm (by kernel_rfl))))
            replace hst : St w0 w148 [.blk g80 71 #[(.int .i64 acc.From), (.int .i64 acc.Count), (.int .i64 acc.Sum), (.int .i64 acc.Min), (.int .i64 acc.Max), (.int .i64 acc.First), (.int .i64 acc.Last)], .blk g62 71 #[(.int .i64 0), (.int .i64 0), (.int .i64 0), (.int .i64 0), (.int .i64 0), (.int .i64 0), (.int .i64 0)]] := hst
            exact go_plain (op_move (.int .i64 fr) (f1.trans q83_1) (kN0 (i := 5) hM97 (by decide) (by exact hJ152) (by exact rfl)))
          · rintro D154 ρ155 w156 hD157 hE158 hC159 hJ160 hA161 ⟨f38, f39, _⟩
            have hst := hJ160.2.1 (not_yet hD157 (fun hm => (hC159 12 6 hm (by kernel_rfl))))
            replace hst : St w0 w156 [.blk g80 71 #[(.int .i64 acc.From), (.int .i64 acc.Count), (.int .i64 acc.Sum), (.int .i64 acc.Min), (.int .i64 acc.Max), (.int .i64 acc.First), (.int .i64 acc.Last)], .blk g62 71 #[(.int .i64 0), (.int .i64 0), (.int .i64 0), (.int .i64 0), (.int .i64 0), (.int .i64 0), (.int .i64 0)]] := hst
            refine go_plain (op_call Try.call47 (evs_cons (v := (.agg #[(.int .i64 ((l[i]'(by omega)).T)), (.int .i64 ((l[i]'(by omega)).V))])) f38 (evs_cons (v := (.int .i64 fr)) f39 evs_nil)) (c_rOne (w0 := w156) (s := (l[i]'(by omega))) (fr := fr)) ?_)
            rintro _ w162 ⟨rfl, hcall⟩
            refine ⟨_, rfl, ?_⟩
            exact kN (i := 6) hM97 (by decide) hcall.below (by exact ⟨(hJ160.1).ext hcall.below, (fun x0 => (hJ160.2.1 x0).ext hcall.below), (fun x0 => (hJ160.2.2 x0).ext hcall.below)⟩) (by exact rfl)
          · rintro D163 ρ164 w165 hD166 hE167 hC168 hJ169 hA170 ⟨f34, f40, _⟩
            have hst := hJ169.2.1 (not_yet hD166 (fun hm => (hC168 12 7 hm (by kernel_rfl))))
            replace hst : St w0 w165 [.blk g80 71 #[(.int .i64 acc.From), (.int .i64 acc.Count), (.int .i64 acc.Sum), (.int .i64 acc.Min), (.int .i64 acc.Max), (.int .i64 acc.First), (.int .i64 acc.Last)], .blk g62 71 #[(.int .i64 0), (.int .i64 0), (.int .i64 0), (.int .i64 0), (.int .i64 0), (.int .i64 0), (.int .i64 0)]] := hst
            refine go_plain (op_call Try.call48 (evs_cons (v := (.agg #[(.int .i64 acc.From), (.int .i64 acc.Count), (.int .i64 acc.Sum), (.int .i64 acc.Min), (.int .i64 acc.Max), (.int .i64 acc.First), (.int .i64 acc.Last)])) f34 (evs_cons (v := (.agg #[(.int .i64 fr), (.int .i64 1), (.int .i64 ((l[i]'(by omega)).V)), (.int .i64 ((l[i]'(by omega)).V)), (.int .i64 ((l[i]'(by omega)).V)), (.int .i64 ((l[i]'(by omega)).V)), (.int .i64 ((l[i]'(by omega)).V))])) f40 evs_nil)) (c_rJoin (w0 := w165) (a := acc) (b := (⟨fr, 1, (l[i]'(by omega)).V, (l[i]'(by omega)).V, (l[i]'(by omega)).V, (l[i]'(by omega)).V, (l[i]'(by omega)).V⟩ : Agg)) (ha := hok) (hb := (hel (by omega)))) ?_)
            rintro _ w171 ⟨rfl, hcall⟩
            refine ⟨_, rfl, ?_⟩
            exact kN (i := 7) hM97 (by decide) hcall.below (by exact ⟨(hJ169.1).ext hcall.below, (fun x0 => (hJ169.2.1 x0).ext hcall.below), (fun x0 => (hJ169.2.2 x0).ext hcall.below)⟩) (by exact rfl)
          · rintro D172 ρ173 w174 hD175 hE176 hC177 hJ178 hA179 ⟨f41, _⟩
            have hst := hJ178.2.1 (not_yet hD175 (fun hm => (hC177 12 8 hm (by kernel_rfl))))
            replace hst : St w0 w174 [.blk g80 71 #[(.int .i64 acc.From), (.int .i64 acc.Count), (.int .i64 acc.Sum), (.int .i64 acc.Min), (.int .i64 acc.Max), (.int .i64 acc.First), (.int .i64 acc.Last)], .blk g62 71 #[(.int .i64 0), (.int .i64 0), (.int .i64 0), (.int .i64 0), (.int .i64 0), (.int .i64 0), (.int .i64 0)]] := hst
            exact go_plain (op_move (.tuple #[(.agg #[(.int .i64 (((joinA acc (⟨fr, 1, (l[i]'(by omega)).V, (l[i]'(by omega)).V, (l[i]'(by omega)).V, (l[i]'(by omega)).V, (l[i]'(by omega)).V⟩ : Agg)).1).From)), (.int .i64 (((joinA acc (⟨fr, 1, (l[i]'(by omega)).V, (l[i]'(by omega)).V, (l[i]'(by omega)).V, (l[i]'(by omega)).V, (l[i]'(by omega)).V⟩ : Agg)).1).Count)), (.int .i64 (((joinA acc (⟨fr, 1, (l[i]'(by omega)).V, (l[i]'(by omega)).V, (l[i]'(by omega)).V, (l[i]'(by omega)).V, (l[i]'(by omega)).V⟩ : Agg)).1).Sum)), (.int .i64 (((joinA acc (⟨fr, 1, (l[i]'(by omega)).V, (l[i]'(by omega)).V, (l[i]'(by omega)).V, (l[i]'(by omega)).V, (l[i]'(by omega)).V⟩ : Agg)).1).Min)), (.int .i64 (((joinA acc (⟨fr, 1, (l[i]'(by omega)).V, (l[i]'(by omega)).V, (l[i]'(by omega)).V, (l[i]'(by omega)).V, (l[i]'(by omega)).V⟩ : Agg)).1).Max)), (.int .i64 (((joinA acc (⟨fr, 1, (l[i]'(by omega)).V, (l[i]'(by omega)).V, (l[i]'(by omega)).V, (l[i]'(by omega)).V, (l[i]'(by omega)).V⟩ : Agg)).1).First)), (.int .i64 (((joinA acc (⟨fr, 1, (l[i]'(by omega)).V, (l[i]'(by omega)).V, (l[i]'(by omega)).V, (l[i]'(by omega)).V, (l[i]'(by omega)).V⟩ : Agg)).1).Last))]), (.int .i64 ((joinA acc (⟨fr, 1, (l[i]'(by omega)).V, (l[i]'(by omega)).V, (l[i]'(by omega)).V, (l[i]'(by omega)).V, (l[i]'(by omega)).V⟩ : Agg)).2))]) f41 (kN0 (i := 8) hM97 (by decide) (by exact hJ178) (by exact rfl)))
          · rintro D180 ρ181 w182 hD183 hE184 hC185 hJ186 hA187 ⟨f33, _⟩
            have hst := hJ186.2.1 (not_yet hD183 (fun hm => (hC185 12 9 hm (by kernel_rfl))))
            replace hst : St w0 w182 [.blk g80 71 #[(.int .i64 acc.From), (.int .i64 acc.Count), (.int .i64 acc.Sum), (.int .i64 acc.Min), (.int .i64 acc.Max), (.int .i64 acc.First), (.int .i64 acc.Last)], .blk g62 71 #[(.int .i64 0), (.int .i64 0), (.int .i64 0), (.int .i64 0), (.int .i64 0), (.int .i64 0), (.int .i64 0)]] := hst
            exact go_plain (op_extract (.agg #[(.int .i64 (((joinA acc (⟨fr, 1, (l[i]'(by omega)).V, (l[i]'(by omega)).V, (l[i]'(by omega)).V, (l[i]'(by omega)).V, (l[i]'(by omega)).V⟩ : Agg)).1).From)), (.int .i64 (((joinA acc (⟨fr, 1, (l[i]'(by omega)).V, (l[i]'(by omega)).V, (l[i]'(by omega)).V, (l[i]'(by omega)).V, (l[i]'(by omega)).V⟩ : Agg)).1).Count)), (.int .i64 (((joinA acc (⟨fr, 1, (l[i]'(by omega)).V, (l[i]'(by omega)).V, (l[i]'(by omega)).V, (l[i]'(by omega)).V, (l[i]'(by omega)).V⟩ : Agg)).1).Sum)), (.int .i64 (((joinA acc (⟨fr, 1, (l[i]'(by omega)).V, (l[i]'(by omega)).V, (l[i]'(by omega)).V, (l[i]'(by omega)).V, (l[i]'(by omega)).V⟩ : Agg)).1).Min)), (.int .i64 (((joinA acc (⟨fr, 1, (l[i]'(by omega)).V, (l[i]'(by omega)).V, (l[i]'(by omega)).V, (l[i]'(by omega)).V, (l[i]'(by omega)).V⟩ : Agg)).1).Max)), (.int .i64 (((joinA acc (⟨fr, 1, (l[i]'(by omega)).V, (l[i]'(by omega)).V, (l[i]'(by omega)).V, (l[i]'(by omega)).V, (l[i]'(by omega)).V⟩ : Agg)).1).First)), (.int .i64 (((joinA acc (⟨fr, 1, (l[i]'(by omega)).V, (l[i]'(by omega)).V, (l[i]'(by omega)).V, (l[i]'(by omega)).V, (l[i]'(by omega)).V⟩ : Agg)).1).Last))]) f33 rfl (kN0 (i := 9) hM97 (by decide) (by exact hJ186) (by exact rfl)))
          · rintro D188 ρ189 w190 hD191 hE192 hC193 hJ194 hA195 ⟨f33, _⟩
            have hst := hJ194.1
            exact go_plain (op_extract (.int .i64 ((joinA acc (⟨fr, 1, (l[i]'(by omega)).V, (l[i]'(by omega)).V, (l[i]'(by omega)).V, (l[i]'(by omega)).V, (l[i]'(by omega)).V⟩ : Agg)).2)) f33 rfl (kN0 (i := 10) hM97 (by decide) (by exact hJ194) (by exact rfl)))
          · rintro D196 ρ197 w198 hD199 hE200 hC201 hJ202 hA203 ⟨_⟩
            have hst := hJ202.2.1 (not_yet hD199 (fun hm => (hC201 12 11 hm (by kernel_rfl))))
            replace hst : St w0 w198 [.blk g80 71 #[(.int .i64 acc.From), (.int .i64 acc.Count), (.int .i64 acc.Sum), (.int .i64 acc.Min), (.int .i64 acc.Max), (.int .i64 acc.First), (.int .i64 acc.Last)], .blk g62 71 #[(.int .i64 0), (.int .i64 0), (.int .i64 0), (.int .i64 0), (.int .i64 0), (.int .i64 0), (.int .i64 0)]] := hst
            have hst := St.start w198
            refine go_plain (op_alloc (cs := #[(.int .i64 0), (.int .i64 0), (.int .i64 0), (.int .i64 0), (.int .i64 0), (.int .i64 0), (.int .i64 0)]) hst Try.zeroValue71 rfl (fun g204 w205 hst _ => ?_))
            exact kN (i := 11) hM97 (by decide) hst.below (by exact ⟨(hJ202.1).ext hst.below, (fun x0 => (hJ202.2.1 x0).ext hst.below), (fun x0 => (hJ202.2.2 x0).ext hst.below)⟩) (by exact ⟨_, rfl, (fun y0 => (hJ202.2.1 y0).call hst), (fun y0 => absurd (show D196 12 = true from y0) (by rw [(not_yet hD199 (fun hm => (hC201 12 11 hm (by kernel_rfl))))]; decide))⟩)
          · rintro D206 ρ207 w208 hD209 hE210 hC211 hJ212 hA213 ⟨f8, f42, _⟩
            obtain ⟨g214, e215, hh216⟩ := hA213 11 8 (hE210 11 (by kernel_rfl)) rfl
            have hst : St w0 w208 [.blk g214 71 #[(.int .i64 0), (.int .i64 0), (.int .i64 0), (.int .i64 0), (.int .i64 0), (.int .i64 0), (.int .i64 0)], .blk g80 71 #[(.int .i64 acc.From), (.int .i64 acc.Count), (.int .i64 acc.Sum), (.int .i64 acc.Min), (.int .i64 acc.Max), (.int .i64 acc.First), (.int .i64 acc.Last)], .blk g62 71 #[(.int .i64 0), (.int .i64 0), (.int .i64 0), (.int .i64 0), (.int .i64 0), (.int .i64 0), (.int .i64 0)]] := hh216.1 hD209
            refine go_plain (op_storeAll hst 0 rfl Try.sizeOf71 e215 f42 rfl rfl (by simp [Value.oneCell']) (fun w217 hst => ?_))
            replace hst : St w0 w217 [.blk g214 71 #[(.int .i64 (((joinA acc (⟨fr, 1, (l[i]'(by omega)).V, (l[i]'(by omega)).V, (l[i]'(by omega)).V, (l[i]'(by omega)).V, (l[i]'(by omega)).V⟩ : Agg)).1).From)), (.int .i64 (((joinA acc (⟨fr, 1, (l[i]'(by omega)).V, (l[i]'(by omega)).V, (l[i]'(by omega)).V, (l[i]'(by omega)).V, (l[i]'(by omega)).V⟩ : Agg)).1).Count)), (.int .i64 (((joinA acc (⟨fr, 1, (l[i]'(by omega)).V, (l[i]'(by omega)).V, (l[i]'(by omega)).V, (l[i]'(by omega)).V, (l[i]'(by omega)).V⟩ : Agg)).1).Sum)), (.int .i64 (((joinA acc (⟨fr, 1, (l[i]'(by omega)).V, (l[i]'(by omega)).V, (l[i]'(by omega)).V, (l[i]'(by omega)).V, (l[i]'(by omega)).V⟩ : Agg)).1).Min)), (.int .i64 (((joinA acc (⟨fr, 1, (l[i]'(by omega)).V, (l[i]'(by omega)).V, (l[i]'(by omega)).V, (l[i]'(by omega)).V, (l[i]'(by omega)).V⟩ : Agg)).1).Max)), (.int .i64 (((joinA acc (⟨fr, 1, (l[i]'(by omega)).V, (l[i]'(by omega)).V, (l[i]'(by omega)).V, (l[i]'(by omega)).V, (l[i]'(by omega)).V⟩ : Agg)).1).First)), (.int .i64 (((joinA acc (⟨fr, 1, (l[i]'(by omega)).V, (l[i]'(by omega)).V, (l[i]'(by omega)).V, (l[i]'(by omega)).V, (l[i]'(by omega)).V⟩ : Agg)).1).Last))], .blk g80 71 #[(.int .i64 acc.From), (.int .i64 acc.Count), (.int .i64 acc.Sum), (.int .i64 acc.Min), (.int .i64 acc.Max), (.int .i64 acc.First), (.int .i64 acc.Last)], .blk g62 71 #[(.int .i64 0), (.int .i64 0), (.int .i64 0), (.int .i64 0), (.int .i64 0), (.int .i64 0), (.int .i64 0)]] := hst
            have hI218 : stabIXs 12 [11] D206 0 [(kEq (.agg #[(.int .i64 acc.From), (.int .i64 acc.Count), (.int .i64 acc.Sum), (.int .i64 acc.Min), (.int .i64 acc.Max), (.int .i64 acc.First), (.int .i64 acc.Last)])), (kEq v_l), (kEq (.int .i64 (i : Int))), (kPt0 w0 [(.int .i64 ((l[i]'(by omega)).T)), (.int .i64 ((l[i]'(by omega)).V))]), (kEq (.agg #[(.int .i64 ((l[i]'(by omega)).T)), (.int .i64 ((l[i]'(by omega)).V))])), (kEq (.int .i64 fr)), (kEq (.agg #[(.int .i64 fr), (.int .i64 1), (.int .i64 ((l[i]'(by omega)).V)), (.int .i64 ((l[i]'(by omega)).V)), (.int .i64 ((l[i]'(by omega)).V)), (.int .i64 ((l[i]'(by omega)).V)), (.int .i64 ((l[i]'(by omega)).V))])), (kEq (.tuple #[(.agg #[(.int .i64 (((joinA acc (⟨fr, 1, (l[i]'(by omega)).V, (l[i]'(by omega)).V, (l[i]'(by omega)).V, (l[i]'(by omega)).V, (l[i]'(by omega)).V⟩ : Agg)).1).From)), (.int .i64 (((joinA acc (⟨fr, 1, (l[i]'(by omega)).V, (l[i]'(by omega)).V, (l[i]'(by omega)).V, (l[i]'(by omega)).V, (l[i]'(by omega)).V⟩ : Agg)).1).Count)), (.int .i64 (((joinA acc (⟨fr, 1, (l[i]'(by omega)).V, (l[i]'(by omega)).V, (l[i]'(by omega)).V, (l[i]'(by omega)).V, (l[i]'(by omega)).V⟩ : Agg)).1).Sum)), (.int .i64 (((joinA acc (⟨fr, 1, (l[i]'(by omega)).V, (l[i]'(by omega)).V, (l[i]'(by omega)).V, (l[i]'(by omega)).V, (l[i]'(by omega)).V⟩ : Agg)).1).Min)), (.int .i64 (((joinA acc (⟨fr, 1, (l[i]'(by omega)).V, (l[i]'(by omega)).V, (l[i]'(by omega)).V, (l[i]'(by omega)).V, (l[i]'(by omega)).V⟩ : Agg)).1).Max)), (.int .i64 (((joinA acc (⟨fr, 1, (l[i]'(by omega)).V, (l[i]'(by omega)).V, (l[i]'(by omega)).V, (l[i]'(by omega)).V, (l[i]'(by omega)).V⟩ : Agg)).1).First)), (.int .i64 (((joinA acc (⟨fr, 1, (l[i]'(by omega)).V, (l[i]'(by omega)).V, (l[i]'(by omega)).V, (l[i]'(by omega)).V, (l[i]'(by omega)).V⟩ : Agg)).1).Last))]), (.int .i64 ((joinA acc (⟨fr, 1, (l[i]'(by omega)).V, (l[i]'(by omega)).V, (l[i]'(by omega)).V, (l[i]'(by omega)).V, (l[i]'(by omega)).V⟩ : Agg)).2))])), (kEq (.tuple #[(.agg #[(.int .i64 (((joinA acc (⟨fr, 1, (l[i]'(by omega)).V, (l[i]'(by omega)).V, (l[i]'(by omega)).V, (l[i]'(by omega)).V, (l[i]'(by omega)).V⟩ : Agg)).1).From)), (.int .i64 (((joinA acc (⟨fr, 1, (l[i]'(by omega)).V, (l[i]'(by omega)).V, (l[i]'(by omega)).V, (l[i]'(by omega)).V, (l[i]'(by omega)).V⟩ : Agg)).1).Count)), (.int .i64 (((joinA acc (⟨fr, 1, (l[i]'(by omega)).V, (l[i]'(by omega)).V, (l[i]'(by omega)).V, (l[i]'(by omega)).V, (l[i]'(by omega)).V⟩ : Agg)).1).Sum)), (.int .i64 (((joinA acc (⟨fr, 1, (l[i]'(by omega)).V, (l[i]'(by omega)).V, (l[i]'(by omega)).V, (l[i]'(by omega)).V, (l[i]'(by omega)).V⟩ : Agg)).1).Min)), (.int .i64 (((joinA acc (⟨fr, 1, (l[i]'(by omega)).V, (l[i]'(by omega)).V, (l[i]'(by omega)).V, (l[i]'(by omega)).V, (l[i]'(by omega)).V⟩ : Agg)).1).Max)), (.int .i64 (((joinA acc (⟨fr, 1, (l[i]'(by omega)).V, (l[i]'(by omega)).V, (l[i]'(by omega)).V, (l[i]'(by omega)).V, (l[i]'(by omega)).V⟩ : Agg)).1).First)), (.int .i64 (((joinA acc (⟨fr, 1, (l[i]'(by omega)).V, (l[i]'(by omega)).V, (l[i]'(by omega)).V, (l[i]'(by omega)).V, (l[i]'(by omega)).V⟩ : Agg)).1).Last))]), (.int .i64 ((joinA acc (⟨fr, 1, (l[i]'(by omega)).V, (l[i]'(by omega)).V, (l[i]'(by omega)).V, (l[i]'(by omega)).V, (l[i]'(by omega)).V⟩ : Agg)).2))])), (kEq (.agg #[(.int .i64 (((joinA acc (⟨fr, 1, (l[i]'(by omega)).V, (l[i]'(by omega)).V, (l[i]'(by omega)).V, (l[i]'(by omega)).V, (l[i]'(by omega)).V⟩ : Agg)).1).From)), (.int .i64 (((joinA acc (⟨fr, 1, (l[i]'(by omega)).V, (l[i]'(by omega)).V, (l[i]'(by omega)).V, (l[i]'(by omega)).V, (l[i]'(by omega)).V⟩ : Agg)).1).Count)), (.int .i64 (((joinA acc (⟨fr, 1, (l[i]'(by omega)).V, (l[i]'(by omega)).V, (l[i]'(by omega)).V, (l[i]'(by omega)).V, (l[i]'(by omega)).V⟩ : Agg)).1).Sum)), (.int .i64 (((joinA acc (⟨fr, 1, (l[i]'(by omega)).V, (l[i]'(by omega)).V, (l[i]'(by omega)).V, (l[i]'(by omega)).V, (l[i]'(by omega)).V⟩ : Agg)).1).Min)), (.int .i64 (((joinA acc (⟨fr, 1, (l[i]'(by omega)).V, (l[i]'(by omega)).V, (l[i]'(by omega)).V, (l[i]'(by omega)).V, (l[i]'(by omega)).V⟩ : Agg)).1).Max)), (.int .i64 (((joinA acc (⟨fr, 1, (l[i]'(by omega)).V, (l[i]'(by omega)).V, (l[i]'(by omega)).V, (l[i]'(by omega)).V, (l[i]'(by omega)).V⟩ : Agg)).1).First)), (.int .i64 (((joinA acc (⟨fr, 1, (l[i]'(by omega)).V, (l[i]'(by omega)).V, (l[i]'(by omega)).V, (l[i]'(by omega)).V, (l[i]'(by omega)).V⟩ : Agg)).1).Last))])), (kEq (.int .i64 ((joinA acc (⟨fr, 1, (l[i]'(by omega)).V, (l[i]'(by omega)).V, (l[i]'(by omega)).V, (l[i]'(by omega)).V, (l[i]'(by omega)).V⟩ : Agg)).2))), (fun (D : Nat → Bool) (v : Value) (w : World) => ∃ g94 : Nat, v = .pointer (some ⟨g94, 0, none⟩) ∧ (D 12 = false → St w0 w [.blk g94 71 #[(.int .i64 0), (.int .i64 0), (.int .i64 0), (.int .i64 0), (.int .i64 0), (.int .i64 0), (.int .i64 0)], .blk g80 71 #[(.int .i64 acc.From), (.int .i64 acc.Count), (.int .i64 acc.Sum), (.int .i64 acc.Min), (.int .i64 acc.Max), (.int .i64 acc.First), (.int .i64 acc.Last)], .blk g62 71 #[(.int .i64 0), (.int .i64 0), (.int .i64 0), (.int .i64 0), (.int .i64 0), (.int .i64 0), (.int .i64 0)]]) ∧ (D 12 = true → St w0 w [.blk g94 71 #[(.int .i64 (((joinA acc (⟨fr, 1, (l[i]'(by omega)).V, (l[i]'(by omega)).V, (l[i]'(by omega)).V, (l[i]'(by omega)).V, (l[i]'(by omega)).V⟩ : Agg)).1).From)), (.int .i64 (((joinA acc (⟨fr, 1, (l[i]'(by omega)).V, (l[i]'(by omega)).V, (l[i]'(by omega)).V, (l[i]'(by omega)).V, (l[i]'(by omega)).V⟩ : Agg)).1).Count)), (.int .i64 (((joinA acc (⟨fr, 1, (l[i]'(by omega)).V, (l[i]'(by omega)).V, (l[i]'(by omega)).V, (l[i]'(by omega)).V, (l[i]'(by omega)).V⟩ : Agg)).1).Sum)), (.int .i64 (((joinA acc (⟨fr, 1, (l[i]'(by omega)).V, (l[i]'(by omega)).V, (l[i]'(by omega)).V, (l[i]'(by omega)).V, (l[i]'(by omega)).V⟩ : Agg)).1).Min)), (.int .i64 (((joinA acc (⟨fr, 1, (l[i]'(by omega)).V, (l[i]'(by omega)).V, (l[i]'(by omega)).V, (l[i]'(by omega)).V, (l[i]'(by omega)).V⟩ : Agg)).1).Max)), (.int .i64 (((joinA acc (⟨fr, 1, (l[i]'(by omega)).V, (l[i]'(by omega)).V, (l[i]'(by omega)).V, (l[i]'(by omega)).V, (l[i]'(by omega)).V⟩ : Agg)).1).First)), (.int .i64 (((joinA acc (⟨fr, 1, (l[i]'(by omega)).V, (l[i]'(by omega)).V, (l[i]'(by omega)).V, (l[i]'(by omega)).V, (l[i]'(by omega)).V⟩ : Agg)).1).Last))], .blk g80 71 #[(.int .i64 acc.From), (.int .i64 acc.Count), (.int .i64 acc.Sum), (.int .i64 acc.Min), (.int .i64 acc.Max), (.int .i64 acc.First), (.int .i64 acc.Last)], .blk g62 71 #[(.int .i64 0), (.int .i64 0), (.int .i64 0), (.int .i64 0), (.int .i64 0), (.int .i64 0), (.int .i64 0)]])), kAny, (kEq (.int .i64 ((joinA acc (⟨fr, 1, (l[i]'(by omega)).V, (l[i]'(by omega)).V, (l[i]'(by omega)).V, (l[i]'(by omega)).V, (l[i]'(by omega)).V⟩ : Agg)).2)))] := ⟨Or.inr (Or.inr (Or.inr iEq)), Or.inr (Or.inr (Or.inr iEq)), Or.inr (Or.inr (Or.inr iEq)), Or.inr (Or.inr (Or.inr iPt0)), Or.inr (Or.inr (Or.inr iEq)), Or.inr (Or.inr (Or.inr iEq)), Or.inr (Or.inr (Or.inr iEq)), Or.inr (Or.inr (Or.inr iEq)), Or.inr (Or.inr (Or.inr iEq)), Or.inr (Or.inr (Or.inr iEq)), Or.inr (Or.inr (Or.inr iEq)), Or.inr (Or.inl (by decide)), Or.inl rfl, Or.inr (Or.inr (Or.inl (not_yet hD209 (fun hm => (hC211 13 12 hm (by kernel_rfl)))))), trivial⟩
            refine ⟨by exact ⟨hst.sub (.cons _ (.cons_cons _ (.cons_cons _ .slnil))), (fun y0 => absurd y0 (fun h => Bool.noConfusion h)), (fun y0 => hst.sub (.cons _ (.cons_cons _ (.cons_cons _ .slnil))))⟩, by exact trivial, kX [11] hI218 ?_⟩
            intro j d hj hjd hDj h
            simp only [List.mem_cons, List.not_mem_nil, or_false] at hj
            subst hj
            obtain rfl : 8 = d := Option.some.inj hjd
            exact ⟨_, e215, (fun y0 => absurd y0 (fun h => Bool.noConfusion h)), (fun y0 => hst.sub (.cons_cons _ (.cons_cons _ (.cons_cons _ .slnil))))⟩
          · rintro D219 ρ220 w221 hD222 hE223 hC224 hJ225 hA226 ⟨f43, _⟩
            have hst := hJ225.2.2 (hE223 12 (by kernel_rfl))
            replace hst : St w0 w221 [.blk g80 71 #[(.int .i64 acc.From), (.int .i64 acc.Count), (.int .i64 acc.Sum), (.int .i64 acc.Min), (.int .i64 acc.Max), (.int .i64 acc.First), (.int .i64 acc.Last)], .blk g62 71 #[(.int .i64 0), (.int .i64 0), (.int .i64 0), (.int .i64 0), (.int .i64 0), (.int .i64 0), (.int .i64 0)]] := hst
            exact go_plain (op_assign (.int .i64 ((joinA acc (⟨fr, 1, (l[i]'(by omega)).V, (l[i]'(by omega)).V, (l[i]'(by omega)).V, (l[i]'(by omega)).V, (l[i]'(by omega)).V⟩ : Agg)).2)) f43 (kN0 (i := 13) hM97 (by decide) (by exact hJ225) (by exact rfl)))
          · intro ρ227 w228 Dw228 hallw228 hJw228 hRw228 hkw228
            obtain ⟨g229, uw228_8, hhw228⟩ := hRw228 11 8 rfl
            have hst : St w0 w228 [.blk g229 71 #[(.int .i64 (((joinA acc (⟨fr, 1, (l[i]'(by omega)).V, (l[i]'(by omega)).V, (l[i]'(by omega)).V, (l[i]'(by omega)).V, (l[i]'(by omega)).V⟩ : Agg)).1).From)), (.int .i64 (((joinA acc (⟨fr, 1, (l[i]'(by omega)).V, (l[i]'(by omega)).V, (l[i]'(by omega)).V, (l[i]'(by omega)).V, (l[i]'(by omega)).V⟩ : Agg)).1).Count)), (.int .i64 (((joinA acc (⟨fr, 1, (l[i]'(by omega)).V, (l[i]'(by omega)).V, (l[i]'(by omega)).V, (l[i]'(by omega)).V, (l[i]'(by omega)).V⟩ : Agg)).1).Sum)), (.int .i64 (((joinA acc (⟨fr, 1, (l[i]'(by omega)).V, (l[i]'(by omega)).V, (l[i]'(by omega)).V, (l[i]'(by omega)).V, (l[i]'(by omega)).V⟩ : Agg)).1).Min)), (.int .i64 (((joinA acc (⟨fr, 1, (l[i]'(by omega)).V, (l[i]'(by omega)).V, (l[i]'(by omega)).V, (l[i]'(by omega)).V, (l[i]'(by omega)).V⟩ : Agg)).1).Max)), (.int .i64 (((joinA acc (⟨fr, 1, (l[i]'(by omega)).V, (l[i]'(by omega)).V, (l[i]'(by omega)).V, (l[i]'(by omega)).V, (l[i]'(by omega)).V⟩ : Agg)).1).First)), (.int .i64 (((joinA acc (⟨fr, 1, (l[i]'(by omega)).V, (l[i]'(by omega)).V, (l[i]'(by omega)).V, (l[i]'(by omega)).V, (l[i]'(by omega)).V⟩ : Agg)).1).Last))], .blk g80 71 #[(.int .i64 acc.From), (.int .i64 acc.Count), (.int .i64 acc.Sum), (.int .i64 acc.Min), (.int .i64 acc.Max), (.int .i64 acc.First), (.int .i64 acc.Last)], .blk g62 71 #[(.int .i64 0), (.int .i64 0), (.int .i64 0), (.int .i64 0), (.int .i64 0), (.int .i64 0), (.int .i64 0)]] := hhw228.2 (hallw228 12 (show 12 < 14 from by decide))
            have uw228_0 : ρ227 0 = v_l := (hkw228 0 rfl).trans q83_0
            have uw228_1 : ρ227 1 = (.int .i64 fr) := (hkw228 1 rfl).trans q83_1
            have uw228_4 : ρ227 4 = (.pointer (some ⟨g62, 0, none⟩)) := (hkw228 4 rfl).trans q83_4
            have uw228_10 : ρ227 10 = v_l := (hkw228 10 rfl).trans q83_10
            have uw228_11 : ρ227 11 = (.int .i64 (l.length : Int)) := (hkw228 11 rfl).trans q83_11
            have uw228_12 : ρ227 12 = (.bool (decide ((l.length : Int) = 0))) := (hkw228 12 rfl).trans q83_12
            have uw228_13 : ρ227 13 = (.bool (decide ((l.length : Int) = 0))) := (hkw228 13 rfl).trans q83_13
            have uw228_14 : ρ227 14 = (.int .i64 fr) := (hkw228 14 rfl).trans q83_14
            have uw228_15 : ρ227 15 = (.bool (decide (fr < 0))) := (hkw228 15 rfl).trans q83_15
            have uw228_16 : ρ227 16 = (.bool (decide (fr < 0))) := (hkw228 16 rfl).trans q83_16
            have uw228_17 : ρ227 17 = (.bool (decide (fr < 0))) := (hkw228 17 rfl).trans q83_17
            have uw228_18 : ρ227 18 = (.int .i64 fr) := (hkw228 18 rfl).trans q83_18
            have uw228_19 : ρ227 19 = (.bool (decide (1099511627776 < fr))) := (hkw228 19 rfl).trans q83_19
            have uw228_20 : ρ227 20 = (.bool (decide (1099511627776 < fr))) := (hkw228 20 rfl).trans q83_20
            have uw228_22 : ρ227 22 = v_l := (hkw228 22 rfl).trans q83_22
            have uw228_23 : ρ227 23 = (.pointer (some ⟨a76, o77, none⟩)) := (hkw228 23 rfl).trans q83_23
            have uw228_24 : ρ227 24 = (.agg #[(.int .i64 ((l[0]'(by omega)).T)), (.int .i64 ((l[0]'(by omega)).V))]) := (hkw228 24 rfl).trans q83_24
            have uw228_25 : ρ227 25 = (.int .i64 fr) := (hkw228 25 rfl).trans q83_25
            have uw228_26 : ρ227 26 = (.agg #[(.int .i64 fr), (.int .i64 1), (.int .i64 ((l[0]'(by omega)).V)), (.int .i64 ((l[0]'(by omega)).V)), (.int .i64 ((l[0]'(by omega)).V)), (.int .i64 ((l[0]'(by omega)).V)), (.int .i64 ((l[0]'(by omega)).V))]) := (hkw228 26 rfl).trans q83_26
            have uw228_6 : ρ227 6 = (.pointer (some ⟨g80, 0, none⟩)) := (hkw228 6 rfl).trans q83_6
            have uw228_7 : ρ227 7 = (.int .i64 (i : Int)) := (hkw228 7 rfl).trans q83_7
            have uw228_27 : ρ227 27 = (.int .i64 (i : Int)) := (hkw228 27 rfl).trans rfl
            have uw228_28 : ρ227 28 = v_l := (hkw228 28 rfl).trans rfl
            have uw228_29 : ρ227 29 = (.int .i64 (l.length : Int)) := (hkw228 29 rfl).trans rfl
            have uw228_30 : ρ227 30 = (.bool (decide ((i : Int) < (l.length : Int)))) := (hkw228 30 rfl).trans rfl
            have uw228_9 : ρ227 9 = (.int .i64 ((joinA acc (⟨fr, 1, (l[i]'(by omega)).V, (l[i]'(by omega)).V, (l[i]'(by omega)).V, (l[i]'(by omega)).V, (l[i]'(by omega)).V⟩ : Agg)).2)) := hRw228 13 9 rfl
            refine then_n ?_
            refine cE_seq ?_
            refine cE_seq ?_
            refine cE_region rfl ?_
            refine s_cons (op_move (.int .i64 ((joinA acc (⟨fr, 1, (l[i]'(by omega)).V, (l[i]'(by omega)).V, (l[i]'(by omega)).V, (l[i]'(by omega)).V, (l[i]'(by omega)).V⟩ : Agg)).2)) uw228_9 ?_)
            refine s_cons (op_neq (k := .i64) (a := (joinA acc (⟨fr, 1, (l[i]'(by omega)).V, (l[i]'(by omega)).V, (l[i]'(by omega)).V, (l[i]'(by omega)).V, (l[i]'(by omega)).V⟩ : Agg)).2) (b := 0) rfl rfl ?_)
            refine s_nil ?_
            refine then_n ?_
            rcases Bool.eq_false_or_eq_true (decide (((joinA acc (⟨fr, 1, (l[i]'(by omega)).V, (l[i]'(by omega)).V, (l[i]'(by omega)).V, (l[i]'(by omega)).V, (l[i]'(by omega)).V⟩ : Agg)).2) = 0)) with b230 | b230
            · have c231 : ((joinA acc (⟨fr, 1, (l[i]'(by omega)).V, (l[i]'(by omega)).V, (l[i]'(by omega)).V, (l[i]'(by omega)).V, (l[i]'(by omega)).V⟩ : Agg)).2) = 0 := of_decide_eq_true b230
              refine cE_cond false (congrArg Value.bool (congrArg (! ·) b230)) (fun h => by cases h) (fun _ => ?_)
              refine cE_skip ?_
              refine then_n ?_
              refine cE_region rfl ?_
              refine s_cons (op_loadN (cs := [(.int .i64 (((joinA acc (⟨fr, 1, (l[i]'(by omega)).V, (l[i]'(by omega)).V, (l[i]'(by omega)).V, (l[i]'(by omega)).V, (l[i]'(by omega)).V⟩ : Agg)).1).From)), (.int .i64 (((joinA acc (⟨fr, 1, (l[i]'(by omega)).V, (l[i]'(by omega)).V, (l[i]'(by omega)).V, (l[i]'(by omega)).V, (l[i]'(by omega)).V⟩ : Agg)).1).Count)), (.int .i64 (((joinA acc (⟨fr, 1, (l[i]'(by omega)).V, (l[i]'(by omega)).V, (l[i]'(by omega)).V, (l[i]'(by omega)).V, (l[i]'(by omega)).V⟩ : Agg)).1).Sum)), (.int .i64 (((joinA acc (⟨fr, 1, (l[i]'(by omega)).V, (l[i]'(by omega)).V, (l[i]'(by omega)).V, (l[i]'(by omega)).V, (l[i]'(by omega)).V⟩ : Agg)).1).Min)), (.int .i64 (((joinA acc (⟨fr, 1, (l[i]'(by omega)).V, (l[i]'(by omega)).V, (l[i]'(by omega)).V, (l[i]'(by omega)).V, (l[i]'(by omega)).V⟩ : Agg)).1).Max)), (.int .i64 (((joinA acc (⟨fr, 1, (l[i]'(by omega)).V, (l[i]'(by omega)).V, (l[i]'(by omega)).V, (l[i]'(by omega)).V, (l[i]'(by omega)).V⟩ : Agg)).1).First)), (.int .i64 (((joinA acc (⟨fr, 1, (l[i]'(by omega)).V, (l[i]'(by omega)).V, (l[i]'(by omega)).V, (l[i]'(by omega)).V, (l[i]'(by omega)).V⟩ : Agg)).1).Last))]) Try.isAgg71 Try.sizeOf71 uw228_8 (Pt.of (hst.cell 0 rfl) rfl) rfl ?_)
              refine s_cons0 (op_storeAll hst 1 rfl Try.sizeOf71 uw228_6 rfl rfl rfl (by simp [Value.oneCell']) (fun w232 hst => ?_))
              replace hst : St w0 w232 [.blk g229 71 #[(.int .i64 (((joinA acc (⟨fr, 1, (l[i]'(by omega)).V, (l[i]'(by omega)).V, (l[i]'(by omega)).V, (l[i]'(by omega)).V, (l[i]'(by omega)).V⟩ : Agg)).1).From)), (.int .i64 (((joinA acc (⟨fr, 1, (l[i]'(by omega)).V, (l[i]'(by omega)).V, (l[i]'(by omega)).V, (l[i]'(by omega)).V, (l[i]'(by omega)).V⟩ : Agg)).1).Count)), (.int .i64 (((joinA acc (⟨fr, 1, (l[i]'(by omega)).V, (l[i]'(by omega)).V, (l[i]'(by omega)).V, (l[i]'(by omega)).V, (l[i]'(by omega)).V⟩ : Agg)).1).Sum)), (.int .i64 (((joinA acc (⟨fr, 1, (l[i]'(by omega)).V, (l[i]'(by omega)).V, (l[i]'(by omega)).V, (l[i]'(by omega)).V, (l[i]'(by omega)).V⟩ : Agg)).1).Min)), (.int .i64 (((joinA acc (⟨fr, 1, (l[i]'(by omega)).V, (l[i]'(by omega)).V, (l[i]'(by omega)).V, (l[i]'(by omega)).V, (l[i]'(by omega)).V⟩ : Agg)).1).Max)), (.int .i64 (((joinA acc (⟨fr, 1, (l[i]'(by omega)).V, (l[i]'(by omega)).V, (l[i]'(by omega)).V, (l[i]'(by omega)).V, (l[i]'(by omega)).V⟩ : Agg)).1).First)), (.int .i64 (((joinA acc (⟨fr, 1, (l[i]'(by omega)).V, (l[i]'(by omega)).V, (l[i]'(by omega)).V, (l[i]'(by omega)).V, (l[i]'(by omega)).V⟩ : Agg)).1).Last))], .blk g80 71 #[(.int .i64 (((joinA acc (⟨fr, 1, (l[i]'(by omega)).V, (l[i]'(by omega)).V, (l[i]'(by omega)).V, (l[i]'(by omega)).V, (l[i]'(by omega)).V⟩ : Agg)).1).From)), (.int .i64 (((joinA acc (⟨fr, 1, (l[i]'(by omega)).V, (l[i]'(by omega)).V, (l[i]'(by omega)).V, (l[i]'(by omega)).V, (l[i]'(by omega)).V⟩ : Agg)).1).Count)), (.int .i64 (((joinA acc (⟨fr, 1, (l[i]'(by omega)).V, (l[i]'(by omega)).V, (l[i]'(by omega)).V, (l[i]'(by omega)).V, (l[i]'(by omega)).V⟩ : Agg)).1).Sum)), (.int .i64 (((joinA acc (⟨fr, 1, (l[i]'(by omega)).V, (l[i]'(by omega)).V, (l[i]'(by omega)).V, (l[i]'(by omega)).V, (l[i]'(by omega)).V⟩ : Agg)).1).Min)), (.int .i64 (((joinA acc (⟨fr, 1, (l[i]'(by omega)).V, (l[i]'(by omega)).V, (l[i]'(by omega)).V, (l[i]'(by omega)).V, (l[i]'(by omega)).V⟩ : Agg)).1).Max)), (.int .i64 (((joinA acc (⟨fr, 1, (l[i]'(by omega)).V, (l[i]'(by omega)).V, (l[i]'(by omega)).V, (l[i]'(by omega)).V, (l[i]'(by omega)).V⟩ : Agg)).1).First)), (.int .i64 (((joinA acc (⟨fr, 1, (l[i]'(by omega)).V, (l[i]'(by omega)).V, (l[i]'(by omega)).V, (l[i]'(by omega)).V, (l[i]'(by omega)).V⟩ : Agg)).1).Last))], .blk g62 71 #[(.int .i64 0), (.int .i64 0), (.int .i64 0), (.int .i64 0), (.int .i64 0), (.int .i64 0), (.int .i64 0)]] := hst
              refine s_nil ?_
              refine block_n (then_n ?_)
              refine cE_region rfl ?_
              refine s_cons (op_move (.int .i64 (i : Int)) uw228_7 ?_)
              refine s_cons (op_add (k := .i64) (a := (i : Int)) (b := 1) ((i : Int) + 1) rfl rfl (xi64 (by omega) (by omega)) ?_)
              refine s_cons (op_assign (.int .i64 ((i : Int) + 1)) rfl ?_)
              refine s_nil ?_
              refine then_n ?_
              exact ⟨_, ⟨((joinA acc (⟨fr, 1, (l[i]'(by omega)).V, (l[i]'(by omega)).V, (l[i]'(by omega)).V, (l[i]'(by omega)).V, (l[i]'(by omega)).V⟩ : Agg)).1), (i + 1), rfl, uw228_0, uw228_1, uw228_4, uw228_10, uw228_11, uw228_12, uw228_13, uw228_14, uw228_15, uw228_16, uw228_17, uw228_18, uw228_19, uw228_20, uw228_22, uw228_23, uw228_24, uw228_25, uw228_26, uw228_6, (congrArg (Value.int .i64) (show ((i : Int) + 1) = _ from by omega)), (hst.sub (.cons _ (.cons_cons _ (.cons_cons _ .slnil)))), (by omega), (by first | exact oneA_ok (hl _ (List.getElem_mem _)).2 ⟨fr0, fr1⟩ | exact joinA_ok hok (hel (by omega))), (by first | exact one_may (by omega) (by omega) | exact join_may (by assumption)), (by first | exact all_one (by omega) | exact hI.trans (go_of (by omega) (by omega) (by omega) (by assumption)))⟩, (by simp only [id]; omega)⟩
            · have c233 : ¬ (((joinA acc (⟨fr, 1, (l[i]'(by omega)).V, (l[i]'(by omega)).V, (l[i]'(by omega)).V, (l[i]'(by omega)).V, (l[i]'(by omega)).V⟩ : Agg)).2) = 0) := of_decide_eq_false b230
              refine cE_cond true (congrArg Value.bool (congrArg (! ·) b230)) (fun _ => ?_) (fun h => by cases h)
              refine cE_seq ?_
              refine cE_region rfl ?_
              refine s_cons (op_build (r := (.agg #[(.int .i64 0), (.int .i64 0), (.int .i64 0), (.int .i64 0), (.int .i64 0), (.int .i64 0), (.int .i64 0)])) evp_nil (by simp [Instr.build, Instr.fill, Value.cells, Try.runUnderlying71, Try.zeroValue71]) ?_)
              refine s_cons (op_move (.int .i64 ((joinA acc (⟨fr, 1, (l[i]'(by omega)).V, (l[i]'(by omega)).V, (l[i]'(by omega)).V, (l[i]'(by omega)).V, (l[i]'(by omega)).V⟩ : Agg)).2)) uw228_9 ?_)
              refine s_cons0 (op_storeAll hst 2 rfl Try.sizeOf71 uw228_4 rfl rfl rfl (by simp [Value.oneCell']) (fun w234 hst => ?_))
              replace hst : St w0 w234 [.blk g229 71 #[(.int .i64 (((joinA acc (⟨fr, 1, (l[i]'(by omega)).V, (l[i]'(by omega)).V, (l[i]'(by omega)).V, (l[i]'(by omega)).V, (l[i]'(by omega)).V⟩ : Agg)).1).From)), (.int .i64 (((joinA acc (⟨fr, 1, (l[i]'(by omega)).V, (l[i]'(by omega)).V, (l[i]'(by omega)).V, (l[i]'(by omega)).V, (l[i]'(by omega)).V⟩ : Agg)).1).Count)), (.int .i64 (((joinA acc (⟨fr, 1, (l[i]'(by omega)).V, (l[i]'(by omega)).V, (l[i]'(by omega)).V, (l[i]'(by omega)).V, (l[i]'(by omega)).V⟩ : Agg)).1).Sum)), (.int .i64 (((joinA acc (⟨fr, 1, (l[i]'(by omega)).V, (l[i]'(by omega)).V, (l[i]'(by omega)).V, (l[i]'(by omega)).V, (l[i]'(by omega)).V⟩ : Agg)).1).Min)), (.int .i64 (((joinA acc (⟨fr, 1, (l[i]'(by omega)).V, (l[i]'(by omega)).V, (l[i]'(by omega)).V, (l[i]'(by omega)).V, (l[i]'(by omega)).V⟩ : Agg)).1).Max)), (.int .i64 (((joinA acc (⟨fr, 1, (l[i]'(by omega)).V, (l[i]'(by omega)).V, (l[i]'(by omega)).V, (l[i]'(by omega)).V, (l[i]'(by omega)).V⟩ : Agg)).1).First)), (.int .i64 (((joinA acc (⟨fr, 1, (l[i]'(by omega)).V, (l[i]'(by omega)).V, (l[i]'(by omega)).V, (l[i]'(by omega)).V, (l[i]'(by omega)).V⟩ : Agg)).1).Last))], .blk g80 71 #[(.int .i64 acc.From), (.int .i64 acc.Count), (.int .i64 acc.Sum), (.int .i64 acc.Min), (.int .i64 acc.Max), (.int .i64 acc.First), (.int .i64 acc.Last)], .blk g62 71 #[(.int .i64 0), (.int .i64 0), (.int .i64 0), (.int .i64 0), (.int .i64 0), (.int .i64 0), (.int .i64 0)]] := hst
              refine s_cons (op_assign (.int .i64 ((joinA acc (⟨fr, 1, (l[i]'(by omega)).V, (l[i]'(by omega)).V, (l[i]'(by omega)).V, (l[i]'(by omega)).V, (l[i]'(by omega)).V⟩ : Agg)).2)) rfl ?_)
              refine s_nil ?_
              refine then_n ?_
              refine cE_ret ?_
              refine then_r (block_r (then_r (then_r (block_r (then_r ?_)))))
              refine postG_r _ (rvN (cs := [(.int .i64 0), (.int .i64 0), (.int .i64 0), (.int .i64 0), (.int .i64 0), (.int .i64 0), (.int .i64 0)]) Try.isAgg71 Try.sizeOf71 uw228_4 (Pt.of (hst.cell 2 rfl) rfl) rfl (rvt (v := (.int .i64 ((joinA acc (⟨fr, 1, (l[i]'(by omega)).V, (l[i]'(by omega)).V, (l[i]'(by omega)).V, (l[i]'(by omega)).V, (l[i]'(by omega)).V⟩ : Agg)).2))) rfl rvnil)) ?_
              exact ⟨(retv2 (congrArg aggV (show (⟨0, 0, 0, 0, 0, 0, 0⟩ : Agg) = (allA l fr).1 from by first | exact (congrArg Prod.fst (all_out (by omega))).symm | exact (congrArg Prod.snd (all_out (by omega))).symm | exact (congrArg Prod.fst (hI.trans (go_stop (by omega) (by assumption)))).symm | exact (congrArg Prod.snd (hI.trans (go_stop (by omega) (by assumption)))).symm | exact (congrArg Prod.fst (hI.trans (go_end (by omega) hmp))).symm | exact (congrArg Prod.snd (hI.trans (go_end (by omega) hmp))).symm)) (congrArg (Value.int .i64) (show (joinA acc (⟨fr, 1, (l[i]'(by omega)).V, (l[i]'(by omega)).V, (l[i]'(by omega)).V, (l[i]'(by omega)).V, (l[i]'(by omega)).V⟩ : Agg)).2 = (allA l fr).2 from by first | exact (congrArg Prod.fst (all_out (by omega))).symm | exact (congrArg Prod.snd (all_out (by omega))).symm | exact (congrArg Prod.fst (hI.trans (go_stop (by omega) (by assumption)))).symm | exact (congrArg Prod.snd (hI.trans (go_stop (by omega) (by assumption)))).symm | exact (congrArg Prod.fst (hI.trans (go_end (by omega) hmp))).symm | exact (congrArg Prod.snd (hI.trans (go_end (by omega) hmp))).symm))), hst.bare⟩
        · have c235 : ¬ ((i : Int) < (l.length : Int)) := of_decide_eq_false b87
          refine cE_cond false (congrArg Value.bool b87) (fun h => by cases h) (fun _ => ?_)
          refine cE_exit ?_
          refine then_x (then_x (block_hit (then_n ?_)))
          refine cE_seq ?_
          refine cE_region rfl ?_
          refine s_cons (op_loadN (cs := [(.int .i64 acc.From), (.int .i64 acc.Count), (.int .i64 acc.Sum), (.int .i64 acc.Min), (.int .i64 acc.Max), (.int .i64 acc.First), (.int .i64 acc.Last)]) Try.isAgg71 Try.sizeOf71 q83_6 (Pt.of (hst.cell 0 rfl) rfl) rfl ?_)
          refine s_cons0 (op_storeAll hst 1 rfl Try.sizeOf71 q83_4 rfl rfl rfl (by simp [Value.oneCell']) (fun w236 hst => ?_))
          replace hst : St w0 w236 [.blk g80 71 #[(.int .i64 acc.From), (.int .i64 acc.Count), (.int .i64 acc.Sum), (.int .i64 acc.Min), (.int .i64 acc.Max), (.int .i64 acc.First), (.int .i64 acc.Last)], .blk g62 71 #[(.int .i64 acc.From), (.int .i64 acc.Count), (.int .i64 acc.Sum), (.int .i64 acc.Min), (.int .i64 acc.Max), (.int .i64 acc.First), (.int .i64 acc.Last)]] := hst
          refine s_cons (op_assign (.int .i64 0) rfl ?_)
          refine s_nil ?_
          refine then_n ?_
          refine cE_ret ?_
          refine postG_r _ (rvN (cs := [(.int .i64 acc.From), (.int .i64 acc.Count), (.int .i64 acc.Sum), (.int .i64 acc.Min), (.int .i64 acc.Max), (.int .i64 acc.First), (.int .i64 acc.Last)]) Try.isAgg71 Try.sizeOf71 q83_4 (Pt.of (hst.cell 1 rfl) rfl) rfl (rvt (v := (.int .i64 0)) rfl rvnil)) ?_
          exact ⟨(retv2 (congrArg aggV (show acc = (allA l fr).1 from by first | exact (congrArg Prod.fst (all_out (by omega))).symm | exact (congrArg Prod.snd (all_out (by omega))).symm | exact (congrArg Prod.fst (hI.trans (go_stop (by omega) (by assumption)))).symm | exact (congrArg Prod.snd (hI.trans (go_stop (by omega) (by assumption)))).symm | exact (congrArg Prod.fst (hI.trans (go_end (by omega) hmp))).symm | exact (congrArg Prod.snd (hI.trans (go_end (by omega) hmp))).symm)) (congrArg (Value.int .i64) (show 0 = (allA l fr).2 from by first | exact (congrArg Prod.fst (all_out (by omega))).symm | exact (congrArg Prod.snd (all_out (by omega))).symm | exact (congrArg Prod.fst (hI.trans (go_stop (by omega) (by assumption)))).symm | exact (congrArg Prod.snd (hI.trans (go_stop (by omega) (by assumption)))).symm | exact (congrArg Prod.fst (hI.trans (go_end (by omega) hmp))).symm | exact (congrArg Prod.snd (hI.trans (go_end (by omega) hmp))).symm))), hst.bare⟩

set_option maxHeartbeats 8000000 in
theorem c_rRaw (w0 : World) (v_l : Value) (l : List Sample) (h_l : Sl w0 sampE v_l l) (k : Int) (hl : ∀ s ∈ l, s.ok) (hn : l.length ≤ 1000000) (k0 : -9223372036854775808 ≤ k) (k1 : k ≤ 9223372036854775807) :
    Calls Try.prog 20 #[v_l, (.int .i64 k)] w0 fun e w' => ∃ (r : Value), e = .returned (.tuple #[r, (.int .i64 ((rawA l k).2))]) ∧ St w0 w' [rowT 71 aggE r ((rawA l k).1)] := by
  refine calls_E (n := 74) (ts := [4, 5]) Try.func20 rfl rfl rfl (by simp) ?_
  have hst := St.start w0
  refine cE_seq ?_
  refine cE_region rfl ?_
  refine s_cons (op_assign (.slice none 0 0) rfl ?_)
  refine s_cons (op_assign (.int .i64 0) rfl ?_)
  refine s_nil ?_
  refine then_n ?_
  refine cE_seq ?_
  refine cE_seq ?_
  refine cE_region rfl ?_
  refine s_cons (op_move (.int .i64 k) rfl ?_)
  refine s_cons (op_lss (k := .i64) (a := k) (b := 1) rfl rfl ?_)
  refine s_cons (op_move (.bool (decide (k < 1))) rfl ?_)
  rcases Bool.eq_false_or_eq_true (decide (k < 1)) with b237 | b237
  · have c238 : k < 1 := of_decide_eq_true b237
    refine s_no 13 rfl (congrArg Value.bool b237) ?_
    refine s_no 13 rfl (congrArg Value.bool b237) ?_
    refine s_cons (op_pick_t (.bool true) (congrArg Value.bool b237) rfl ?_)
    refine s_cons (op_move (.bool true) rfl ?_)
    refine s_no 17 rfl rfl ?_
    refine s_no 17 rfl rfl ?_
    refine s_no 17 rfl rfl ?_
    refine s_cons (op_pick_t (.bool true) rfl rfl ?_)
    refine s_nil ?_
    refine then_n ?_
    refine cE_cond true rfl (fun _ => ?_) (fun h => by cases h)
    refine cE_seq ?_
    refine cE_region rfl ?_
    refine s_cons (op_assign (.slice none 0 0) rfl ?_)
    refine s_cons (op_assign (.int .i64 1) rfl ?_)
    refine s_nil ?_
    refine then_n ?_
    refine cE_ret ?_
    refine then_r ?_
    refine post_r _ (res2 (v := (.slice none 0 0)) rfl (x := (.int .i64 1)) rfl) ?_
    replace hst : St w0 w0 [rowT 71 aggE (.slice none 0 0) ([])] := hst.nilRow 71 aggE
    have e239 : [] = (rawA l k).1 := by first | exact (congrArg Prod.fst (raw_none (Or.inl (by assumption)))).symm | exact (congrArg Prod.snd (raw_none (Or.inl (by assumption)))).symm | exact (congrArg Prod.fst (raw_none (Or.inr (coarse_no (by omega))))).symm | exact (congrArg Prod.snd (raw_none (Or.inr (coarse_no (by omega))))).symm | exact (congrArg Prod.fst (hI.trans (rrw_stop (by omega) hf hw (by assumption)))).symm | exact (congrArg Prod.snd (hI.trans (rrw_stop (by omega) hf hw (by assumption)))).symm | exact (congrArg Prod.fst (hI.trans (rrw_end (by omega)))).symm | exact (congrArg Prod.snd (hI.trans (rrw_end (by omega)))).symm
    replace hst : St w0 w0 [rowT 71 aggE (.slice none 0 0) ((rawA l k).1)] := by rw [congrArg (fun l => rowT 71 aggE (.slice none 0 0) l) e239] at hst; exact hst
    exact ⟨(.slice none 0 0), (retv2 rfl (congrArg (Value.int .i64) (show 1 = (rawA l k).2 from by first | exact (congrArg Prod.fst (raw_none (Or.inl (by assumption)))).symm | exact (congrArg Prod.snd (raw_none (Or.inl (by assumption)))).symm | exact (congrArg Prod.fst (raw_none (Or.inr (coarse_no (by omega))))).symm | exact (congrArg Prod.snd (raw_none (Or.inr (coarse_no (by omega))))).symm | exact (congrArg Prod.fst (hI.trans (rrw_stop (by omega) hf hw (by assumption)))).symm | exact (congrArg Prod.snd (hI.trans (rrw_stop (by omega) hf hw (by assumption)))).symm | exact (congrArg Prod.fst (hI.trans (rrw_end (by omega)))).symm | exact (congrArg Prod.snd (hI.trans (rrw_end (by omega)))).symm))), hst.sub (.cons_cons _ .slnil)⟩
  · have c240 : ¬ (k < 1) := of_decide_eq_false b237
    refine s_yes 13 rfl (congrArg Value.bool b237) (op_move (.int .i64 k) rfl ?_)
    refine s_yes 13 rfl (congrArg Value.bool b237) (op_gtr (k := .i64) (a := k) (b := 3) rfl rfl ?_)
    refine s_cons (op_pick_f (.bool (decide (3 < k))) (congrArg Value.bool b237) rfl ?_)
    refine s_cons (op_move (.bool (decide (3 < k))) rfl ?_)
    rcases Bool.eq_false_or_eq_true (decide (3 < k)) with b241 | b241
    · have c242 : 3 < k := of_decide_eq_true b241
      refine s_no 17 rfl (congrArg Value.bool b241) ?_
      refine s_no 17 rfl (congrArg Value.bool b241) ?_
      refine s_no 17 rfl (congrArg Value.bool b241) ?_
      refine s_cons (op_pick_t (.bool true) (congrArg Value.bool b241) rfl ?_)
      refine s_nil ?_
      refine then_n ?_
      refine cE_cond true rfl (fun _ => ?_) (fun h => by cases h)
      refine cE_seq ?_
      refine cE_region rfl ?_
      refine s_cons (op_assign (.slice none 0 0) rfl ?_)
      refine s_cons (op_assign (.int .i64 1) rfl ?_)
      refine s_nil ?_
      refine then_n ?_
      refine cE_ret ?_
      refine then_r ?_
      refine post_r _ (res2 (v := (.slice none 0 0)) rfl (x := (.int .i64 1)) rfl) ?_
      replace hst : St w0 w0 [rowT 71 aggE (.slice none 0 0) ([])] := hst.nilRow 71 aggE
      have e243 : [] = (rawA l k).1 := by first | exact (congrArg Prod.fst (raw_none (Or.inl (by assumption)))).symm | exact (congrArg Prod.snd (raw_none (Or.inl (by assumption)))).symm | exact (congrArg Prod.fst (raw_none (Or.inr (coarse_no (by omega))))).symm | exact (congrArg Prod.snd (raw_none (Or.inr (coarse_no (by omega))))).symm | exact (congrArg Prod.fst (hI.trans (rrw_stop (by omega) hf hw (by assumption)))).symm | exact (congrArg Prod.snd (hI.trans (rrw_stop (by omega) hf hw (by assumption)))).symm | exact (congrArg Prod.fst (hI.trans (rrw_end (by omega)))).symm | exact (congrArg Prod.snd (hI.trans (rrw_end (by omega)))).symm
      replace hst : St w0 w0 [rowT 71 aggE (.slice none 0 0) ((rawA l k).1)] := by rw [congrArg (fun l => rowT 71 aggE (.slice none 0 0) l) e243] at hst; exact hst
      exact ⟨(.slice none 0 0), (retv2 rfl (congrArg (Value.int .i64) (show 1 = (rawA l k).2 from by first | exact (congrArg Prod.fst (raw_none (Or.inl (by assumption)))).symm | exact (congrArg Prod.snd (raw_none (Or.inl (by assumption)))).symm | exact (congrArg Prod.fst (raw_none (Or.inr (coarse_no (by omega))))).symm | exact (congrArg Prod.snd (raw_none (Or.inr (coarse_no (by omega))))).symm | exact (congrArg Prod.fst (hI.trans (rrw_stop (by omega) hf hw (by assumption)))).symm | exact (congrArg Prod.snd (hI.trans (rrw_stop (by omega) hf hw (by assumption)))).symm | exact (congrArg Prod.fst (hI.trans (rrw_end (by omega)))).symm | exact (congrArg Prod.snd (hI.trans (rrw_end (by omega)))).symm))), hst.sub (.cons_cons _ .slnil)⟩
    · have c244 : ¬ (3 < k) := of_decide_eq_false b241
      refine s_yes 17 rfl (congrArg Value.bool b241) (op_move v_l rfl ?_)
      refine s_yes 17 rfl (congrArg Value.bool b241) (op_call Try.call24 (evs_cons (v := v_l) rfl evs_nil) (c_rRising (w0 := w0) (v_l := v_l) (l := l) (h_l := (h_l.below hst.below)) (hl := hl)) ?_)
      rintro _ w245 ⟨rfl, hcall⟩
      refine ⟨_, rfl, ?_⟩
      have hst : St w0 w245 [] := hst.call hcall
      refine s_yes 17 rfl (congrArg Value.bool b241) (op_not (b := risingA l) rfl ?_)
      refine s_cons (op_pick_f (.bool (!(risingA l))) (congrArg Value.bool b241) rfl ?_)
      refine s_nil ?_
      refine then_n ?_
      rcases Bool.eq_false_or_eq_true (risingA l) with b246 | b246
      · have hri := b246
        refine cE_cond false (congrArg Value.bool (congrArg (! ·) b246)) (fun h => by cases h) (fun _ => ?_)
        refine cE_skip ?_
        refine then_n ?_
        refine cE_seq ?_
        have hco := coarse_yes (k := k) (by omega) (by omega)
        refine cE_region rfl ?_
        refine s_cons (op_assign (.slice none 0 0) rfl ?_)
        refine s_nil ?_
        refine then_n ?_
        refine cE_seq ?_
        refine cE_seq ?_
        refine cE_region rfl ?_
        refine s_cons (op_assign (.int .i64 0) rfl ?_)
        refine s_nil ?_
        refine then_n ?_
        refine cE_block ?_
        replace hst : St w0 w245 [rowT 71 aggE (.slice none 0 0) ([])] := hst.nilRow 71 aggE
        refine cE_loop (fun (m : Nat) (ρ : Env) (w : World) => ∃ (vo : Value) (out : List Agg) (f : Nat) (i : Nat), m = l.length - i ∧ ρ 0 = v_l ∧ ρ 1 = (.int .i64 k) ∧ ρ 11 = (.int .i64 k) ∧ ρ 12 = (.bool (decide (k < 1))) ∧ ρ 13 = (.bool (decide (k < 1))) ∧ ρ 14 = (.int .i64 k) ∧ ρ 15 = (.bool (decide (3 < k))) ∧ ρ 16 = (.bool (decide (3 < k))) ∧ ρ 17 = (.bool (decide (3 < k))) ∧ ρ 18 = v_l ∧ ρ 19 = (.bool (risingA l)) ∧ ρ 20 = (.bool (!(risingA l))) ∧ ρ 21 = (.bool (!(risingA l))) ∧ ρ 7 = (.int .i64 (i : Int)) ∧ ρ 6 = vo ∧ St w0 w [rowT 71 aggE vo out] ∧ (i ≤ l.length) ∧ (l.length - i ≤ f) ∧ (out.length ≤ i) ∧ (rawA l k = rawL k f (l.drop i) out)) id _ ⟨(.slice none 0 0), [], l.length, 0, rfl, rfl, rfl, rfl, rfl, rfl, rfl, rfl, rfl, rfl, rfl, rfl, rfl, rfl, (congrArg (Value.int .i64) (show 0 = _ from by omega)), rfl, hst, (by omega), (by first | omega | (simp; omega) | (simp; done)), (by first | omega | (simp; omega) | (simp; done)), (by first | exact hI.trans (rrw_go (by omega) hf hw (by assumption) (by omega)) | (unfold rawA; rw [if_pos ⟨hri, hco⟩, List.drop_zero]))⟩ ?_
        rintro m248 ρ249 w250 ⟨vo, out, f, i, hm248, q247_0, q247_1, q247_11, q247_12, q247_13, q247_14, q247_15, q247_16, q247_17, q247_18, q247_19, q247_20, q247_21, q247_7, q247_6, hst, hi, hf, hout, hI⟩
        refine cE_seq ?_
        refine cE_seq ?_
        refine cE_region rfl ?_
        refine s_cons (op_move (.int .i64 (i : Int)) q247_7 ?_)
        refine s_cons (op_move v_l q247_0 ?_)
        refine s_cons (op_len (E := sampE) (xs := l) Try.underlying22 rfl h_l ?_)
        refine s_cons (op_lss (k := .i64) (a := (i : Int)) (b := (l.length : Int)) rfl rfl ?_)
        refine s_nil ?_
        refine then_n ?_
        rcases Bool.eq_false_or_eq_true (decide ((i : Int) < (l.length : Int))) with b251 | b251
        · have c252 : (i : Int) < (l.length : Int) := of_decide_eq_true b251
          refine cE_cond true (congrArg Value.bool b251) (fun _ => ?_) (fun h => by cases h)
          refine cE_skip ?_
          refine then_n ?_
          refine cE_block ?_
          refine cE_seq ?_
          refine cE_region rfl ?_
          refine s_cons (op_move (.int .i64 (i : Int)) q247_7 ?_)
          refine s_cons (op_assign (.int .i64 (i : Int)) rfl ?_)
          refine s_nil ?_
          refine then_n ?_
          refine cE_seq ?_
          refine cE_block ?_
          refine cE_loop (fun (m : Nat) (ρ : Env) (w : World) => ∃ (n : Nat), m = l.length - n ∧ ρ 0 = v_l ∧ ρ 1 = (.int .i64 k) ∧ ρ 11 = (.int .i64 k) ∧ ρ 12 = (.bool (decide (k < 1))) ∧ ρ 13 = (.bool (decide (k < 1))) ∧ ρ 14 = (.int .i64 k) ∧ ρ 15 = (.bool (decide (3 < k))) ∧ ρ 16 = (.bool (decide (3 < k))) ∧ ρ 17 = (.bool (decide (3 < k))) ∧ ρ 18 = v_l ∧ ρ 19 = (.bool (risingA l)) ∧ ρ 20 = (.bool (!(risingA l))) ∧ ρ 21 = (.bool (!(risingA l))) ∧ ρ 7 = (.int .i64 (i : Int)) ∧ ρ 6 = vo ∧ ρ 22 = (.int .i64 (i : Int)) ∧ ρ 23 = v_l ∧ ρ 24 = (.int .i64 (l.length : Int)) ∧ ρ 25 = (.bool (decide ((i : Int) < (l.length : Int)))) ∧ ρ 26 = (.int .i64 (i : Int)) ∧ ρ 8 = (.int .i64 (n : Int)) ∧ St w0 w [rowT 71 aggE vo out] ∧ (i ≤ n) ∧ (n ≤ l.length) ∧ (winLen k (floorA ((l[i]'(by omega)).T) k) (l.drop i) = n - i + winLen k (floorA ((l[i]'(by omega)).T) k) (l.drop n))) id _ ⟨i, rfl, q247_0, q247_1, q247_11, q247_12, q247_13, q247_14, q247_15, q247_16, q247_17, q247_18, q247_19, q247_20, q247_21, q247_7, q247_6, rfl, rfl, rfl, rfl, rfl, rfl, hst, (by omega), (by omega), (by first | (rw [Nat.sub_self, Nat.zero_add]; done) | exact hw0.trans (by rw [win_go (by omega) (by assumption)]; omega))⟩ ?_
          rintro m254 ρ255 w256 ⟨n, hm254, q253_0, q253_1, q253_11, q253_12, q253_13, q253_14, q253_15, q253_16, q253_17, q253_18, q253_19, q253_20, q253_21, q253_7, q253_6, q253_22, q253_23, q253_24, q253_25, q253_26, q253_8, hst, hn1, hnr, hw0⟩
          have hel := fun (s : Sample) (h : s ∈ l) => (hl s h).1
          refine cE_seq ?_
          refine cE_seq ?_
          rcases Bool.eq_false_or_eq_true (decide ((n : Int) < (l.length : Int))) with b257 | b257
          · have c258 : (n : Int) < (l.length : Int) := of_decide_eq_true b257
            refine cE_regionL hst [[(8, none)], [(0, none)], [(28, some 1)], [(27, some 0), (29, some 2)], [(30, some 3)], [(0, none), (31, some 4)], [(8, none), (31, some 4)], [(32, some 5), (33, some 6), (31, some 4)], [(34, some 7), (31, some 4)], [(35, some 8), (31, some 4)], [(1, none), (31, some 4)], [(36, some 9), (37, some 10), (31, some 4)], [(0, none), (31, some 4)], [(7, none), (31, some 4)], [(39, some 12), (40, some 13), (31, some 4)], [(41, some 14), (31, some 4)], [(42, some 15), (31, some 4)], [(1, none), (31, some 4)], [(43, some 16), (44, some 17), (31, some 4)], [(38, some 11), (45, some 18), (31, some 4)], [(31, some 4), (46, some 19)]] [(rEq (.int .i64 (n : Int))), (rEq v_l), (rEq (.int .i64 (l.length : Int))), (rEq (.bool (decide ((n : Int) < (l.length : Int))))), (rEq (.bool (decide ((n : Int) < (l.length : Int))))), (rEq v_l), (rEq (.int .i64 (n : Int))), (rPt [(.int .i64 ((l[n]'(by omega)).T)), (.int .i64 ((l[n]'(by omega)).V))]), (rPt [(.int .i64 ((l[n]'(by omega)).T)), (.int .i64 ((l[n]'(by omega)).V))]), (rEq (.int .i64 ((l[n]'(by omega)).T))), (rEq (.int .i64 k)), (rEq (.int .i64 (floorA ((l[n]'(by omega)).T) k))), (rEq v_l), (rEq (.int .i64 (i : Int))), (rPt [(.int .i64 ((l[i]'(by omega)).T)), (.int .i64 ((l[i]'(by omega)).V))]), (rPt [(.int .i64 ((l[i]'(by omega)).T)), (.int .i64 ((l[i]'(by omega)).V))]), (rEq (.int .i64 ((l[i]'(by omega)).T))), (rEq (.int .i64 k)), (rEq (.int .i64 (floorA ((l[i]'(by omega)).T) k))), (rEq (.bool (decide ((floorA ((l[n]'(by omega)).T) k) = (floorA ((l[i]'(by omega)).T) k))))), (rEq (.bool (decide ((floorA ((l[n]'(by omega)).T) k) = (floorA ((l[i]'(by omega)).T) k)))))] (by kernel_rfl) rfl (by kernel_rfl) ⟨sEq, sEq, sEq, sEq, sEq, sEq, sEq, sPt, sPt, sEq, sEq, sEq, sEq, sEq, sPt, sPt, sEq, sEq, sEq, sEq, sEq, trivial⟩ ⟨?_, ?_, ?_, ?_, ?_, ?_, ?_, ?_, ?_, ?_, ?_, ?_, ?_, ?_, ?_, ?_, ?_, ?_, ?_, ?_, ?_, trivial⟩ ?_
            · rintro ρ267 w268 hj269 ⟨f8, _⟩
              have hst := hj269.2
              exact go_plain (op_move (.int .i64 (n : Int)) (f8.trans q253_8) (kS hj269 rfl))
            · rintro ρ270 w271 hj272 ⟨f0, _⟩
              have hst := hj272.2
              exact go_plain (op_move v_l (f0.trans q253_0) (kS hj272 rfl))
            · rintro ρ273 w274 hj275 ⟨f28, _⟩
              have hst := hj275.2
              exact go_plain (op_len (E := sampE) (xs := l) Try.underlying22 f28 h_l (kS hj275 rfl))
            · rintro ρ276 w277 hj278 ⟨f27, f29, _⟩
              have hst := hj278.2
              exact go_plain (op_lss (k := .i64) (a := (n : Int)) (b := (l.length : Int)) f27 f29 (kS hj278 rfl))
            · rintro ρ279 w280 hj281 ⟨f30, _⟩
              have hst := hj281.2
              exact go_plain (op_move (.bool (decide ((n : Int) < (l.length : Int)))) f30 (kS hj281 rfl))
            · rintro ρ282 w283 hj284 ⟨f0, f31, _⟩
              have hst := hj284.2
              exact go_yes 31 rfl (f31.trans (congrArg Value.bool b257)) (op_move v_l (f0.trans q253_0) (kS hj284 rfl))
            · rintro ρ285 w286 hj287 ⟨f8, f31, _⟩
              have hst := hj287.2
              exact go_yes 31 rfl (f31.trans (congrArg Value.bool b257)) (op_move (.int .i64 (n : Int)) (f8.trans q253_8) (kS hj287 rfl))
            · rintro ρ288 w289 hj290 ⟨f32, f33, f31, _⟩
              have hst := hj290.2
              refine go_yes 31 rfl (f31.trans (congrArg Value.bool b257)) (op_indexAddrN (E := sampE) (xs := l) n Try.underlying22 Try.sizeOf48 f32 h_l f33 (by omega) (by omega) (fun a291 o292 p293 => ?_))
              exact kS hj290 ⟨_, _, rfl, (p293.below hst.below)⟩
            · rintro ρ294 w295 hj296 ⟨f34, f31, _⟩
              have hst := hj296.2
              obtain ⟨a297, o298, e299, p300⟩ := f34
              exact go_yes 31 rfl (f31.trans (congrArg Value.bool b257)) (op_fieldAddr (s := 0) Try.underlying48 rfl rfl Try.sizeOf2 e299 (kS hj296 ⟨_, _, rfl, p300⟩))
            · rintro ρ301 w302 hj303 ⟨f35, f31, _⟩
              have hst := hj303.2
              obtain ⟨a304, o305, e306, p307⟩ := f35
              exact go_yes 31 rfl (f31.trans (congrArg Value.bool b257)) (op_load1 (u := (.int .i64 ((l[n]'(by omega)).T))) Try.isAgg2 e306 p307 (kS hj303 rfl))
            · rintro ρ308 w309 hj310 ⟨f1, f31, _⟩
              have hst := hj310.2
              exact go_yes 31 rfl (f31.trans (congrArg Value.bool b257)) (op_move (.int .i64 k) (f1.trans q253_1) (kS hj310 rfl))
            · rintro ρ311 w312 hj313 ⟨f36, f37, f31, _⟩
              have hst := hj313.2
              refine go_yes 31 rfl (f31.trans (congrArg Value.bool b257)) (op_call Try.call38 (evs_cons (v := (.int .i64 ((l[n]'(by omega)).T))) f36 (evs_cons (v := (.int .i64 k)) f37 evs_nil)) (c_rFloor (w0 := w312) (t := (l[n]'(by omega)).T) (k := k) (t0 := (hl _ (List.getElem_mem _)).1.1) (k0 := (by omega)) (t1 := (hl _ (List.getElem_mem _)).1.2) (k1 := (by omega))) ?_)
              rintro _ w314 ⟨rfl, hcall⟩
              refine ⟨_, rfl, ?_⟩
              exact kD hj313 hcall rfl
            · rintro ρ315 w316 hj317 ⟨f0, f31, _⟩
              have hst := hj317.2
              exact go_yes 31 rfl (f31.trans (congrArg Value.bool b257)) (op_move v_l (f0.trans q253_0) (kS hj317 rfl))
            · rintro ρ318 w319 hj320 ⟨f7, f31, _⟩
              have hst := hj320.2
              exact go_yes 31 rfl (f31.trans (congrArg Value.bool b257)) (op_move (.int .i64 (i : Int)) (f7.trans q253_7) (kS hj320 rfl))
            · rintro ρ321 w322 hj323 ⟨f39, f40, f31, _⟩
              have hst := hj323.2
              refine go_yes 31 rfl (f31.trans (congrArg Value.bool b257)) (op_indexAddrN (E := sampE) (xs := l) i Try.underlying22 Try.sizeOf48 f39 h_l f40 (by omega) (by omega) (fun a324 o325 p326 => ?_))
              exact kS hj323 ⟨_, _, rfl, (p326.below hst.below)⟩
            · rintro ρ327 w328 hj329 ⟨f41, f31, _⟩
              have hst := hj329.2
              obtain ⟨a330, o331, e332, p333⟩ := f41
              exact go_yes 31 rfl (f31.trans (congrArg Value.bool b257)) (op_fieldAddr (s := 0) Try.underlying48 rfl rfl Try.sizeOf2 e332 (kS hj329 ⟨_, _, rfl, p333⟩))
            · rintro ρ334 w335 hj336 ⟨f42, f31, _⟩
              have hst := hj336.2
              obtain ⟨a337, o338, e339, p340⟩ := f42
              exact go_yes 31 rfl (f31.trans (congrArg Value.bool b257)) (op_load1 (u := (.int .i64 ((l[i]'(by omega)).T))) Try.isAgg2 e339 p340 (kS hj336 rfl))
            · rintro ρ341 w342 hj343 ⟨f1, f31, _⟩
              have hst := hj343.2
              exact go_yes 31 rfl (f31.trans (congrArg Value.bool b257)) (op_move (.int .i64 k) (f1.trans q253_1) (kS hj343 rfl))
            · rintro ρ344 w345 hj346 ⟨f43, f44, f31, _⟩
              have hst := hj346.2
              refine go_yes 31 rfl (f31.trans (congrArg Value.bool b257)) (op_call Try.call38 (evs_cons (v := (.int .i64 ((l[i]'(by omega)).T))) f43 (evs_cons (v := (.int .i64 k)) f44 evs_nil)) (c_rFloor (w0 := w345) (t := (l[i]'(by omega)).T) (k := k) (t0 := (hl _ (List.getElem_mem _)).1.1) (k0 := (by omega)) (t1 := (hl _ (List.getElem_mem _)).1.2) (k1 := (by omega))) ?_)
              rintro _ w347 ⟨rfl, hcall⟩
              refine ⟨_, rfl, ?_⟩
              exact kD hj346 hcall rfl
            · rintro ρ348 w349 hj350 ⟨f38, f45, f31, _⟩
              have hst := hj350.2
              exact go_yes 31 rfl (f31.trans (congrArg Value.bool b257)) (op_eql (k := .i64) (a := (floorA ((l[n]'(by omega)).T) k)) (b := (floorA ((l[i]'(by omega)).T) k)) f38 f45 (kS hj350 rfl))
            · rintro ρ351 w352 hj353 ⟨f31, f46, _⟩
              have hst := hj353.2
              exact go_plain (op_pick_t (.bool (decide ((floorA ((l[n]'(by omega)).T) k) = (floorA ((l[i]'(by omega)).T) k)))) (f31.trans (congrArg Value.bool b257)) f46 (kS hj353 rfl))
            · intro ρ354 w355 hbw355 hst hRw355 hkw355
              have uw355_0 : ρ354 0 = v_l := (hkw355 0 rfl).trans q253_0
              have uw355_1 : ρ354 1 = (.int .i64 k) := (hkw355 1 rfl).trans q253_1
              have uw355_11 : ρ354 11 = (.int .i64 k) := (hkw355 11 rfl).trans q253_11
              have uw355_12 : ρ354 12 = (.bool (decide (k < 1))) := (hkw355 12 rfl).trans q253_12
              have uw355_13 : ρ354 13 = (.bool (decide (k < 1))) := (hkw355 13 rfl).trans q253_13
              have uw355_14 : ρ354 14 = (.int .i64 k) := (hkw355 14 rfl).trans q253_14
              have uw355_15 : ρ354 15 = (.bool (decide (3 < k))) := (hkw355 15 rfl).trans q253_15
              have uw355_16 : ρ354 16 = (.bool (decide (3 < k))) := (hkw355 16 rfl).trans q253_16
              have uw355_17 : ρ354 17 = (.bool (decide (3 < k))) := (hkw355 17 rfl).trans q253_17
              have uw355_18 : ρ354 18 = v_l := (hkw355 18 rfl).trans q253_18
              have uw355_19 : ρ354 19 = (.bool (risingA l)) := (hkw355 19 rfl).trans q253_19
              have uw355_20 : ρ354 20 = (.bool (!(risingA l))) := (hkw355 20 rfl).trans q253_20
              have uw355_21 : ρ354 21 = (.bool (!(risingA l))) := (hkw355 21 rfl).trans q253_21
              have uw355_7 : ρ354 7 = (.int .i64 (i : Int)) := (hkw355 7 rfl).trans q253_7
              have uw355_6 : ρ354 6 = vo := (hkw355 6 rfl).trans q253_6
              have uw355_22 : ρ354 22 = (.int .i64 (i : Int)) := (hkw355 22 rfl).trans q253_22
              have uw355_23 : ρ354 23 = v_l := (hkw355 23 rfl).trans q253_23
              have uw355_24 : ρ354 24 = (.int .i64 (l.length : Int)) := (hkw355 24 rfl).trans q253_24
              have uw355_25 : ρ354 25 = (.bool (decide ((i : Int) < (l.length : Int)))) := (hkw355 25 rfl).trans q253_25
              have uw355_26 : ρ354 26 = (.int .i64 (i : Int)) := (hkw355 26 rfl).trans q253_26
              have uw355_8 : ρ354 8 = (.int .i64 (n : Int)) := (hkw355 8 rfl).trans q253_8
              have uw355_47 : ρ354 47 = (.bool (decide ((floorA ((l[n]'(by omega)).T) k) = (floorA ((l[i]'(by omega)).T) k)))) := hRw355 20 47 rfl
              refine then_n ?_
              rcases Bool.eq_false_or_eq_true (decide ((floorA ((l[n]'(by omega)).T) k) = (floorA ((l[i]'(by omega)).T) k))) with b356 | b356
              · have c357 : (floorA ((l[n]'(by omega)).T) k) = (floorA ((l[i]'(by omega)).T) k) := of_decide_eq_true b356
                refine cE_cond true (uw355_47.trans (congrArg Value.bool b356)) (fun _ => ?_) (fun h => by cases h)
                refine cE_skip ?_
                refine then_n ?_
                refine cE_block ?_
                refine cE_region rfl ?_
                refine s_cons (op_move (.int .i64 (n : Int)) uw355_8 ?_)
                refine s_cons (op_add (k := .i64) (a := (n : Int)) (b := 1) ((n : Int) + 1) rfl rfl (xi64 (by omega) (by omega)) ?_)
                refine s_cons (op_assign (.int .i64 ((n : Int) + 1)) rfl ?_)
                refine s_nil ?_
                refine block_n (then_n ?_)
                exact ⟨_, ⟨(n + 1), rfl, uw355_0, uw355_1, uw355_11, uw355_12, uw355_13, uw355_14, uw355_15, uw355_16, uw355_17, uw355_18, uw355_19, uw355_20, uw355_21, uw355_7, uw355_6, uw355_22, uw355_23, uw355_24, uw355_25, uw355_26, (congrArg (Value.int .i64) (show ((n : Int) + 1) = _ from by omega)), hst, (by omega), (by omega), (by first | (rw [Nat.sub_self, Nat.zero_add]; done) | exact hw0.trans (by rw [win_go (by omega) (by assumption)]; omega))⟩, (by simp only [id]; omega)⟩
              · have c358 : ¬ ((floorA ((l[n]'(by omega)).T) k) = (floorA ((l[i]'(by omega)).T) k)) := of_decide_eq_false b356
                refine cE_cond false (uw355_47.trans (congrArg Value.bool b356)) (fun h => by cases h) (fun _ => ?_)
                refine cE_exit ?_
                refine then_x (then_x (block_hit (then_n ?_)))
                refine cE_seq ?_
                have hw : winLen k (floorA ((l[i]'(by omega)).T) k) (l.drop i) = n - i := hw0.trans (by first | rw [win_end (by omega), Nat.add_zero] | rw [win_no (by omega) (by assumption), Nat.add_zero])
                have hnp := win_pos' (k := k) (l := l) (i := i) (by omega)
                rw [hw] at hnp
                have hfr := floorA_r ((l[i]'(by omega)).T) k
                have hM369 : stabML [16] [(kEq v_l), (kEq (.int .i64 (i : Int))), (kEq (.int .i64 (n : Int))), (kSl0 w0 sampE ((l.take n).drop i)), (kEq v_l), (kEq (.int .i64 (i : Int))), (kPt0 w0 [(.int .i64 ((l[i]'(by omega)).T)), (.int .i64 ((l[i]'(by omega)).V))]), (kPt0 w0 [(.int .i64 ((l[i]'(by omega)).T)), (.int .i64 ((l[i]'(by omega)).V))]), (kEq (.int .i64 ((l[i]'(by omega)).T))), (kEq (.int .i64 k)), (kEq (.int .i64 (floorA ((l[i]'(by omega)).T) k))), (kEq (.tuple #[(.agg #[(.int .i64 (((allA ((l.take n).drop i) (floorA ((l[i]'(by omega)).T) k)).1).From)), (.int .i64 (((allA ((l.take n).drop i) (floorA ((l[i]'(by omega)).T) k)).1).Count)), (.int .i64 (((allA ((l.take n).drop i) (floorA ((l[i]'(by omega)).T) k)).1).Sum)), (.int .i64 (((allA ((l.take n).drop i) (floorA ((l[i]'(by omega)).T) k)).1).Min)), (.int .i64 (((allA ((l.take n).drop i) (floorA ((l[i]'(by omega)).T) k)).1).Max)), (.int .i64 (((allA ((l.take n).drop i) (floorA ((l[i]'(by omega)).T) k)).1).First)), (.int .i64 (((allA ((l.take n).drop i) (floorA ((l[i]'(by omega)).T) k)).1).Last))]), (.int .i64 ((allA ((l.take n).drop i) (floorA ((l[i]'(by omega)).T) k)).2))])), (kEq (.tuple #[(.agg #[(.int .i64 (((allA ((l.take n).drop i) (floorA ((l[i]'(by omega)).T) k)).1).From)), (.int .i64 (((allA ((l.take n).drop i) (floorA ((l[i]'(by omega)).T) k)).1).Count)), (.int .i64 (((allA ((l.take n).drop i) (floorA ((l[i]'(by omega)).T) k)).1).Sum)), (.int .i64 (((allA ((l.take n).drop i) (floorA ((l[i]'(by omega)).T) k)).1).Min)), (.int .i64 (((allA ((l.take n).drop i) (floorA ((l[i]'(by omega)).T) k)).1).Max)), (.int .i64 (((allA ((l.take n).drop i) (floorA ((l[i]'(by omega)).T) k)).1).First)), (.int .i64 (((allA ((l.take n).drop i) (floorA ((l[i]'(by omega)).T) k)).1).Last))]), (.int .i64 ((allA ((l.take n).drop i) (floorA ((l[i]'(by omega)).T) k)).2))])), (kEq (.agg #[(.int .i64 (((allA ((l.take n).drop i) (floorA ((l[i]'(by omega)).T) k)).1).From)), (.int .i64 (((allA ((l.take n).drop i) (floorA ((l[i]'(by omega)).T) k)).1).Count)), (.int .i64 (((allA ((l.take n).drop i) (floorA ((l[i]'(by omega)).T) k)).1).Sum)), (.int .i64 (((allA ((l.take n).drop i) (floorA ((l[i]'(by omega)).T) k)).1).Min)), (.int .i64 (((allA ((l.take n).drop i) (floorA ((l[i]'(by omega)).T) k)).1).Max)), (.int .i64 (((allA ((l.take n).drop i) (floorA ((l[i]'(by omega)).T) k)).1).First)), (.int .i64 (((allA ((l.take n).drop i) (floorA ((l[i]'(by omega)).T) k)).1).Last))])), (kEq (.int .i64 ((allA ((l.take n).drop i) (floorA ((l[i]'(by omega)).T) k)).2))), (fun (D : Nat → Bool) (v : Value) (w : World) => ∃ g366 : Nat, v = .pointer (some ⟨g366, 0, none⟩) ∧ (D 16 = false → St w0 w [.blk g366 71 #[(.int .i64 0), (.int .i64 0), (.int .i64 0), (.int .i64 0), (.int .i64 0), (.int .i64 0), (.int .i64 0)], rowT 71 aggE vo out]) ∧ (D 16 = true → St w0 w [.blk g366 71 #[(.int .i64 (((allA ((l.take n).drop i) (floorA ((l[i]'(by omega)).T) k)).1).From)), (.int .i64 (((allA ((l.take n).drop i) (floorA ((l[i]'(by omega)).T) k)).1).Count)), (.int .i64 (((allA ((l.take n).drop i) (floorA ((l[i]'(by omega)).T) k)).1).Sum)), (.int .i64 (((allA ((l.take n).drop i) (floorA ((l[i]'(by omega)).T) k)).1).Min)), (.int .i64 (((allA ((l.take n).drop i) (floorA ((l[i]'(by omega)).T) k)).1).Max)), (.int .i64 (((allA ((l.take n).drop i) (floorA ((l[i]'(by omega)).T) k)).1).First)), (.int .i64 (((allA ((l.take n).drop i) (floorA ((l[i]'(by omega)).T) k)).1).Last))], rowT 71 aggE vo out])), kAny, (kEq (.int .i64 ((allA ((l.take n).drop i) (floorA ((l[i]'(by omega)).T) k)).2)))] := ⟨mEq, mEq, mEq, mSl0, mEq, mEq, mPt0, mPt0, mEq, mEq, mEq, mEq, mEq, mEq, mEq, (fun D D' v w w' hD hb ⟨g, h1, h2⟩ => ⟨g, h1, (fun x0 => (h2.1 ((hD 16 (by decide)).symm.trans x0)).ext hb), (fun x0 => (h2.2 ((hD 16 (by decide)).symm.trans x0)).ext hb)⟩), mAny, mEq, trivial⟩
                refine cE_regionK (fun (D : Nat → Bool) (w : World) => St w0 w [rowT 71 aggE vo out] ∧ (D 16 = false → St w0 w [rowT 71 aggE vo out]) ∧ (D 16 = true → St w0 w [rowT 71 aggE vo out])) [[(0, none)], [(7, none)], [(8, none)], [(51, some 0), (52, some 1), (53, some 2)], [(0, none)], [(7, none)], [(55, some 4), (56, some 5)], [(57, some 6)], [(58, some 7)], [(1, none)], [(59, some 8), (60, some 9)], [(54, some 3), (61, some 10)], [(62, some 11)], [(50, some 12)], [(50, some 12)], [], [(9, some 15), (63, some 13)], [(64, some 14)]] (RofK [(kEq v_l), (kEq (.int .i64 (i : Int))), (kEq (.int .i64 (n : Int))), (kSl0 w0 sampE ((l.take n).drop i)), (kEq v_l), (kEq (.int .i64 (i : Int))), (kPt0 w0 [(.int .i64 ((l[i]'(by omega)).T)), (.int .i64 ((l[i]'(by omega)).V))]), (kPt0 w0 [(.int .i64 ((l[i]'(by omega)).T)), (.int .i64 ((l[i]'(by omega)).V))]), (kEq (.int .i64 ((l[i]'(by omega)).T))), (kEq (.int .i64 k)), (kEq (.int .i64 (floorA ((l[i]'(by omega)).T) k))), (kEq (.tuple #[(.agg #[(.int .i64 (((allA ((l.take n).drop i) (floorA ((l[i]'(by omega)).T) k)).1).From)), (.int .i64 (((allA ((l.take n).drop i) (floorA ((l[i]'(by omega)).T) k)).1).Count)), (.int .i64 (((allA ((l.take n).drop i) (floorA ((l[i]'(by omega)).T) k)).1).Sum)), (.int .i64 (((allA ((l.take n).drop i) (floorA ((l[i]'(by omega)).T) k)).1).Min)), (.int .i64 (((allA ((l.take n).drop i) (floorA ((l[i]'(by omega)).T) k)).1).Max)), (.int .i64 (((allA ((l.take n).drop i) (floorA ((l[i]'(by omega)).T) k)).1).First)), (.int .i64 (((allA ((l.take n).drop i) (floorA ((l[i]'(by omega)).T) k)).1).Last))]), (.int .i64 ((allA ((l.take n).drop i) (floorA ((l[i]'(by omega)).T) k)).2))])), (kEq (.tuple #[(.agg #[(.int .i64 (((allA ((l.take n).drop i) (floorA ((l[i]'(by omega)).T) k)).1).From)), (.int .i64 (((allA ((l.take n).drop i) (floorA ((l[i]'(by omega)).T) k)).1).Count)), (.int .i64 (((allA ((l.take n).drop i) (floorA ((l[i]'(by omega)).T) k)).1).Sum)), (.int .i64 (((allA ((l.take n).drop i) (floorA ((l[i]'(by omega)).T) k)).1).Min)), (.int .i64 (((allA ((l.take n).drop i) (floorA ((l[i]'(by omega)).T) k)).1).Max)), (.int .i64 (((allA ((l.take n).drop i) (floorA ((l[i]'(by omega)).T) k)).1).First)), (.int .i64 (((allA ((l.take n).drop i) (floorA ((l[i]'(by omega)).T) k)).1).Last))]), (.int .i64 ((allA ((l.take n).drop i) (floorA ((l[i]'(by omega)).T) k)).2))])), (kEq (.agg #[(.int .i64 (((allA ((l.take n).drop i) (floorA ((l[i]'(by omega)).T) k)).1).From)), (.int .i64 (((allA ((l.take n).drop i) (floorA ((l[i]'(by omega)).T) k)).1).Count)), (.int .i64 (((allA ((l.take n).drop i) (floorA ((l[i]'(by omega)).T) k)).1).Sum)), (.int .i64 (((allA ((l.take n).drop i) (floorA ((l[i]'(by omega)).T) k)).1).Min)), (.int .i64 (((allA ((l.take n).drop i) (floorA ((l[i]'(by omega)).T) k)).1).Max)), (.int .i64 (((allA ((l.take n).drop i) (floorA ((l[i]'(by omega)).T) k)).1).First)), (.int .i64 (((allA ((l.take n).drop i) (floorA ((l[i]'(by omega)).T) k)).1).Last))])), (kEq (.int .i64 ((allA ((l.take n).drop i) (floorA ((l[i]'(by omega)).T) k)).2))), (fun (D : Nat → Bool) (v : Value) (w : World) => ∃ g366 : Nat, v = .pointer (some ⟨g366, 0, none⟩) ∧ (D 16 = false → St w0 w [.blk g366 71 #[(.int .i64 0), (.int .i64 0), (.int .i64 0), (.int .i64 0), (.int .i64 0), (.int .i64 0), (.int .i64 0)], rowT 71 aggE vo out]) ∧ (D 16 = true → St w0 w [.blk g366 71 #[(.int .i64 (((allA ((l.take n).drop i) (floorA ((l[i]'(by omega)).T) k)).1).From)), (.int .i64 (((allA ((l.take n).drop i) (floorA ((l[i]'(by omega)).T) k)).1).Count)), (.int .i64 (((allA ((l.take n).drop i) (floorA ((l[i]'(by omega)).T) k)).1).Sum)), (.int .i64 (((allA ((l.take n).drop i) (floorA ((l[i]'(by omega)).T) k)).1).Min)), (.int .i64 (((allA ((l.take n).drop i) (floorA ((l[i]'(by omega)).T) k)).1).Max)), (.int .i64 (((allA ((l.take n).drop i) (floorA ((l[i]'(by omega)).T) k)).1).First)), (.int .i64 (((allA ((l.take n).drop i) (floorA ((l[i]'(by omega)).T) k)).1).Last))], rowT 71 aggE vo out])), kAny, (kEq (.int .i64 ((allA ((l.take n).drop i) (floorA ((l[i]'(by omega)).T) k)).2)))]) (by kernel_rfl) rfl (by kernel_rfl) ⟨hst.drewW.sub (.cons_cons _ .slnil), (fun _ => hst.drewW), (fun h => absurd h Bool.false_ne_true)⟩ ⟨?_, ?_, ?_, ?_, ?_, ?_, ?_, ?_, ?_, ?_, ?_, ?_, ?_, ?_, ?_, ?_, ?_, ?_, trivial⟩ ?_
                · rintro D371 ρ372 w373 hD374 hE375 hC376 hJ377 hA378 ⟨f0, _⟩
                  have hst := hJ377.2.1 (not_yet hD374 (fun hm => (hC376 16 0 hm (by kernel_rfl))))
                  replace hst : St w0 w373 [rowT 71 aggE vo out] := hst
                  exact go_plain (op_move v_l (f0.trans uw355_0) (kN0 (i := 0) hM369 (by decide) (by exact hJ377) (by exact rfl)))
                · rintro D379 ρ380 w381 hD382 hE383 hC384 hJ385 hA386 ⟨f7, _⟩
                  have hst := hJ385.2.1 (not_yet hD382 (fun hm => (hC384 16 1 hm (by kernel_rfl))))
                  replace hst : St w0 w381 [rowT 71 aggE vo out] := hst
                  exact go_plain (op_move (.int .i64 (i : Int)) (f7.trans uw355_7) (kN0 (i := 1) hM369 (by decide) (by exact hJ385) (by exact rfl)))
                · rintro D387 ρ388 w389 hD390 hE391 hC392 hJ393 hA394 ⟨f8, _⟩
                  have hst := hJ393.2.1 (not_yet hD390 (fun hm => (hC392 16 2 hm (by kernel_rfl))))
                  replace hst : St w0 w389 [rowT 71 aggE vo out] := hst
                  exact go_plain (op_move (.int .i64 (n : Int)) (f8.trans uw355_8) (kN0 (i := 2) hM369 (by decide) (by exact hJ393) (by exact rfl)))
                · rintro D395 ρ396 w397 hD398 hE399 hC400 hJ401 hA402 ⟨f51, f52, f53, _⟩
                  have hst := hJ401.2.1 (not_yet hD398 (fun hm => (hC400 16 3 hm (by kernel_rfl))))
                  replace hst : St w0 w397 [rowT 71 aggE vo out] := hst
                  refine go_plain (op_slice_bothN i n (E := sampE) (xs := l) Try.underlying22 Try.sizeOf48 f51 h_l f52 f53 (by omega) (by omega) (by omega) (by omega) (fun v403 hs404 => ?_))
                  exact (kN0 (i := 3) hM369 (by decide) (by exact hJ401) (by exact hs404))
                · rintro D405 ρ406 w407 hD408 hE409 hC410 hJ411 hA412 ⟨f0, _⟩
                  have hst := hJ411.2.1 (not_yet hD408 (fun hm => (hC410 16 4 hm (by kernel_rfl))))
                  replace hst : St w0 w407 [rowT 71 aggE vo out] := hst
                  exact go_plain (op_move v_l (f0.trans uw355_0) (kN0 (i := 4) hM369 (by decide) (by exact hJ411) (by exact rfl)))
                · rintro D413 ρ414 w415 hD416 hE417 hC418 hJ419 hA420 ⟨f7, _⟩
                  have hst := hJ419.2.1 (not_yet hD416 (fun hm => (hC418 16 5 hm (by kernel_rfl))))
                  replace hst : St w0 w415 [rowT 71 aggE vo out] := hst
                  exact go_plain (op_move (.int .i64 (i : Int)) (f7.trans uw355_7) (kN0 (i := 5) hM369 (by decide) (by exact hJ419) (by exact rfl)))
                · rintro D421 ρ422 w423 hD424 hE425 hC426 hJ427 hA428 ⟨f55, f56, _⟩
                  have hst := hJ427.2.1 (not_yet hD424 (fun hm => (hC426 16 6 hm (by kernel_rfl))))
                  replace hst : St w0 w423 [rowT 71 aggE vo out] := hst
                  refine go_plain (op_indexAddrN (E := sampE) (xs := l) i Try.underlying22 Try.sizeOf48 f55 h_l f56 (by omega) (by omega) (fun a429 o430 p431 => ?_))
                  exact (kN0 (i := 6) hM369 (by decide) (by exact hJ427) (by exact ⟨_, _, rfl, p431⟩))
                · rintro D432 ρ433 w434 hD435 hE436 hC437 hJ438 hA439 ⟨f57, _⟩
                  have hst := hJ438.2.1 (not_yet hD435 (fun hm => (hC437 16 7 hm (by kernel_rfl))))
                  replace hst : St w0 w434 [rowT 71 aggE vo out] := hst
                  obtain ⟨a440, o441, e442, p443⟩ := f57
                  exact go_plain (op_fieldAddr (s := 0) Try.underlying48 rfl rfl Try.sizeOf2 e442 (kN0 (i := 7) hM369 (by decide) (by exact hJ438) (by exact ⟨_, _, rfl, p443⟩)))
                · rintro D444 ρ445 w446 hD447 hE448 hC449 hJ450 hA451 ⟨f58, _⟩
                  have hst := hJ450.2.1 (not_yet hD447 (fun hm => (hC449 16 8 hm (by kernel_rfl))))
                  replace hst : St w0 w446 [rowT 71 aggE vo out] := hst
                  obtain ⟨a452, o453, e454, p455⟩ := f58
                  exact go_plain (op_load1 (u := (.int .i64 ((l[i]'(by omega)).T))) Try.isAgg2 e454 (p455.below hst.below) (kN0 (i := 8) hM369 (by decide) (by exact hJ450) (by exact rfl)))
                · rintro D456 ρ457 w458 hD459 hE460 hC461 hJ462 hA463 ⟨f1, _⟩
                  have hst := hJ462.2.1 (not_yet hD459 (fun hm => (hC461 16 9 hm (by kernel_rfl))))
                  replace hst : St w0 w458 [rowT 71 aggE vo out] := hst
                  exact go_plain (op_move (.int .i64 k) (f1.trans uw355_1) (kN0 (i := 9) hM369 (by decide) (by exact hJ462) (by exact rfl)))
                · rintro D464 ρ465 w466 hD467 hE468 hC469 hJ470 hA471 ⟨f59, f60, _⟩
                  have hst := hJ470.2.1 (not_yet hD467 (fun hm => (hC469 16 10 hm (by kernel_rfl))))
                  replace hst : St w0 w466 [rowT 71 aggE vo out] := hst
                  refine go_plain (op_call Try.call38 (evs_cons (v := (.int .i64 ((l[i]'(by omega)).T))) f59 (evs_cons (v := (.int .i64 k)) f60 evs_nil)) (c_rFloor (w0 := w466) (t := (l[i]'(by omega)).T) (k := k) (t0 := (hl _ (List.getElem_mem _)).1.1) (k0 := (by omega)) (t1 := (hl _ (List.getElem_mem _)).1.2) (k1 := (by omega))) ?_)
                  rintro _ w472 ⟨rfl, hcall⟩
                  refine ⟨_, rfl, ?_⟩
                  exact kN (i := 10) hM369 (by decide) hcall.below (by exact ⟨(hJ470.1).ext hcall.below, (fun x0 => (hJ470.2.1 x0).ext hcall.below), (fun x0 => (hJ470.2.2 x0).ext hcall.below)⟩) (by exact rfl)
                · rintro D473 ρ474 w475 hD476 hE477 hC478 hJ479 hA480 ⟨f54, f61, _⟩
                  have hst := hJ479.2.1 (not_yet hD476 (fun hm => (hC478 16 11 hm (by kernel_rfl))))
                  replace hst : St w0 w475 [rowT 71 aggE vo out] := hst
                  obtain ⟨v482, e483⟩ : ∃ x, ρ474 54 = x := ⟨_, rfl⟩
                  have hs481 := f54
                  replace hs481 : Sl w0 sampE v482 ((l.take n).drop i) := e483 ▸ hs481
                  refine go_plain (op_call Try.call39 (evs_cons (v := v482) e483 (evs_cons (v := (.int .i64 (floorA ((l[i]'(by omega)).T) k))) f61 evs_nil)) (c_rAll (w0 := w475) (v_l := v482) (l := ((l.take n).drop i)) (h_l := (hs481.below hst.below)) (fr := (floorA ((l[i]'(by omega)).T) k)) (hl := (fun s h => hl s (List.mem_of_mem_take (List.mem_of_mem_drop h)))) (fr0 := (by omega)) (fr1 := (by omega)) (hn := (by simp; omega))) ?_)
                  rintro _ w484 ⟨rfl, hcall⟩
                  refine ⟨_, rfl, ?_⟩
                  exact kN (i := 11) hM369 (by decide) hcall.below (by exact ⟨(hJ479.1).ext hcall.below, (fun x0 => (hJ479.2.1 x0).ext hcall.below), (fun x0 => (hJ479.2.2 x0).ext hcall.below)⟩) (by exact rfl)
                · rintro D485 ρ486 w487 hD488 hE489 hC490 hJ491 hA492 ⟨f62, _⟩
                  have hst := hJ491.2.1 (not_yet hD488 (fun hm => (hC490 16 12 hm (by kernel_rfl))))
                  replace hst : St w0 w487 [rowT 71 aggE vo out] := hst
                  exact go_plain (op_move (.tuple #[(.agg #[(.int .i64 (((allA ((l.take n).drop i) (floorA ((l[i]'(by omega)).T) k)).1).From)), (.int .i64 (((allA ((l.take n).drop i) (floorA ((l[i]'(by omega)).T) k)).1).Count)), (.int .i64 (((allA ((l.take n).drop i) (floorA ((l[i]'(by omega)).T) k)).1).Sum)), (.int .i64 (((allA ((l.take n).drop i) (floorA ((l[i]'(by omega)).T) k)).1).Min)), (.int .i64 (((allA ((l.take n).drop i) (floorA ((l[i]'(by omega)).T) k)).1).Max)), (.int .i64 (((allA ((l.take n).drop i) (floorA ((l[i]'(by omega)).T) k)).1).First)), (.int .i64 (((allA ((l.take n).drop i) (floorA ((l[i]'(by omega)).T) k)).1).Last))]), (.int .i64 ((allA ((l.take n).drop i) (floorA ((l[i]'(by omega)).T) k)).2))]) f62 (kN0 (i := 12) hM369 (by decide) (by exact hJ491) (by exact rfl)))
                · rintro D493 ρ494 w495 hD496 hE497 hC498 hJ499 hA500 ⟨f50, _⟩
                  have hst := hJ499.2.1 (not_yet hD496 (fun hm => (hC498 16 13 hm (by kernel_rfl))))
                  replace hst : St w0 w495 [rowT 71 aggE vo out] := hst
                  exact go_plain (op_extract (.agg #[(.int .i64 (((allA ((l.take n).drop i) (floorA ((l[i]'(by omega)).T) k)).1).From)), (.int .i64 (((allA ((l.take n).drop i) (floorA ((l[i]'(by omega)).T) k)).1).Count)), (.int .i64 (((allA ((l.take n).drop i) (floorA ((l[i]'(by omega)).T) k)).1).Sum)), (.int .i64 (((allA ((l.take n).drop i) (floorA ((l[i]'(by omega)).T) k)).1).Min)), (.int .i64 (((allA ((l.take n).drop i) (floorA ((l[i]'(by omega)).T) k)).1).Max)), (.int .i64 (((allA ((l.take n).drop i) (floorA ((l[i]'(by omega)).T) k)).1).First)), (.int .i64 (((allA ((l.take n).drop i) (floorA ((l[i]'(by omega)).T) k)).1).Last))]) f50 rfl (kN0 (i := 13) hM369 (by decide) (by exact hJ499) (by exact rfl)))
                · rintro D501 ρ502 w503 hD504 hE505 hC506 hJ507 hA508 ⟨f50, _⟩
                  have hst := hJ507.1
                  exact go_plain (op_extract (.int .i64 ((allA ((l.take n).drop i) (floorA ((l[i]'(by omega)).T) k)).2)) f50 rfl (kN0 (i := 14) hM369 (by decide) (by exact hJ507) (by exact rfl)))
                · rintro D509 ρ510 w511 hD512 hE513 hC514 hJ515 hA516 ⟨_⟩
                  have hst := hJ515.2.1 (not_yet hD512 (fun hm => (hC514 16 15 hm (by kernel_rfl))))
                  replace hst : St w0 w511 [rowT 71 aggE vo out] := hst
                  have hst := St.start w511
                  refine go_plain (op_alloc (cs := #[(.int .i64 0), (.int .i64 0), (.int .i64 0), (.int .i64 0), (.int .i64 0), (.int .i64 0), (.int .i64 0)]) hst Try.zeroValue71 rfl (fun g517 w518 hst _ => ?_))
                  exact kN (i := 15) hM369 (by decide) hst.below (by exact ⟨(hJ515.1).ext hst.below, (fun x0 => (hJ515.2.1 x0).ext hst.below), (fun x0 => (hJ515.2.2 x0).ext hst.below)⟩) (by exact ⟨_, rfl, (fun y0 => (hJ515.2.1 y0).call hst), (fun y0 => absurd (show D509 16 = true from y0) (by rw [(not_yet hD512 (fun hm => (hC514 16 15 hm (by kernel_rfl))))]; decide))⟩)
                · rintro D519 ρ520 w521 hD522 hE523 hC524 hJ525 hA526 ⟨f9, f63, _⟩
                  obtain ⟨g527, e528, hh529⟩ := hA526 15 9 (hE523 15 (by kernel_rfl)) rfl
                  have hst : St w0 w521 [.blk g527 71 #[(.int .i64 0), (.int .i64 0), (.int .i64 0), (.int .i64 0), (.int .i64 0), (.int .i64 0), (.int .i64 0)], rowT 71 aggE vo out] := hh529.1 hD522
                  refine go_plain (op_storeAll hst 0 rfl Try.sizeOf71 e528 f63 rfl rfl (by simp [Value.oneCell']) (fun w530 hst => ?_))
                  replace hst : St w0 w530 [.blk g527 71 #[(.int .i64 (((allA ((l.take n).drop i) (floorA ((l[i]'(by omega)).T) k)).1).From)), (.int .i64 (((allA ((l.take n).drop i) (floorA ((l[i]'(by omega)).T) k)).1).Count)), (.int .i64 (((allA ((l.take n).drop i) (floorA ((l[i]'(by omega)).T) k)).1).Sum)), (.int .i64 (((allA ((l.take n).drop i) (floorA ((l[i]'(by omega)).T) k)).1).Min)), (.int .i64 (((allA ((l.take n).drop i) (floorA ((l[i]'(by omega)).T) k)).1).Max)), (.int .i64 (((allA ((l.take n).drop i) (floorA ((l[i]'(by omega)).T) k)).1).First)), (.int .i64 (((allA ((l.take n).drop i) (floorA ((l[i]'(by omega)).T) k)).1).Last))], rowT 71 aggE vo out] := hst
                  have hI531 : stabIXs 16 [15] D519 0 [(kEq v_l), (kEq (.int .i64 (i : Int))), (kEq (.int .i64 (n : Int))), (kSl0 w0 sampE ((l.take n).drop i)), (kEq v_l), (kEq (.int .i64 (i : Int))), (kPt0 w0 [(.int .i64 ((l[i]'(by omega)).T)), (.int .i64 ((l[i]'(by omega)).V))]), (kPt0 w0 [(.int .i64 ((l[i]'(by omega)).T)), (.int .i64 ((l[i]'(by omega)).V))]), (kEq (.int .i64 ((l[i]'(by omega)).T))), (kEq (.int .i64 k)), (kEq (.int .i64 (floorA ((l[i]'(by omega)).T) k))), (kEq (.tuple #[(.agg #[(.int .i64 (((allA ((l.take n).drop i) (floorA ((l[i]'(by omega)).T) k)).1).From)), (.int .i64 (((allA ((l.take n).drop i) (floorA ((l[i]'(by omega)).T) k)).1).Count)), (.int .i64 (((allA ((l.take n).drop i) (floorA ((l[i]'(by omega)).T) k)).1).Sum)), (.int .i64 (((allA ((l.take n).drop i) (floorA ((l[i]'(by omega)).T) k)).1).Min)), (.int .i64 (((allA ((l.take n).drop i) (floorA ((l[i]'(by omega)).T) k)).1).Max)), (.int .i64 (((allA ((l.take n).drop i) (floorA ((l[i]'(by omega)).T) k)).1).First)), (.int .i64 (((allA ((l.take n).drop i) (floorA ((l[i]'(by omega)).T) k)).1).Last))]), (.int .i64 ((allA ((l.take n).drop i) (floorA ((l[i]'(by omega)).T) k)).2))])), (kEq (.tuple #[(.agg #[(.int .i64 (((allA ((l.take n).drop i) (floorA ((l[i]'(by omega)).T) k)).1).From)), (.int .i64 (((allA ((l.take n).drop i) (floorA ((l[i]'(by omega)).T) k)).1).Count)), (.int .i64 (((allA ((l.take n).drop i) (floorA ((l[i]'(by omega)).T) k)).1).Sum)), (.int .i64 (((allA ((l.take n).drop i) (floorA ((l[i]'(by omega)).T) k)).1).Min)), (.int .i64 (((allA ((l.take n).drop i) (floorA ((l[i]'(by omega)).T) k)).1).Max)), (.int .i64 (((allA ((l.take n).drop i) (floorA ((l[i]'(by omega)).T) k)).1).First)), (.int .i64 (((allA ((l.take n).drop i) (floorA ((l[i]'(by omega)).T) k)).1).Last))]), (.int .i64 ((allA ((l.take n).drop i) (floorA ((l[i]'(by omega)).T) k)).2))])), (kEq (.agg #[(.int .i64 (((allA ((l.take n).drop i) (floorA ((l[i]'(by omega)).T) k)).1).From)), (.int .i64 (((allA ((l.take n).drop i) (floorA ((l[i]'(by omega)).T) k)).1).Count)), (.int .i64 (((allA ((l.take n).drop i) (floorA ((l[i]'(by omega)).T) k)).1).Sum)), (.int .i64 (((allA ((l.take n).drop i) (floorA ((l[i]'(by omega)).T) k)).1).Min)), (.int .i64 (((allA ((l.take n).drop i) (floorA ((l[i]'(by omega)).T) k)).1).Max)), (.int .i64 (((allA ((l.take n).drop i) (floorA ((l[i]'(by omega)).T) k)).1).First)), (.int .i64 (((allA ((l.take n).drop i) (floorA ((l[i]'(by omega)).T) k)).1).Last))])), (kEq (.int .i64 ((allA ((l.take n).drop i) (floorA ((l[i]'(by omega)).T) k)).2))), (fun (D : Nat → Bool) (v : Value) (w : World) => ∃ g366 : Nat, v = .pointer (some ⟨g366, 0, none⟩) ∧ (D 16 = false → St w0 w [.blk g366 71 #[(.int .i64 0), (.int .i64 0), (.int .i64 0), (.int .i64 0), (.int .i64 0), (.int .i64 0), (.int .i64 0)], rowT 71 aggE vo out]) ∧ (D 16 = true → St w0 w [.blk g366 71 #[(.int .i64 (((allA ((l.take n).drop i) (floorA ((l[i]'(by omega)).T) k)).1).From)), (.int .i64 (((allA ((l.take n).drop i) (floorA ((l[i]'(by omega)).T) k)).1).Count)), (.int .i64 (((allA ((l.take n).drop i) (floorA ((l[i]'(by omega)).T) k)).1).Sum)), (.int .i64 (((allA ((l.take n).drop i) (floorA ((l[i]'(by omega)).T) k)).1).Min)), (.int .i64 (((allA ((l.take n).drop i) (floorA ((l[i]'(by omega)).T) k)).1).Max)), (.int .i64 (((allA ((l.take n).drop i) (floorA ((l[i]'(by omega)).T) k)).1).First)), (.int .i64 (((allA ((l.take n).drop i) (floorA ((l[i]'(by omega)).T) k)).1).Last))], rowT 71 aggE vo out])), kAny, (kEq (.int .i64 ((allA ((l.take n).drop i) (floorA ((l[i]'(by omega)).T) k)).2)))] := ⟨Or.inr (Or.inr (Or.inr iEq)), Or.inr (Or.inr (Or.inr iEq)), Or.inr (Or.inr (Or.inr iEq)), Or.inr (Or.inr (Or.inr iSl0)), Or.inr (Or.inr (Or.inr iEq)), Or.inr (Or.inr (Or.inr iEq)), Or.inr (Or.inr (Or.inr iPt0)), Or.inr (Or.inr (Or.inr iPt0)), Or.inr (Or.inr (Or.inr iEq)), Or.inr (Or.inr (Or.inr iEq)), Or.inr (Or.inr (Or.inr iEq)), Or.inr (Or.inr (Or.inr iEq)), Or.inr (Or.inr (Or.inr iEq)), Or.inr (Or.inr (Or.inr iEq)), Or.inr (Or.inr (Or.inr iEq)), Or.inr (Or.inl (by decide)), Or.inl rfl, Or.inr (Or.inr (Or.inl (not_yet hD522 (fun hm => (hC524 17 16 hm (by kernel_rfl)))))), trivial⟩
                  refine ⟨by exact ⟨hst.sub (.cons _ (.cons_cons _ .slnil)), (fun y0 => absurd y0 (fun h => Bool.noConfusion h)), (fun y0 => hst.sub (.cons _ (.cons_cons _ .slnil)))⟩, by exact trivial, kX [15] hI531 ?_⟩
                  intro j d hj hjd hDj h
                  simp only [List.mem_cons, List.not_mem_nil, or_false] at hj
                  subst hj
                  obtain rfl : 9 = d := Option.some.inj hjd
                  exact ⟨_, e528, (fun y0 => absurd y0 (fun h => Bool.noConfusion h)), (fun y0 => hst.sub (.cons_cons _ (.cons_cons _ .slnil)))⟩
                · rintro D532 ρ533 w534 hD535 hE536 hC537 hJ538 hA539 ⟨f64, _⟩
                  have hst := hJ538.2.2 (hE536 16 (by kernel_rfl))
                  replace hst : St w0 w534 [rowT 71 aggE vo out] := hst
                  exact go_plain (op_assign (.int .i64 ((allA ((l.take n).drop i) (floorA ((l[i]'(by omega)).T) k)).2)) f64 (kN0 (i := 17) hM369 (by decide) (by exact hJ538) (by exact rfl)))
                · intro ρ540 w541 Dw541 hallw541 hJw541 hRw541 hkw541
                  obtain ⟨g542, uw541_9, hhw541⟩ := hRw541 15 9 rfl
                  have hst : St w0 w541 [.blk g542 71 #[(.int .i64 (((allA ((l.take n).drop i) (floorA ((l[i]'(by omega)).T) k)).1).From)), (.int .i64 (((allA ((l.take n).drop i) (floorA ((l[i]'(by omega)).T) k)).1).Count)), (.int .i64 (((allA ((l.take n).drop i) (floorA ((l[i]'(by omega)).T) k)).1).Sum)), (.int .i64 (((allA ((l.take n).drop i) (floorA ((l[i]'(by omega)).T) k)).1).Min)), (.int .i64 (((allA ((l.take n).drop i) (floorA ((l[i]'(by omega)).T) k)).1).Max)), (.int .i64 (((allA ((l.take n).drop i) (floorA ((l[i]'(by omega)).T) k)).1).First)), (.int .i64 (((allA ((l.take n).drop i) (floorA ((l[i]'(by omega)).T) k)).1).Last))], rowT 71 aggE vo out] := hhw541.2 (hallw541 16 (show 16 < 18 from by decide))
                  have uw541_0 : ρ540 0 = v_l := (hkw541 0 rfl).trans uw355_0
                  have uw541_1 : ρ540 1 = (.int .i64 k) := (hkw541 1 rfl).trans uw355_1
                  have uw541_11 : ρ540 11 = (.int .i64 k) := (hkw541 11 rfl).trans uw355_11
                  have uw541_12 : ρ540 12 = (.bool (decide (k < 1))) := (hkw541 12 rfl).trans uw355_12
                  have uw541_13 : ρ540 13 = (.bool (decide (k < 1))) := (hkw541 13 rfl).trans uw355_13
                  have uw541_14 : ρ540 14 = (.int .i64 k) := (hkw541 14 rfl).trans uw355_14
                  have uw541_15 : ρ540 15 = (.bool (decide (3 < k))) := (hkw541 15 rfl).trans uw355_15
                  have uw541_16 : ρ540 16 = (.bool (decide (3 < k))) := (hkw541 16 rfl).trans uw355_16
                  have uw541_17 : ρ540 17 = (.bool (decide (3 < k))) := (hkw541 17 rfl).trans uw355_17
                  have uw541_18 : ρ540 18 = v_l := (hkw541 18 rfl).trans uw355_18
                  have uw541_19 : ρ540 19 = (.bool (risingA l)) := (hkw541 19 rfl).trans uw355_19
                  have uw541_20 : ρ540 20 = (.bool (!(risingA l))) := (hkw541 20 rfl).trans uw355_20
                  have uw541_21 : ρ540 21 = (.bool (!(risingA l))) := (hkw541 21 rfl).trans uw355_21
                  have uw541_7 : ρ540 7 = (.int .i64 (i : Int)) := (hkw541 7 rfl).trans uw355_7
                  have uw541_6 : ρ540 6 = vo := (hkw541 6 rfl).trans uw355_6
                  have uw541_22 : ρ540 22 = (.int .i64 (i : Int)) := (hkw541 22 rfl).trans uw355_22
                  have uw541_23 : ρ540 23 = v_l := (hkw541 23 rfl).trans uw355_23
                  have uw541_24 : ρ540 24 = (.int .i64 (l.length : Int)) := (hkw541 24 rfl).trans uw355_24
                  have uw541_25 : ρ540 25 = (.bool (decide ((i : Int) < (l.length : Int)))) := (hkw541 25 rfl).trans uw355_25
                  have uw541_26 : ρ540 26 = (.int .i64 (i : Int)) := (hkw541 26 rfl).trans uw355_26
                  have uw541_8 : ρ540 8 = (.int .i64 (n : Int)) := (hkw541 8 rfl).trans uw355_8
                  have uw541_47 : ρ540 47 = (.bool (decide ((floorA ((l[n]'(by omega)).T) k) = (floorA ((l[i]'(by omega)).T) k)))) := (hkw541 47 rfl).trans uw355_47
                  have uw541_10 : ρ540 10 = (.int .i64 ((allA ((l.take n).drop i) (floorA ((l[i]'(by omega)).T) k)).2)) := hRw541 17 10 rfl
                  refine then_n ?_
                  refine cE_seq ?_
                  refine cE_seq ?_
                  refine cE_region rfl ?_
                  refine s_cons (op_move (.int .i64 ((allA ((l.take n).drop i) (floorA ((l[i]'(by omega)).T) k)).2)) uw541_10 ?_)
                  refine s_cons (op_neq (k := .i64) (a := (allA ((l.take n).drop i) (floorA ((l[i]'(by omega)).T) k)).2) (b := 0) rfl rfl ?_)
                  refine s_nil ?_
                  refine then_n ?_
                  rcases Bool.eq_false_or_eq_true (decide (((allA ((l.take n).drop i) (floorA ((l[i]'(by omega)).T) k)).2) = 0)) with b543 | b543
                  · have c544 : ((allA ((l.take n).drop i) (floorA ((l[i]'(by omega)).T) k)).2) = 0 := of_decide_eq_true b543
                    refine cE_cond false (congrArg Value.bool (congrArg (! ·) b543)) (fun h => by cases h) (fun _ => ?_)
                    refine cE_skip ?_
                    refine then_n ?_
                    refine cE_seq ?_
                    refine cE_region rfl ?_
                    refine s_cons (op_move vo uw541_6 ?_)
                    refine s_cons (op_loadN (cs := [(.int .i64 (((allA ((l.take n).drop i) (floorA ((l[i]'(by omega)).T) k)).1).From)), (.int .i64 (((allA ((l.take n).drop i) (floorA ((l[i]'(by omega)).T) k)).1).Count)), (.int .i64 (((allA ((l.take n).drop i) (floorA ((l[i]'(by omega)).T) k)).1).Sum)), (.int .i64 (((allA ((l.take n).drop i) (floorA ((l[i]'(by omega)).T) k)).1).Min)), (.int .i64 (((allA ((l.take n).drop i) (floorA ((l[i]'(by omega)).T) k)).1).Max)), (.int .i64 (((allA ((l.take n).drop i) (floorA ((l[i]'(by omega)).T) k)).1).First)), (.int .i64 (((allA ((l.take n).drop i) (floorA ((l[i]'(by omega)).T) k)).1).Last))]) Try.isAgg71 Try.sizeOf71 uw541_9 (Pt.of (hst.cell 0 rfl) rfl) rfl ?_)
                    refine s_cons (op_buildSlice (E := aggE) [((allA ((l.take n).drop i) (floorA ((l[i]'(by omega)).T) k)).1)] hst Try.underlying23 Try.sizeOf71 Try.zeroValue71 (evp_cons (v := (.agg #[(.int .i64 (((allA ((l.take n).drop i) (floorA ((l[i]'(by omega)).T) k)).1).From)), (.int .i64 (((allA ((l.take n).drop i) (floorA ((l[i]'(by omega)).T) k)).1).Count)), (.int .i64 (((allA ((l.take n).drop i) (floorA ((l[i]'(by omega)).T) k)).1).Sum)), (.int .i64 (((allA ((l.take n).drop i) (floorA ((l[i]'(by omega)).T) k)).1).Min)), (.int .i64 (((allA ((l.take n).drop i) (floorA ((l[i]'(by omega)).T) k)).1).Max)), (.int .i64 (((allA ((l.take n).drop i) (floorA ((l[i]'(by omega)).T) k)).1).First)), (.int .i64 (((allA ((l.take n).drop i) (floorA ((l[i]'(by omega)).T) k)).1).Last))])) rfl evp_nil) (parts_cons rfl parts_nil) rfl (by decide) (fun v545 w546 hst => ?_))
                    replace hst : St w0 w546 [rowT 71 aggE v545 ([((allA ((l.take n).drop i) (floorA ((l[i]'(by omega)).T) k)).1)]), .blk g542 71 #[(.int .i64 (((allA ((l.take n).drop i) (floorA ((l[i]'(by omega)).T) k)).1).From)), (.int .i64 (((allA ((l.take n).drop i) (floorA ((l[i]'(by omega)).T) k)).1).Count)), (.int .i64 (((allA ((l.take n).drop i) (floorA ((l[i]'(by omega)).T) k)).1).Sum)), (.int .i64 (((allA ((l.take n).drop i) (floorA ((l[i]'(by omega)).T) k)).1).Min)), (.int .i64 (((allA ((l.take n).drop i) (floorA ((l[i]'(by omega)).T) k)).1).Max)), (.int .i64 (((allA ((l.take n).drop i) (floorA ((l[i]'(by omega)).T) k)).1).First)), (.int .i64 (((allA ((l.take n).drop i) (floorA ((l[i]'(by omega)).T) k)).1).Last))], rowT 71 aggE vo out] := hst
                    refine s_cons (op_append (E := aggE) (xs := out) (ys := [((allA ((l.take n).drop i) (floorA ((l[i]'(by omega)).T) k)).1)]) (z := (.agg #[(.int .i64 0), (.int .i64 0), (.int .i64 0), (.int .i64 0), (.int .i64 0), (.int .i64 0), (.int .i64 0)])) (bytes := 56) hst 2 rfl Try.underlying23 (by kernel_rfl) rfl rfl rfl (hst.sl 0 rfl) (by first | omega | (simp; omega) | (simp; done)) (by first | omega | (simp; omega) | (simp; done)) (fun v547 w548 hst => ?_))
                    replace hst : St w0 w548 [rowT 71 aggE v545 ([((allA ((l.take n).drop i) (floorA ((l[i]'(by omega)).T) k)).1)]), .blk g542 71 #[(.int .i64 (((allA ((l.take n).drop i) (floorA ((l[i]'(by omega)).T) k)).1).From)), (.int .i64 (((allA ((l.take n).drop i) (floorA ((l[i]'(by omega)).T) k)).1).Count)), (.int .i64 (((allA ((l.take n).drop i) (floorA ((l[i]'(by omega)).T) k)).1).Sum)), (.int .i64 (((allA ((l.take n).drop i) (floorA ((l[i]'(by omega)).T) k)).1).Min)), (.int .i64 (((allA ((l.take n).drop i) (floorA ((l[i]'(by omega)).T) k)).1).Max)), (.int .i64 (((allA ((l.take n).drop i) (floorA ((l[i]'(by omega)).T) k)).1).First)), (.int .i64 (((allA ((l.take n).drop i) (floorA ((l[i]'(by omega)).T) k)).1).Last))], rowT 71 aggE v547 (out ++ ([((allA ((l.take n).drop i) (floorA ((l[i]'(by omega)).T) k)).1)]))] := hst
                    refine s_cons (op_assign v547 rfl ?_)
                    refine s_nil ?_
                    refine then_n ?_
                    refine cE_region rfl ?_
                    refine s_cons (op_move (.int .i64 (n : Int)) uw541_8 ?_)
                    refine s_cons (op_assign (.int .i64 (n : Int)) rfl ?_)
                    refine s_nil ?_
                    refine block_n (then_n ?_)
                    exact ⟨_, ⟨v547, (out ++ ([((allA ((l.take n).drop i) (floorA ((l[i]'(by omega)).T) k)).1)])), (f - 1), n, rfl, uw541_0, uw541_1, uw541_11, uw541_12, uw541_13, uw541_14, uw541_15, uw541_16, uw541_17, uw541_18, uw541_19, uw541_20, uw541_21, rfl, rfl, (hst.sub (.cons _ (.cons _ (.cons_cons _ .slnil)))), (by omega), (by first | omega | (simp; omega) | (simp; done)), (by first | omega | (simp; omega) | (simp; done)), (by first | exact hI.trans (rrw_go (by omega) hf hw (by assumption) (by omega)) | (unfold rawA; rw [if_pos ⟨hri, hco⟩, List.drop_zero]))⟩, (by simp only [id]; omega)⟩
                  · have c549 : ¬ (((allA ((l.take n).drop i) (floorA ((l[i]'(by omega)).T) k)).2) = 0) := of_decide_eq_false b543
                    refine cE_cond true (congrArg Value.bool (congrArg (! ·) b543)) (fun _ => ?_) (fun h => by cases h)
                    refine cE_seq ?_
                    refine cE_region rfl ?_
                    refine s_cons (op_move (.int .i64 ((allA ((l.take n).drop i) (floorA ((l[i]'(by omega)).T) k)).2)) uw541_10 ?_)
                    refine s_cons (op_assign (.slice none 0 0) rfl ?_)
                    refine s_cons (op_assign (.int .i64 ((allA ((l.take n).drop i) (floorA ((l[i]'(by omega)).T) k)).2)) rfl ?_)
                    refine s_nil ?_
                    refine then_n ?_
                    refine cE_ret ?_
                    refine then_r (block_r (then_r (block_r (then_r ?_))))
                    refine post_r _ (res2 (v := (.slice none 0 0)) rfl (x := (.int .i64 ((allA ((l.take n).drop i) (floorA ((l[i]'(by omega)).T) k)).2))) rfl) ?_
                    replace hst : St w0 w541 [rowT 71 aggE (.slice none 0 0) ([]), .blk g542 71 #[(.int .i64 (((allA ((l.take n).drop i) (floorA ((l[i]'(by omega)).T) k)).1).From)), (.int .i64 (((allA ((l.take n).drop i) (floorA ((l[i]'(by omega)).T) k)).1).Count)), (.int .i64 (((allA ((l.take n).drop i) (floorA ((l[i]'(by omega)).T) k)).1).Sum)), (.int .i64 (((allA ((l.take n).drop i) (floorA ((l[i]'(by omega)).T) k)).1).Min)), (.int .i64 (((allA ((l.take n).drop i) (floorA ((l[i]'(by omega)).T) k)).1).Max)), (.int .i64 (((allA ((l.take n).drop i) (floorA ((l[i]'(by omega)).T) k)).1).First)), (.int .i64 (((allA ((l.take n).drop i) (floorA ((l[i]'(by omega)).T) k)).1).Last))], rowT 71 aggE vo out] := hst.nilRow 71 aggE
                    have e550 : [] = (rawA l k).1 := by first | exact (congrArg Prod.fst (raw_none (Or.inl (by assumption)))).symm | exact (congrArg Prod.snd (raw_none (Or.inl (by assumption)))).symm | exact (congrArg Prod.fst (raw_none (Or.inr (coarse_no (by omega))))).symm | exact (congrArg Prod.snd (raw_none (Or.inr (coarse_no (by omega))))).symm | exact (congrArg Prod.fst (hI.trans (rrw_stop (by omega) hf hw (by assumption)))).symm | exact (congrArg Prod.snd (hI.trans (rrw_stop (by omega) hf hw (by assumption)))).symm | exact (congrArg Prod.fst (hI.trans (rrw_end (by omega)))).symm | exact (congrArg Prod.snd (hI.trans (rrw_end (by omega)))).symm
                    replace hst : St w0 w541 [rowT 71 aggE (.slice none 0 0) ((rawA l k).1), .blk g542 71 #[(.int .i64 (((allA ((l.take n).drop i) (floorA ((l[i]'(by omega)).T) k)).1).From)), (.int .i64 (((allA ((l.take n).drop i) (floorA ((l[i]'(by omega)).T) k)).1).Count)), (.int .i64 (((allA ((l.take n).drop i) (floorA ((l[i]'(by omega)).T) k)).1).Sum)), (.int .i64 (((allA ((l.take n).drop i) (floorA ((l[i]'(by omega)).T) k)).1).Min)), (.int .i64 (((allA ((l.take n).drop i) (floorA ((l[i]'(by omega)).T) k)).1).Max)), (.int .i64 (((allA ((l.take n).drop i) (floorA ((l[i]'(by omega)).T) k)).1).First)), (.int .i64 (((allA ((l.take n).drop i) (floorA ((l[i]'(by omega)).T) k)).1).Last))], rowT 71 aggE vo out] := by rw [congrArg (fun l => rowT 71 aggE (.slice none 0 0) l) e550] at hst; exact hst
                    exact ⟨(.slice none 0 0), (retv2 rfl (congrArg (Value.int .i64) (show (allA ((l.take n).drop i) (floorA ((l[i]'(by omega)).T) k)).2 = (rawA l k).2 from by first | exact (congrArg Prod.fst (raw_none (Or.inl (by assumption)))).symm | exact (congrArg Prod.snd (raw_none (Or.inl (by assumption)))).symm | exact (congrArg Prod.fst (raw_none (Or.inr (coarse_no (by omega))))).symm | exact (congrArg Prod.snd (raw_none (Or.inr (coarse_no (by omega))))).symm | exact (congrArg Prod.fst (hI.trans (rrw_stop (by omega) hf hw (by assumption)))).symm | exact (congrArg Prod.snd (hI.trans (rrw_stop (by omega) hf hw (by assumption)))).symm | exact (congrArg Prod.fst (hI.trans (rrw_end (by omega)))).symm | exact (congrArg Prod.snd (hI.trans (rrw_end (by omega)))).symm))), hst.sub (.cons_cons _ (.cons _ (.cons _ .slnil)))⟩
          · have c551 : ¬ ((n : Int) < (l.length : Int)) := of_decide_eq_false b257
            refine cE_regionL hst [[(8, none)], [(0, none)], [(28, some 1)], [(27, some 0), (29, some 2)], [(30, some 3)], [(0, none), (31, some 4)], [(8, none), (31, some 4)], [(32, some 5), (33, some 6), (31, some 4)], [(34, some 7), (31, some 4)], [(35, some 8), (31, some 4)], [(1, none), (31, some 4)], [(36, some 9), (37, some 10), (31, some 4)], [(0, none), (31, some 4)], [(7, none), (31, some 4)], [(39, some 12), (40, some 13), (31, some 4)], [(41, some 14), (31, some 4)], [(42, some 15), (31, some 4)], [(1, none), (31, some 4)], [(43, some 16), (44, some 17), (31, some 4)], [(38, some 11), (45, some 18), (31, some 4)], [(31, some 4), (46, some 19)]] [(rEq (.int .i64 (n : Int))), (rEq v_l), (rEq (.int .i64 (l.length : Int))), (rEq (.bool (decide ((n : Int) < (l.length : Int))))), (rEq (.bool (decide ((n : Int) < (l.length : Int))))), (rEq undef), (rEq undef), (rEq undef), (rEq undef), (rEq undef), (rEq undef), (rEq undef), (rEq undef), (rEq undef), (rEq undef), (rEq undef), (rEq undef), (rEq undef), (rEq undef), (rEq undef), (rEq (.bool false))] (by kernel_rfl) rfl (by kernel_rfl) ⟨sEq, sEq, sEq, sEq, sEq, sEq, sEq, sEq, sEq, sEq, sEq, sEq, sEq, sEq, sEq, sEq, sEq, sEq, sEq, sEq, sEq, trivial⟩ ⟨?_, ?_, ?_, ?_, ?_, ?_, ?_, ?_, ?_, ?_, ?_, ?_, ?_, ?_, ?_, ?_, ?_, ?_, ?_, ?_, ?_, trivial⟩ ?_
            · rintro ρ552 w553 hj554 ⟨f8, _⟩
              have hst := hj554.2
              exact go_plain (op_move (.int .i64 (n : Int)) (f8.trans q253_8) (kS hj554 rfl))
            · rintro ρ555 w556 hj557 ⟨f0, _⟩
              have hst := hj557.2
              exact go_plain (op_move v_l (f0.trans q253_0) (kS hj557 rfl))
            · rintro ρ558 w559 hj560 ⟨f28, _⟩
              have hst := hj560.2
              exact go_plain (op_len (E := sampE) (xs := l) Try.underlying22 f28 h_l (kS hj560 rfl))
            · rintro ρ561 w562 hj563 ⟨f27, f29, _⟩
              have hst := hj563.2
              exact go_plain (op_lss (k := .i64) (a := (n : Int)) (b := (l.length : Int)) f27 f29 (kS hj563 rfl))
            · rintro ρ564 w565 hj566 ⟨f30, _⟩
              have hst := hj566.2
              exact go_plain (op_move (.bool (decide ((n : Int) < (l.length : Int)))) f30 (kS hj566 rfl))
            · rintro ρ567 w568 hj569 ⟨f0, f31, _⟩
              have hst := hj569.2
              exact go_no 31 rfl (f31.trans (congrArg Value.bool b257)) (kS hj569 rfl)
            · rintro ρ570 w571 hj572 ⟨f8, f31, _⟩
              have hst := hj572.2
              exact go_no 31 rfl (f31.trans (congrArg Value.bool b257)) (kS hj572 rfl)
            · rintro ρ573 w574 hj575 ⟨f32, f33, f31, _⟩
              have hst := hj575.2
              exact go_no 31 rfl (f31.trans (congrArg Value.bool b257)) (kS hj575 rfl)
            · rintro ρ576 w577 hj578 ⟨f34, f31, _⟩
              have hst := hj578.2
              exact go_no 31 rfl (f31.trans (congrArg Value.bool b257)) (kS hj578 rfl)
            · rintro ρ579 w580 hj581 ⟨f35, f31, _⟩
              have hst := hj581.2
              exact go_no 31 rfl (f31.trans (congrArg Value.bool b257)) (kS hj581 rfl)
            · rintro ρ582 w583 hj584 ⟨f1, f31, _⟩
              have hst := hj584.2
              exact go_no 31 rfl (f31.trans (congrArg Value.bool b257)) (kS hj584 rfl)
            · rintro ρ585 w586 hj587 ⟨f36, f37, f31, _⟩
              have hst := hj587.2
              exact go_no 31 rfl (f31.trans (congrArg Value.bool b257)) (kS hj587 rfl)
            · rintro ρ588 w589 hj590 ⟨f0, f31, _⟩
              have hst := hj590.2
              exact go_no 31 rfl (f31.trans (congrArg Value.bool b257)) (kS hj590 rfl)
            · rintro ρ591 w592 hj593 ⟨f7, f31, _⟩
              have hst := hj593.2
              exact go_no 31 rfl (f31.trans (congrArg Value.bool b257)) (kS hj593 rfl)
            · rintro ρ594 w595 hj596 ⟨f39, f40, f31, _⟩
              have hst := hj596.2
              exact go_no 31 rfl (f31.trans (congrArg Value.bool b257)) (kS hj596 rfl)
            · rintro ρ597 w598 hj599 ⟨f41, f31, _⟩
              have hst := hj599.2
              exact go_no 31 rfl (f31.trans (congrArg Value.bool b257)) (kS hj599 rfl)
            · rintro ρ600 w601 hj602 ⟨f42, f31, _⟩
              have hst := hj602.2
              exact go_no 31 rfl (f31.trans (congrArg Value.bool b257)) (kS hj602 rfl)
            · rintro ρ603 w604 hj605 ⟨f1, f31, _⟩
              have hst := hj605.2
              exact go_no 31 rfl (f31.trans (congrArg Value.bool b257)) (kS hj605 rfl)
            · rintro ρ606 w607 hj608 ⟨f43, f44, f31, _⟩
              have hst := hj608.2
              exact go_no 31 rfl (f31.trans (congrArg Value.bool b257)) (kS hj608 rfl)
            · rintro ρ609 w610 hj611 ⟨f38, f45, f31, _⟩
              have hst := hj611.2
              exact go_no 31 rfl (f31.trans (congrArg Value.bool b257)) (kS hj611 rfl)
            · rintro ρ612 w613 hj614 ⟨f31, f46, _⟩
              have hst := hj614.2
              exact go_plain (op_pick_f (.bool false) (f31.trans (congrArg Value.bool b257)) rfl (kS hj614 rfl))
            · intro ρ615 w616 hbw616 hst hRw616 hkw616
              have uw616_0 : ρ615 0 = v_l := (hkw616 0 rfl).trans q253_0
              have uw616_1 : ρ615 1 = (.int .i64 k) := (hkw616 1 rfl).trans q253_1
              have uw616_11 : ρ615 11 = (.int .i64 k) := (hkw616 11 rfl).trans q253_11
              have uw616_12 : ρ615 12 = (.bool (decide (k < 1))) := (hkw616 12 rfl).trans q253_12
              have uw616_13 : ρ615 13 = (.bool (decide (k < 1))) := (hkw616 13 rfl).trans q253_13
              have uw616_14 : ρ615 14 = (.int .i64 k) := (hkw616 14 rfl).trans q253_14
              have uw616_15 : ρ615 15 = (.bool (decide (3 < k))) := (hkw616 15 rfl).trans q253_15
              have uw616_16 : ρ615 16 = (.bool (decide (3 < k))) := (hkw616 16 rfl).trans q253_16
              have uw616_17 : ρ615 17 = (.bool (decide (3 < k))) := (hkw616 17 rfl).trans q253_17
              have uw616_18 : ρ615 18 = v_l := (hkw616 18 rfl).trans q253_18
              have uw616_19 : ρ615 19 = (.bool (risingA l)) := (hkw616 19 rfl).trans q253_19
              have uw616_20 : ρ615 20 = (.bool (!(risingA l))) := (hkw616 20 rfl).trans q253_20
              have uw616_21 : ρ615 21 = (.bool (!(risingA l))) := (hkw616 21 rfl).trans q253_21
              have uw616_7 : ρ615 7 = (.int .i64 (i : Int)) := (hkw616 7 rfl).trans q253_7
              have uw616_6 : ρ615 6 = vo := (hkw616 6 rfl).trans q253_6
              have uw616_22 : ρ615 22 = (.int .i64 (i : Int)) := (hkw616 22 rfl).trans q253_22
              have uw616_23 : ρ615 23 = v_l := (hkw616 23 rfl).trans q253_23
              have uw616_24 : ρ615 24 = (.int .i64 (l.length : Int)) := (hkw616 24 rfl).trans q253_24
              have uw616_25 : ρ615 25 = (.bool (decide ((i : Int) < (l.length : Int)))) := (hkw616 25 rfl).trans q253_25
              have uw616_26 : ρ615 26 = (.int .i64 (i : Int)) := (hkw616 26 rfl).trans q253_26
              have uw616_8 : ρ615 8 = (.int .i64 (n : Int)) := (hkw616 8 rfl).trans q253_8
              have uw616_47 : ρ615 47 = (.bool false) := hRw616 20 47 rfl
              refine then_n ?_
              refine cE_cond false uw616_47 (fun h => by cases h) (fun _ => ?_)
              refine cE_exit ?_
              refine then_x (then_x (block_hit (then_n ?_)))
              refine cE_seq ?_
              have hw : winLen k (floorA ((l[i]'(by omega)).T) k) (l.drop i) = n - i := hw0.trans (by first | rw [win_end (by omega), Nat.add_zero] | rw [win_no (by omega) (by assumption), Nat.add_zero])
              have hnp := win_pos' (k := k) (l := l) (i := i) (by omega)
              rw [hw] at hnp
              have hfr := floorA_r ((l[i]'(by omega)).T) k
              have hM627 : stabML [16] [(kEq v_l), (kEq (.int .i64 (i : Int))), (kEq (.int .i64 (n : Int))), (kSl0 w0 sampE ((l.take n).drop i)), (kEq v_l), (kEq (.int .i64 (i : Int))), (kPt0 w0 [(.int .i64 ((l[i]'(by omega)).T)), (.int .i64 ((l[i]'(by omega)).V))]), (kPt0 w0 [(.int .i64 ((l[i]'(by omega)).T)), (.int .i64 ((l[i]'(by omega)).V))]), (kEq (.int .i64 ((l[i]'(by omega)).T))), (kEq (.int .i64 k)), (kEq (.int .i64 (floorA ((l[i]'(by omega)).T) k))), (kEq (.tuple #[(.agg #[(.int .i64 (((allA ((l.take n).drop i) (floorA ((l[i]'(by omega)).T) k)).1).From)), (.int .i64 (((allA ((l.take n).drop i) (floorA ((l[i]'(by omega)).T) k)).1).Count)), (.int .i64 (((allA ((l.take n).drop i) (floorA ((l[i]'(by omega)).T) k)).1).Sum)), (.int .i64 (((allA ((l.take n).drop i) (floorA ((l[i]'(by omega)).T) k)).1).Min)), (.int .i64 (((allA ((l.take n).drop i) (floorA ((l[i]'(by omega)).T) k)).1).Max)), (.int .i64 (((allA ((l.take n).drop i) (floorA ((l[i]'(by omega)).T) k)).1).First)), (.int .i64 (((allA ((l.take n).drop i) (floorA ((l[i]'(by omega)).T) k)).1).Last))]), (.int .i64 ((allA ((l.take n).drop i) (floorA ((l[i]'(by omega)).T) k)).2))])), (kEq (.tuple #[(.agg #[(.int .i64 (((allA ((l.take n).drop i) (floorA ((l[i]'(by omega)).T) k)).1).From)), (.int .i64 (((allA ((l.take n).drop i) (floorA ((l[i]'(by omega)).T) k)).1).Count)), (.int .i64 (((allA ((l.take n).drop i) (floorA ((l[i]'(by omega)).T) k)).1).Sum)), (.int .i64 (((allA ((l.take n).drop i) (floorA ((l[i]'(by omega)).T) k)).1).Min)), (.int .i64 (((allA ((l.take n).drop i) (floorA ((l[i]'(by omega)).T) k)).1).Max)), (.int .i64 (((allA ((l.take n).drop i) (floorA ((l[i]'(by omega)).T) k)).1).First)), (.int .i64 (((allA ((l.take n).drop i) (floorA ((l[i]'(by omega)).T) k)).1).Last))]), (.int .i64 ((allA ((l.take n).drop i) (floorA ((l[i]'(by omega)).T) k)).2))])), (kEq (.agg #[(.int .i64 (((allA ((l.take n).drop i) (floorA ((l[i]'(by omega)).T) k)).1).From)), (.int .i64 (((allA ((l.take n).drop i) (floorA ((l[i]'(by omega)).T) k)).1).Count)), (.int .i64 (((allA ((l.take n).drop i) (floorA ((l[i]'(by omega)).T) k)).1).Sum)), (.int .i64 (((allA ((l.take n).drop i) (floorA ((l[i]'(by omega)).T) k)).1).Min)), (.int .i64 (((allA ((l.take n).drop i) (floorA ((l[i]'(by omega)).T) k)).1).Max)), (.int .i64 (((allA ((l.take n).drop i) (floorA ((l[i]'(by omega)).T) k)).1).First)), (.int .i64 (((allA ((l.take n).drop i) (floorA ((l[i]'(by omega)).T) k)).1).Last))])), (kEq (.int .i64 ((allA ((l.take n).drop i) (floorA ((l[i]'(by omega)).T) k)).2))), (fun (D : Nat → Bool) (v : Value) (w : World) => ∃ g624 : Nat, v = .pointer (some ⟨g624, 0, none⟩) ∧ (D 16 = false → St w0 w [.blk g624 71 #[(.int .i64 0), (.int .i64 0), (.int .i64 0), (.int .i64 0), (.int .i64 0), (.int .i64 0), (.int .i64 0)], rowT 71 aggE vo out]) ∧ (D 16 = true → St w0 w [.blk g624 71 #[(.int .i64 (((allA ((l.take n).drop i) (floorA ((l[i]'(by omega)).T) k)).1).From)), (.int .i64 (((allA ((l.take n).drop i) (floorA ((l[i]'(by omega)).T) k)).1).Count)), (.int .i64 (((allA ((l.take n).drop i) (floorA ((l[i]'(by omega)).T) k)).1).Sum)), (.int .i64 (((allA ((l.take n).drop i) (floorA ((l[i]'(by omega)).T) k)).1).Min)), (.int .i64 (((allA ((l.take n).drop i) (floorA ((l[i]'(by omega)).T) k)).1).Max)), (.int .i64 (((allA ((l.take n).drop i) (floorA ((l[i]'(by omega)).T) k)).1).First)), (.int .i64 (((allA ((l.take n).drop i) (floorA ((l[i]'(by omega)).T) k)).1).Last))], rowT 71 aggE vo out])), kAny, (kEq (.int .i64 ((allA ((l.take n).drop i) (floorA ((l[i]'(by omega)).T) k)).2)))] := ⟨mEq, mEq, mEq, mSl0, mEq, mEq, mPt0, mPt0, mEq, mEq, mEq, mEq, mEq, mEq, mEq, (fun D D' v w w' hD hb ⟨g, h1, h2⟩ => ⟨g, h1, (fun x0 => (h2.1 ((hD 16 (by decide)).symm.trans x0)).ext hb), (fun x0 => (h2.2 ((hD 16 (by decide)).symm.trans x0)).ext hb)⟩), mAny, mEq, trivial⟩
              refine cE_regionK (fun (D : Nat → Bool) (w : World) => St w0 w [rowT 71 aggE vo out] ∧ (D 16 = false → St w0 w [rowT 71 aggE vo out]) ∧ (D 16 = true → St w0 w [rowT 71 aggE vo out])) [[(0, none)], [(7, none)], [(8, none)], [(51, some 0), (52, some 1), (53, some 2)], [(0, none)], [(7, none)], [(55, some 4), (56, some 5)], [(57, some 6)], [(58, some 7)], [(1, none)], [(59, some 8), (60, some 9)], [(54, some 3), (61, some 10)], [(62, some 11)], [(50, some 12)], [(50, some 12)], [], [(9, some 15), (63, some 13)], [(64, some 14)]] (RofK [(kEq v_l), (kEq (.int .i64 (i : Int))), (kEq (.int .i64 (n : Int))), (kSl0 w0 sampE ((l.take n).drop i)), (kEq v_l), (kEq (.int .i64 (i : Int))), (kPt0 w0 [(.int .i64 ((l[i]'(by omega)).T)), (.int .i64 ((l[i]'(by omega)).V))]), (kPt0 w0 [(.int .i64 ((l[i]'(by omega)).T)), (.int .i64 ((l[i]'(by omega)).V))]), (kEq (.int .i64 ((l[i]'(by omega)).T))), (kEq (.int .i64 k)), (kEq (.int .i64 (floorA ((l[i]'(by omega)).T) k))), (kEq (.tuple #[(.agg #[(.int .i64 (((allA ((l.take n).drop i) (floorA ((l[i]'(by omega)).T) k)).1).From)), (.int .i64 (((allA ((l.take n).drop i) (floorA ((l[i]'(by omega)).T) k)).1).Count)), (.int .i64 (((allA ((l.take n).drop i) (floorA ((l[i]'(by omega)).T) k)).1).Sum)), (.int .i64 (((allA ((l.take n).drop i) (floorA ((l[i]'(by omega)).T) k)).1).Min)), (.int .i64 (((allA ((l.take n).drop i) (floorA ((l[i]'(by omega)).T) k)).1).Max)), (.int .i64 (((allA ((l.take n).drop i) (floorA ((l[i]'(by omega)).T) k)).1).First)), (.int .i64 (((allA ((l.take n).drop i) (floorA ((l[i]'(by omega)).T) k)).1).Last))]), (.int .i64 ((allA ((l.take n).drop i) (floorA ((l[i]'(by omega)).T) k)).2))])), (kEq (.tuple #[(.agg #[(.int .i64 (((allA ((l.take n).drop i) (floorA ((l[i]'(by omega)).T) k)).1).From)), (.int .i64 (((allA ((l.take n).drop i) (floorA ((l[i]'(by omega)).T) k)).1).Count)), (.int .i64 (((allA ((l.take n).drop i) (floorA ((l[i]'(by omega)).T) k)).1).Sum)), (.int .i64 (((allA ((l.take n).drop i) (floorA ((l[i]'(by omega)).T) k)).1).Min)), (.int .i64 (((allA ((l.take n).drop i) (floorA ((l[i]'(by omega)).T) k)).1).Max)), (.int .i64 (((allA ((l.take n).drop i) (floorA ((l[i]'(by omega)).T) k)).1).First)), (.int .i64 (((allA ((l.take n).drop i) (floorA ((l[i]'(by omega)).T) k)).1).Last))]), (.int .i64 ((allA ((l.take n).drop i) (floorA ((l[i]'(by omega)).T) k)).2))])), (kEq (.agg #[(.int .i64 (((allA ((l.take n).drop i) (floorA ((l[i]'(by omega)).T) k)).1).From)), (.int .i64 (((allA ((l.take n).drop i) (floorA ((l[i]'(by omega)).T) k)).1).Count)), (.int .i64 (((allA ((l.take n).drop i) (floorA ((l[i]'(by omega)).T) k)).1).Sum)), (.int .i64 (((allA ((l.take n).drop i) (floorA ((l[i]'(by omega)).T) k)).1).Min)), (.int .i64 (((allA ((l.take n).drop i) (floorA ((l[i]'(by omega)).T) k)).1).Max)), (.int .i64 (((allA ((l.take n).drop i) (floorA ((l[i]'(by omega)).T) k)).1).First)), (.int .i64 (((allA ((l.take n).drop i) (floorA ((l[i]'(by omega)).T) k)).1).Last))])), (kEq (.int .i64 ((allA ((l.take n).drop i) (floorA ((l[i]'(by omega)).T) k)).2))), (fun (D : Nat → Bool) (v : Value) (w : World) => ∃ g624 : Nat, v = .pointer (some ⟨g624, 0, none⟩) ∧ (D 16 = false → St w0 w [.blk g624 71 #[(.int .i64 0), (.int .i64 0), (.int .i64 0), (.int .i64 0), (.int .i64 0), (.int .i64 0), (.int .i64 0)], rowT 71 aggE vo out]) ∧ (D 16 = true → St w0 w [.blk g624 71 #[(.int .i64 (((allA ((l.take n).drop i) (floorA ((l[i]'(by omega)).T) k)).1).From)), (.int .i64 (((allA ((l.take n).drop i) (floorA ((l[i]'(by omega)).T) k)).1).Count)), (.int .i64 (((allA ((l.take n).drop i) (floorA ((l[i]'(by omega)).T) k)).1).Sum)), (.int .i64 (((allA ((l.take n).drop i) (floorA ((l[i]'(by omega)).T) k)).1).Min)), (.int .i64 (((allA ((l.take n).drop i) (floorA ((l[i]'(by omega)).T) k)).1).Max)), (.int .i64 (((allA ((l.take n).drop i) (floorA ((l[i]'(by omega)).T) k)).1).First)), (.int .i64 (((allA ((l.take n).drop i) (floorA ((l[i]'(by omega)).T) k)).1).Last))], rowT 71 aggE vo out])), kAny, (kEq (.int .i64 ((allA ((l.take n).drop i) (floorA ((l[i]'(by omega)).T) k)).2)))]) (by kernel_rfl) rfl (by kernel_rfl) ⟨hst.drewW.sub (.cons_cons _ .slnil), (fun _ => hst.drewW), (fun h => absurd h Bool.false_ne_true)⟩ ⟨?_, ?_, ?_, ?_, ?_, ?_, ?_, ?_, ?_, ?_, ?_, ?_, ?_, ?_, ?_, ?_, ?_, ?_, trivial⟩ ?_
              · rintro D629 ρ630 w631 hD632 hE633 hC634 hJ635 hA636 ⟨f0, _⟩
                have hst := hJ635.2.1 (not_yet hD632 (fun hm => (hC634 16 0 hm (by kernel_rfl))))
                replace hst : St w0 w631 [rowT 71 aggE vo out] := hst
                exact go_plain (op_move v_l (f0.trans uw616_0) (kN0 (i := 0) hM627 (by decide) (by exact hJ635) (by exact rfl)))
              · rintro D637 ρ638 w639 hD640 hE641 hC642 hJ643 hA644 ⟨f7, _⟩
                have hst := hJ643.2.1 (not_yet hD640 (fun hm => (hC642 16 1 hm (by kernel_rfl))))
                replace hst : St w0 w639 [rowT 71 aggE vo out] := hst
                exact go_plain (op_move (.int .i64 (i : Int)) (f7.trans uw616_7) (kN0 (i := 1) hM627 (by decide) (by exact hJ643) (by exact rfl)))
              · rintro D645 ρ646 w647 hD648 hE649 hC650 hJ651 hA652 ⟨f8, _⟩
                have hst := hJ651.2.1 (not_yet hD648 (fun hm => (hC650 16 2 hm (by kernel_rfl))))
                replace hst : St w0 w647 [rowT 71 aggE vo out] := hst
                exact go_plain (op_move (.int .i64 (n : Int)) (f8.trans uw616_8) (kN0 (i := 2) hM627 (by decide) (by exact hJ651) (by exact rfl)))
              · rintro D653 ρ654 w655 hD656 hE657 hC658 hJ659 hA660 ⟨f51, f52, f53, _⟩
                have hst := hJ659.2.1 (not_yet hD656 (fun hm => (hC658 16 3 hm (by kernel_rfl))))
                replace hst : St w0 w655 [rowT 71 aggE vo out] := hst
                refine go_plain (op_slice_bothN i n (E := sampE) (xs := l) Try.underlying22 Try.sizeOf48 f51 h_l f52 f53 (by omega) (by omega) (by omega) (by omega) (fun v661 hs662 => ?_))
                exact (kN0 (i := 3) hM627 (by decide) (by exact hJ659) (by exact hs662))
              · rintro D663 ρ664 w665 hD666 hE667 hC668 hJ669 hA670 ⟨f0, _⟩
                have hst := hJ669.2.1 (not_yet hD666 (fun hm => (hC668 16 4 hm (by kernel_rfl))))
                replace hst : St w0 w665 [rowT 71 aggE vo out] := hst
                exact go_plain (op_move v_l (f0.trans uw616_0) (kN0 (i := 4) hM627 (by decide) (by exact hJ669) (by exact rfl)))
              · rintro D671 ρ672 w673 hD674 hE675 hC676 hJ677 hA678 ⟨f7, _⟩
                have hst := hJ677.2.1 (not_yet hD674 (fun hm => (hC676 16 5 hm (by kernel_rfl))))
                replace hst : St w0 w673 [rowT 71 aggE vo out] := hst
                exact go_plain (op_move (.int .i64 (i : Int)) (f7.trans uw616_7) (kN0 (i := 5) hM627 (by decide) (by exact hJ677) (by exact rfl)))
              · rintro D679 ρ680 w681 hD682 hE683 hC684 hJ685 hA686 ⟨f55, f56, _⟩
                have hst := hJ685.2.1 (not_yet hD682 (fun hm => (hC684 16 6 hm (by kernel_rfl))))
                replace hst : St w0 w681 [rowT 71 aggE vo out] := hst
                refine go_plain (op_indexAddrN (E := sampE) (xs := l) i Try.underlying22 Try.sizeOf48 f55 h_l f56 (by omega) (by omega) (fun a687 o688 p689 => ?_))
                exact (kN0 (i := 6) hM627 (by decide) (by exact hJ685) (by exact ⟨_, _, rfl, p689⟩))
              · rintro D690 ρ691 w692 hD693 hE694 hC695 hJ696 hA697 ⟨f57, _⟩
                have hst := hJ696.2.1 (not_yet hD693 (fun hm => (hC695 16 7 hm (by kernel_rfl))))
                replace hst : St w0 w692 [rowT 71 aggE vo out] := hst
                obtain ⟨a698, o699, e700, p701⟩ := f57
                exact go_plain (op_fieldAddr (s := 0) Try.underlying48 rfl rfl Try.sizeOf2 e700 (kN0 (i := 7) hM627 (by decide) (by exact hJ696) (by exact ⟨_, _, rfl, p701⟩)))
              · rintro D702 ρ703 w704 hD705 hE706 hC707 hJ708 hA709 ⟨f58, _⟩
                have hst := hJ708.2.1 (not_yet hD705 (fun hm => (hC707 16 8 hm (by kernel_rfl))))
                replace hst : St w0 w704 [rowT 71 aggE vo out] := hst
                obtain ⟨a710, o711, e712, p713⟩ := f58
                exact go_plain (op_load1 (u := (.int .i64 ((l[i]'(by omega)).T))) Try.isAgg2 e712 (p713.below hst.below) (kN0 (i := 8) hM627 (by decide) (by exact hJ708) (by exact rfl)))
              · rintro D714 ρ715 w716 hD717 hE718 hC719 hJ720 hA721 ⟨f1, _⟩
                have hst := hJ720.2.1 (not_yet hD717 (fun hm => (hC719 16 9 hm (by kernel_rfl))))
                replace hst : St w0 w716 [rowT 71 aggE vo out] := hst
                exact go_plain (op_move (.int .i64 k) (f1.trans uw616_1) (kN0 (i := 9) hM627 (by decide) (by exact hJ720) (by exact rfl)))
              · rintro D722 ρ723 w724 hD725 hE726 hC727 hJ728 hA729 ⟨f59, f60, _⟩
                have hst := hJ728.2.1 (not_yet hD725 (fun hm => (hC727 16 10 hm (by kernel_rfl))))
                replace hst : St w0 w724 [rowT 71 aggE vo out] := hst
                refine go_plain (op_call Try.call38 (evs_cons (v := (.int .i64 ((l[i]'(by omega)).T))) f59 (evs_cons (v := (.int .i64 k)) f60 evs_nil)) (c_rFloor (w0 := w724) (t := (l[i]'(by omega)).T) (k := k) (t0 := (hl _ (List.getElem_mem _)).1.1) (k0 := (by omega)) (t1 := (hl _ (List.getElem_mem _)).1.2) (k1 := (by omega))) ?_)
                rintro _ w730 ⟨rfl, hcall⟩
                refine ⟨_, rfl, ?_⟩
                exact kN (i := 10) hM627 (by decide) hcall.below (by exact ⟨(hJ728.1).ext hcall.below, (fun x0 => (hJ728.2.1 x0).ext hcall.below), (fun x0 => (hJ728.2.2 x0).ext hcall.below)⟩) (by exact rfl)
              · rintro D731 ρ732 w733 hD734 hE735 hC736 hJ737 hA738 ⟨f54, f61, _⟩
                have hst := hJ737.2.1 (not_yet hD734 (fun hm => (hC736 16 11 hm (by kernel_rfl))))
                replace hst : St w0 w733 [rowT 71 aggE vo out] := hst
                obtain ⟨v740, e741⟩ : ∃ x, ρ732 54 = x := ⟨_, rfl⟩
                have hs739 := f54
                replace hs739 : Sl w0 sampE v740 ((l.take n).drop i) := e741 ▸ hs739
                refine go_plain (op_call Try.call39 (evs_cons (v := v740) e741 (evs_cons (v := (.int .i64 (floorA ((l[i]'(by omega)).T) k))) f61 evs_nil)) (c_rAll (w0 := w733) (v_l := v740) (l := ((l.take n).drop i)) (h_l := (hs739.below hst.below)) (fr := (floorA ((l[i]'(by omega)).T) k)) (hl := (fun s h => hl s (List.mem_of_mem_take (List.mem_of_mem_drop h)))) (fr0 := (by omega)) (fr1 := (by omega)) (hn := (by simp; omega))) ?_)
                rintro _ w742 ⟨rfl, hcall⟩
                refine ⟨_, rfl, ?_⟩
                exact kN (i := 11) hM627 (by decide) hcall.below (by exact ⟨(hJ737.1).ext hcall.below, (fun x0 => (hJ737.2.1 x0).ext hcall.below), (fun x0 => (hJ737.2.2 x0).ext hcall.below)⟩) (by exact rfl)
              · rintro D743 ρ744 w745 hD746 hE747 hC748 hJ749 hA750 ⟨f62, _⟩
                have hst := hJ749.2.1 (not_yet hD746 (fun hm => (hC748 16 12 hm (by kernel_rfl))))
                replace hst : St w0 w745 [rowT 71 aggE vo out] := hst
                exact go_plain (op_move (.tuple #[(.agg #[(.int .i64 (((allA ((l.take n).drop i) (floorA ((l[i]'(by omega)).T) k)).1).From)), (.int .i64 (((allA ((l.take n).drop i) (floorA ((l[i]'(by omega)).T) k)).1).Count)), (.int .i64 (((allA ((l.take n).drop i) (floorA ((l[i]'(by omega)).T) k)).1).Sum)), (.int .i64 (((allA ((l.take n).drop i) (floorA ((l[i]'(by omega)).T) k)).1).Min)), (.int .i64 (((allA ((l.take n).drop i) (floorA ((l[i]'(by omega)).T) k)).1).Max)), (.int .i64 (((allA ((l.take n).drop i) (floorA ((l[i]'(by omega)).T) k)).1).First)), (.int .i64 (((allA ((l.take n).drop i) (floorA ((l[i]'(by omega)).T) k)).1).Last))]), (.int .i64 ((allA ((l.take n).drop i) (floorA ((l[i]'(by omega)).T) k)).2))]) f62 (kN0 (i := 12) hM627 (by decide) (by exact hJ749) (by exact rfl)))
              · rintro D751 ρ752 w753 hD754 hE755 hC756 hJ757 hA758 ⟨f50, _⟩
                have hst := hJ757.2.1 (not_yet hD754 (fun hm => (hC756 16 13 hm (by kernel_rfl))))
                replace hst : St w0 w753 [rowT 71 aggE vo out] := hst
                exact go_plain (op_extract (.agg #[(.int .i64 (((allA ((l.take n).drop i) (floorA ((l[i]'(by omega)).T) k)).1).From)), (.int .i64 (((allA ((l.take n).drop i) (floorA ((l[i]'(by omega)).T) k)).1).Count)), (.int .i64 (((allA ((l.take n).drop i) (floorA ((l[i]'(by omega)).T) k)).1).Sum)), (.int .i64 (((allA ((l.take n).drop i) (floorA ((l[i]'(by omega)).T) k)).1).Min)), (.int .i64 (((allA ((l.take n).drop i) (floorA ((l[i]'(by omega)).T) k)).1).Max)), (.int .i64 (((allA ((l.take n).drop i) (floorA ((l[i]'(by omega)).T) k)).1).First)), (.int .i64 (((allA ((l.take n).drop i) (floorA ((l[i]'(by omega)).T) k)).1).Last))]) f50 rfl (kN0 (i := 13) hM627 (by decide) (by exact hJ757) (by exact rfl)))
              · rintro D759 ρ760 w761 hD762 hE763 hC764 hJ765 hA766 ⟨f50, _⟩
                have hst := hJ765.1
                exact go_plain (op_extract (.int .i64 ((allA ((l.take n).drop i) (floorA ((l[i]'(by omega)).T) k)).2)) f50 rfl (kN0 (i := 14) hM627 (by decide) (by exact hJ765) (by exact rfl)))
              · rintro D767 ρ768 w769 hD770 hE771 hC772 hJ773 hA774 ⟨_⟩
                have hst := hJ773.2.1 (not_yet hD770 (fun hm => (hC772 16 15 hm (by kernel_rfl))))
                replace hst : St w0 w769 [rowT 71 aggE vo out] := hst
                have hst := St.start w769
                refine go_plain (op_alloc (cs := #[(.int .i64 0), (.int .i64 0), (.int .i64 0), (.int .i64 0), (.int .i64 0), (.int .i64 0), (.int .i64 0)]) hst Try.zeroValue71 rfl (fun g775 w776 hst _ => ?_))
                exact kN (i := 15) hM627 (by decide) hst.below (by exact ⟨(hJ773.1).ext hst.below, (fun x0 => (hJ773.2.1 x0).ext hst.below), (fun x0 => (hJ773.2.2 x0).ext hst.below)⟩) (by exact ⟨_, rfl, (fun y0 => (hJ773.2.1 y0).call hst), (fun y0 => absurd (show D767 16 = true from y0) (by rw [(not_yet hD770 (fun hm => (hC772 16 15 hm (by kernel_rfl))))]; decide))⟩)
              · rintro D777 ρ778 w779 hD780 hE781 hC782 hJ783 hA784 ⟨f9, f63, _⟩
                obtain ⟨g785, e786, hh787⟩ := hA784 15 9 (hE781 15 (by kernel_rfl)) rfl
                have hst : St w0 w779 [.blk g785 71 #[(.int .i64 0), (.int .i64 0), (.int .i64 0), (.int .i64 0), (.int .i64 0), (.int .i64 0), (.int .i64 0)], rowT 71 aggE vo out] := hh787.1 hD780
                refine go_plain (op_storeAll hst 0 rfl Try.sizeOf71 e786 f63 rfl rfl (by simp [Value.oneCell']) (fun w788 hst => ?_))
                replace hst : St w0 w788 [.blk g785 71 #[(.int .i64 (((allA ((l.take n).drop i) (floorA ((l[i]'(by omega)).T) k)).1).From)), (.int .i64 (((allA ((l.take n).drop i) (floorA ((l[i]'(by omega)).T) k)).1).Count)), (.int .i64 (((allA ((l.take n).drop i) (floorA ((l[i]'(by omega)).T) k)).1).Sum)), (.int .i64 (((allA ((l.take n).drop i) (floorA ((l[i]'(by omega)).T) k)).1).Min)), (.int .i64 (((allA ((l.take n).drop i) (floorA ((l[i]'(by omega)).T) k)).1).Max)), (.int .i64 (((allA ((l.take n).drop i) (floorA ((l[i]'(by omega)).T) k)).1).First)), (.int .i64 (((allA ((l.take n).drop i) (floorA ((l[i]'(by omega)).T) k)).1).Last))], rowT 71 aggE vo out] := hst
                have hI789 : stabIXs 16 [15] D777 0 [(kEq v_l), (kEq (.int .i64 (i : Int))), (kEq (.int .i64 (n : Int))), (kSl0 w0 sampE ((l.take n).drop i)), (kEq v_l), (kEq (.int .i64 (i : Int))), (kPt0 w0 [(.int .i64 ((l[i]'(by omega)).T)), (.int .i64 ((l[i]'(by omega)).V))]), (kPt0 w0 [(.int .i64 ((l[i]'(by omega)).T)), (.int .i64 ((l[i]'(by omega)).V))]), (kEq (.int .i64 ((l[i]'(by omega)).T))), (kEq (.int .i64 k)), (kEq (.int .i64 (floorA ((l[i]'(by omega)).T) k))), (kEq (.tuple #[(.agg #[(.int .i64 (((allA ((l.take n).drop i) (floorA ((l[i]'(by omega)).T) k)).1).From)), (.int .i64 (((allA ((l.take n).drop i) (floorA ((l[i]'(by omega)).T) k)).1).Count)), (.int .i64 (((allA ((l.take n).drop i) (floorA ((l[i]'(by omega)).T) k)).1).Sum)), (.int .i64 (((allA ((l.take n).drop i) (floorA ((l[i]'(by omega)).T) k)).1).Min)), (.int .i64 (((allA ((l.take n).drop i) (floorA ((l[i]'(by omega)).T) k)).1).Max)), (.int .i64 (((allA ((l.take n).drop i) (floorA ((l[i]'(by omega)).T) k)).1).First)), (.int .i64 (((allA ((l.take n).drop i) (floorA ((l[i]'(by omega)).T) k)).1).Last))]), (.int .i64 ((allA ((l.take n).drop i) (floorA ((l[i]'(by omega)).T) k)).2))])), (kEq (.tuple #[(.agg #[(.int .i64 (((allA ((l.take n).drop i) (floorA ((l[i]'(by omega)).T) k)).1).From)), (.int .i64 (((allA ((l.take n).drop i) (floorA ((l[i]'(by omega)).T) k)).1).Count)), (.int .i64 (((allA ((l.take n).drop i) (floorA ((l[i]'(by omega)).T) k)).1).Sum)), (.int .i64 (((allA ((l.take n).drop i) (floorA ((l[i]'(by omega)).T) k)).1).Min)), (.int .i64 (((allA ((l.take n).drop i) (floorA ((l[i]'(by omega)).T) k)).1).Max)), (.int .i64 (((allA ((l.take n).drop i) (floorA ((l[i]'(by omega)).T) k)).1).First)), (.int .i64 (((allA ((l.take n).drop i) (floorA ((l[i]'(by omega)).T) k)).1).Last))]), (.int .i64 ((allA ((l.take n).drop i) (floorA ((l[i]'(by omega)).T) k)).2))])), (kEq (.agg #[(.int .i64 (((allA ((l.take n).drop i) (floorA ((l[i]'(by omega)).T) k)).1).From)), (.int .i64 (((allA ((l.take n).drop i) (floorA ((l[i]'(by omega)).T) k)).1).Count)), (.int .i64 (((allA ((l.take n).drop i) (floorA ((l[i]'(by omega)).T) k)).1).Sum)), (.int .i64 (((allA ((l.take n).drop i) (floorA ((l[i]'(by omega)).T) k)).1).Min)), (.int .i64 (((allA ((l.take n).drop i) (floorA ((l[i]'(by omega)).T) k)).1).Max)), (.int .i64 (((allA ((l.take n).drop i) (floorA ((l[i]'(by omega)).T) k)).1).First)), (.int .i64 (((allA ((l.take n).drop i) (floorA ((l[i]'(by omega)).T) k)).1).Last))])), (kEq (.int .i64 ((allA ((l.take n).drop i) (floorA ((l[i]'(by omega)).T) k)).2))), (fun (D : Nat → Bool) (v : Value) (w : World) => ∃ g624 : Nat, v = .pointer (some ⟨g624, 0, none⟩) ∧ (D 16 = false → St w0 w [.blk g624 71 #[(.int .i64 0), (.int .i64 0), (.int .i64 0), (.int .i64 0), (.int .i64 0), (.int .i64 0), (.int .i64 0)], rowT 71 aggE vo out]) ∧ (D 16 = true → St w0 w [.blk g624 71 #[(.int .i64 (((allA ((l.take n).drop i) (floorA ((l[i]'(by omega)).T) k)).1).From)), (.int .i64 (((allA ((l.take n).drop i) (floorA ((l[i]'(by omega)).T) k)).1).Count)), (.int .i64 (((allA ((l.take n).drop i) (floorA ((l[i]'(by omega)).T) k)).1).Sum)), (.int .i64 (((allA ((l.take n).drop i) (floorA ((l[i]'(by omega)).T) k)).1).Min)), (.int .i64 (((allA ((l.take n).drop i) (floorA ((l[i]'(by omega)).T) k)).1).Max)), (.int .i64 (((allA ((l.take n).drop i) (floorA ((l[i]'(by omega)).T) k)).1).First)), (.int .i64 (((allA ((l.take n).drop i) (floorA ((l[i]'(by omega)).T) k)).1).Last))], rowT 71 aggE vo out])), kAny, (kEq (.int .i64 ((allA ((l.take n).drop i) (floorA ((l[i]'(by omega)).T) k)).2)))] := ⟨Or.inr (Or.inr (Or.inr iEq)), Or.inr (Or.inr (Or.inr iEq)), Or.inr (Or.inr (Or.inr iEq)), Or.inr (Or.inr (Or.inr iSl0)), Or.inr (Or.inr (Or.inr iEq)), Or.inr (Or.inr (Or.inr iEq)), Or.inr (Or.inr (Or.inr iPt0)), Or.inr (Or.inr (Or.inr iPt0)), Or.inr (Or.inr (Or.inr iEq)), Or.inr (Or.inr (Or.inr iEq)), Or.inr (Or.inr (Or.inr iEq)), Or.inr (Or.inr (Or.inr iEq)), Or.inr (Or.inr (Or.inr iEq)), Or.inr (Or.inr (Or.inr iEq)), Or.inr (Or.inr (Or.inr iEq)), Or.inr (Or.inl (by decide)), Or.inl rfl, Or.inr (Or.inr (Or.inl (not_yet hD780 (fun hm => (hC782 17 16 hm (by kernel_rfl)))))), trivial⟩
                refine ⟨by exact ⟨hst.sub (.cons _ (.cons_cons _ .slnil)), (fun y0 => absurd y0 (fun h => Bool.noConfusion h)), (fun y0 => hst.sub (.cons _ (.cons_cons _ .slnil)))⟩, by exact trivial, kX [15] hI789 ?_⟩
                intro j d hj hjd hDj h
                simp only [List.mem_cons, List.not_mem_nil, or_false] at hj
                subst hj
                obtain rfl : 9 = d := Option.some.inj hjd
                exact ⟨_, e786, (fun y0 => absurd y0 (fun h => Bool.noConfusion h)), (fun y0 => hst.sub (.cons_cons _ (.cons_cons _ .slnil)))⟩
              · rintro D790 ρ791 w792 hD793 hE794 hC795 hJ796 hA797 ⟨f64, _⟩
                have hst := hJ796.2.2 (hE794 16 (by kernel_rfl))
                replace hst : St w0 w792 [rowT 71 aggE vo out] := hst
                exact go_plain (op_assign (.int .i64 ((allA ((l.take n).drop i) (floorA ((l[i]'(by omega)).T) k)).2)) f64 (kN0 (i := 17) hM627 (by decide) (by exact hJ796) (by exact rfl)))
              · intro ρ798 w799 Dw799 hallw799 hJw799 hRw799 hkw799
                obtain ⟨g800, uw799_9, hhw799⟩ := hRw799 15 9 rfl
                have hst : St w0 w799 [.blk g800 71 #[(.int .i64 (((allA ((l.take n).drop i) (floorA ((l[i]'(by omega)).T) k)).1).From)), (.int .i64 (((allA ((l.take n).drop i) (floorA ((l[i]'(by omega)).T) k)).1).Count)), (.int .i64 (((allA ((l.take n).drop i) (floorA ((l[i]'(by omega)).T) k)).1).Sum)), (.int .i64 (((allA ((l.take n).drop i) (floorA ((l[i]'(by omega)).T) k)).1).Min)), (.int .i64 (((allA ((l.take n).drop i) (floorA ((l[i]'(by omega)).T) k)).1).Max)), (.int .i64 (((allA ((l.take n).drop i) (floorA ((l[i]'(by omega)).T) k)).1).First)), (.int .i64 (((allA ((l.take n).drop i) (floorA ((l[i]'(by omega)).T) k)).1).Last))], rowT 71 aggE vo out] := hhw799.2 (hallw799 16 (show 16 < 18 from by decide))
                have uw799_0 : ρ798 0 = v_l := (hkw799 0 rfl).trans uw616_0
                have uw799_1 : ρ798 1 = (.int .i64 k) := (hkw799 1 rfl).trans uw616_1
                have uw799_11 : ρ798 11 = (.int .i64 k) := (hkw799 11 rfl).trans uw616_11
                have uw799_12 : ρ798 12 = (.bool (decide (k < 1))) := (hkw799 12 rfl).trans uw616_12
                have uw799_13 : ρ798 13 = (.bool (decide (k < 1))) := (hkw799 13 rfl).trans uw616_13
                have uw799_14 : ρ798 14 = (.int .i64 k) := (hkw799 14 rfl).trans uw616_14
                have uw799_15 : ρ798 15 = (.bool (decide (3 < k))) := (hkw799 15 rfl).trans uw616_15
                have uw799_16 : ρ798 16 = (.bool (decide (3 < k))) := (hkw799 16 rfl).trans uw616_16
                have uw799_17 : ρ798 17 = (.bool (decide (3 < k))) := (hkw799 17 rfl).trans uw616_17
                have uw799_18 : ρ798 18 = v_l := (hkw799 18 rfl).trans uw616_18
                have uw799_19 : ρ798 19 = (.bool (risingA l)) := (hkw799 19 rfl).trans uw616_19
                have uw799_20 : ρ798 20 = (.bool (!(risingA l))) := (hkw799 20 rfl).trans uw616_20
                have uw799_21 : ρ798 21 = (.bool (!(risingA l))) := (hkw799 21 rfl).trans uw616_21
                have uw799_7 : ρ798 7 = (.int .i64 (i : Int)) := (hkw799 7 rfl).trans uw616_7
                have uw799_6 : ρ798 6 = vo := (hkw799 6 rfl).trans uw616_6
                have uw799_22 : ρ798 22 = (.int .i64 (i : Int)) := (hkw799 22 rfl).trans uw616_22
                have uw799_23 : ρ798 23 = v_l := (hkw799 23 rfl).trans uw616_23
                have uw799_24 : ρ798 24 = (.int .i64 (l.length : Int)) := (hkw799 24 rfl).trans uw616_24
                have uw799_25 : ρ798 25 = (.bool (decide ((i : Int) < (l.length : Int)))) := (hkw799 25 rfl).trans uw616_25
                have uw799_26 : ρ798 26 = (.int .i64 (i : Int)) := (hkw799 26 rfl).trans uw616_26
                have uw799_8 : ρ798 8 = (.int .i64 (n : Int)) := (hkw799 8 rfl).trans uw616_8
                have uw799_47 : ρ798 47 = (.bool false) := (hkw799 47 rfl).trans uw616_47
                have uw799_10 : ρ798 10 = (.int .i64 ((allA ((l.take n).drop i) (floorA ((l[i]'(by omega)).T) k)).2)) := hRw799 17 10 rfl
                refine then_n ?_
                refine cE_seq ?_
                refine cE_seq ?_
                refine cE_region rfl ?_
                refine s_cons (op_move (.int .i64 ((allA ((l.take n).drop i) (floorA ((l[i]'(by omega)).T) k)).2)) uw799_10 ?_)
                refine s_cons (op_neq (k := .i64) (a := (allA ((l.take n).drop i) (floorA ((l[i]'(by omega)).T) k)).2) (b := 0) rfl rfl ?_)
                refine s_nil ?_
                refine then_n ?_
                rcases Bool.eq_false_or_eq_true (decide (((allA ((l.take n).drop i) (floorA ((l[i]'(by omega)).T) k)).2) = 0)) with b801 | b801
                · have c802 : ((allA ((l.take n).drop i) (floorA ((l[i]'(by omega)).T) k)).2) = 0 := of_decide_eq_true b801
                  refine cE_cond false (congrArg Value.bool (congrArg (! ·) b801)) (fun h => by cases h) (fun _ => ?_)
                  refine cE_skip ?_
                  refine then_n ?_
                  refine cE_seq ?_
                  refine cE_region rfl ?_
                  refine s_cons (op_move vo uw799_6 ?_)
                  refine s_cons (op_loadN (cs := [(.int .i64 (((allA ((l.take n).drop i) (floorA ((l[i]'(by omega)).T) k)).1).From)), (.int .i64 (((allA ((l.take n).drop i) (floorA ((l[i]'(by omega)).T) k)).1).Count)), (.int .i64 (((allA ((l.take n).drop i) (floorA ((l[i]'(by omega)).T) k)).1).Sum)), (.int .i64 (((allA ((l.take n).drop i) (floorA ((l[i]'(by omega)).T) k)).1).Min)), (.int .i64 (((allA ((l.take n).drop i) (floorA ((l[i]'(by omega)).T) k)).1).Max)), (.int .i64 (((allA ((l.take n).drop i) (floorA ((l[i]'(by omega)).T) k)).1).First)), (.int .i64 (((allA ((l.take n).drop i) (floorA ((l[i]'(by omega)).T) k)).1).Last))]) Try.isAgg71 Try.sizeOf71 uw799_9 (Pt.of (hst.cell 0 rfl) rfl) rfl ?_)
                  refine s_cons (op_buildSlice (E := aggE) [((allA ((l.take n).drop i) (floorA ((l[i]'(by omega)).T) k)).1)] hst Try.underlying23 Try.sizeOf71 Try.zeroValue71 (evp_cons (v := (.agg #[(.int .i64 (((allA ((l.take n).drop i) (floorA ((l[i]'(by omega)).T) k)).1).From)), (.int .i64 (((allA ((l.take n).drop i) (floorA ((l[i]'(by omega)).T) k)).1).Count)), (.int .i64 (((allA ((l.take n).drop i) (floorA ((l[i]'(by omega)).T) k)).1).Sum)), (.int .i64 (((allA ((l.take n).drop i) (floorA ((l[i]'(by omega)).T) k)).1).Min)), (.int .i64 (((allA ((l.take n).drop i) (floorA ((l[i]'(by omega)).T) k)).1).Max)), (.int .i64 (((allA ((l.take n).drop i) (floorA ((l[i]'(by omega)).T) k)).1).First)), (.int .i64 (((allA ((l.take n).drop i) (floorA ((l[i]'(by omega)).T) k)).1).Last))])) rfl evp_nil) (parts_cons rfl parts_nil) rfl (by decide) (fun v803 w804 hst => ?_))
                  replace hst : St w0 w804 [rowT 71 aggE v803 ([((allA ((l.take n).drop i) (floorA ((l[i]'(by omega)).T) k)).1)]), .blk g800 71 #[(.int .i64 (((allA ((l.take n).drop i) (floorA ((l[i]'(by omega)).T) k)).1).From)), (.int .i64 (((allA ((l.take n).drop i) (floorA ((l[i]'(by omega)).T) k)).1).Count)), (.int .i64 (((allA ((l.take n).drop i) (floorA ((l[i]'(by omega)).T) k)).1).Sum)), (.int .i64 (((allA ((l.take n).drop i) (floorA ((l[i]'(by omega)).T) k)).1).Min)), (.int .i64 (((allA ((l.take n).drop i) (floorA ((l[i]'(by omega)).T) k)).1).Max)), (.int .i64 (((allA ((l.take n).drop i) (floorA ((l[i]'(by omega)).T) k)).1).First)), (.int .i64 (((allA ((l.take n).drop i) (floorA ((l[i]'(by omega)).T) k)).1).Last))], rowT 71 aggE vo out] := hst
                  refine s_cons (op_append (E := aggE) (xs := out) (ys := [((allA ((l.take n).drop i) (floorA ((l[i]'(by omega)).T) k)).1)]) (z := (.agg #[(.int .i64 0), (.int .i64 0), (.int .i64 0), (.int .i64 0), (.int .i64 0), (.int .i64 0), (.int .i64 0)])) (bytes := 56) hst 2 rfl Try.underlying23 (by kernel_rfl) rfl rfl rfl (hst.sl 0 rfl) (by first | omega | (simp; omega) | (simp; done)) (by first | omega | (simp; omega) | (simp; done)) (fun v805 w806 hst => ?_))
                  replace hst : St w0 w806 [rowT 71 aggE v803 ([((allA ((l.take n).drop i) (floorA ((l[i]'(by omega)).T) k)).1)]), .blk g800 71 #[(.int .i64 (((allA ((l.take n).drop i) (floorA ((l[i]'(by omega)).T) k)).1).From)), (.int .i64 (((allA ((l.take n).drop i) (floorA ((l[i]'(by omega)).T) k)).1).Count)), (.int .i64 (((allA ((l.take n).drop i) (floorA ((l[i]'(by omega)).T) k)).1).Sum)), (.int .i64 (((allA ((l.take n).drop i) (floorA ((l[i]'(by omega)).T) k)).1).Min)), (.int .i64 (((allA ((l.take n).drop i) (floorA ((l[i]'(by omega)).T) k)).1).Max)), (.int .i64 (((allA ((l.take n).drop i) (floorA ((l[i]'(by omega)).T) k)).1).First)), (.int .i64 (((allA ((l.take n).drop i) (floorA ((l[i]'(by omega)).T) k)).1).Last))], rowT 71 aggE v805 (out ++ ([((allA ((l.take n).drop i) (floorA ((l[i]'(by omega)).T) k)).1)]))] := hst
                  refine s_cons (op_assign v805 rfl ?_)
                  refine s_nil ?_
                  refine then_n ?_
                  refine cE_region rfl ?_
                  refine s_cons (op_move (.int .i64 (n : Int)) uw799_8 ?_)
                  refine s_cons (op_assign (.int .i64 (n : Int)) rfl ?_)
                  refine s_nil ?_
                  refine block_n (then_n ?_)
                  exact ⟨_, ⟨v805, (out ++ ([((allA ((l.take n).drop i) (floorA ((l[i]'(by omega)).T) k)).1)])), (f - 1), n, rfl, uw799_0, uw799_1, uw799_11, uw799_12, uw799_13, uw799_14, uw799_15, uw799_16, uw799_17, uw799_18, uw799_19, uw799_20, uw799_21, rfl, rfl, (hst.sub (.cons _ (.cons _ (.cons_cons _ .slnil)))), (by omega), (by first | omega | (simp; omega) | (simp; done)), (by first | omega | (simp; omega) | (simp; done)), (by first | exact hI.trans (rrw_go (by omega) hf hw (by assumption) (by omega)) | (unfold rawA; rw [if_pos ⟨hri, hco⟩, List.drop_zero]))⟩, (by simp only [id]; omega)⟩
                · have c807 : ¬ (((allA ((l.take n).drop i) (floorA ((l[i]'(by omega)).T) k)).2) = 0) := of_decide_eq_false b801
                  refine cE_cond true (congrArg Value.bool (congrArg (! ·) b801)) (fun _ => ?_) (fun h => by cases h)
                  refine cE_seq ?_
                  refine cE_region rfl ?_
                  refine s_cons (op_move (.int .i64 ((allA ((l.take n).drop i) (floorA ((l[i]'(by omega)).T) k)).2)) uw799_10 ?_)
                  refine s_cons (op_assign (.slice none 0 0) rfl ?_)
                  refine s_cons (op_assign (.int .i64 ((allA ((l.take n).drop i) (floorA ((l[i]'(by omega)).T) k)).2)) rfl ?_)
                  refine s_nil ?_
                  refine then_n ?_
                  refine cE_ret ?_
                  refine then_r (block_r (then_r (block_r (then_r ?_))))
                  refine post_r _ (res2 (v := (.slice none 0 0)) rfl (x := (.int .i64 ((allA ((l.take n).drop i) (floorA ((l[i]'(by omega)).T) k)).2))) rfl) ?_
                  replace hst : St w0 w799 [rowT 71 aggE (.slice none 0 0) ([]), .blk g800 71 #[(.int .i64 (((allA ((l.take n).drop i) (floorA ((l[i]'(by omega)).T) k)).1).From)), (.int .i64 (((allA ((l.take n).drop i) (floorA ((l[i]'(by omega)).T) k)).1).Count)), (.int .i64 (((allA ((l.take n).drop i) (floorA ((l[i]'(by omega)).T) k)).1).Sum)), (.int .i64 (((allA ((l.take n).drop i) (floorA ((l[i]'(by omega)).T) k)).1).Min)), (.int .i64 (((allA ((l.take n).drop i) (floorA ((l[i]'(by omega)).T) k)).1).Max)), (.int .i64 (((allA ((l.take n).drop i) (floorA ((l[i]'(by omega)).T) k)).1).First)), (.int .i64 (((allA ((l.take n).drop i) (floorA ((l[i]'(by omega)).T) k)).1).Last))], rowT 71 aggE vo out] := hst.nilRow 71 aggE
                  have e808 : [] = (rawA l k).1 := by first | exact (congrArg Prod.fst (raw_none (Or.inl (by assumption)))).symm | exact (congrArg Prod.snd (raw_none (Or.inl (by assumption)))).symm | exact (congrArg Prod.fst (raw_none (Or.inr (coarse_no (by omega))))).symm | exact (congrArg Prod.snd (raw_none (Or.inr (coarse_no (by omega))))).symm | exact (congrArg Prod.fst (hI.trans (rrw_stop (by omega) hf hw (by assumption)))).symm | exact (congrArg Prod.snd (hI.trans (rrw_stop (by omega) hf hw (by assumption)))).symm | exact (congrArg Prod.fst (hI.trans (rrw_end (by omega)))).symm | exact (congrArg Prod.snd (hI.trans (rrw_end (by omega)))).symm
                  replace hst : St w0 w799 [rowT 71 aggE (.slice none 0 0) ((rawA l k).1), .blk g800 71 #[(.int .i64 (((allA ((l.take n).drop i) (floorA ((l[i]'(by omega)).T) k)).1).From)), (.int .i64 (((allA ((l.take n).drop i) (floorA ((l[i]'(by omega)).T) k)).1).Count)), (.int .i64 (((allA ((l.take n).drop i) (floorA ((l[i]'(by omega)).T) k)).1).Sum)), (.int .i64 (((allA ((l.take n).drop i) (floorA ((l[i]'(by omega)).T) k)).1).Min)), (.int .i64 (((allA ((l.take n).drop i) (floorA ((l[i]'(by omega)).T) k)).1).Max)), (.int .i64 (((allA ((l.take n).drop i) (floorA ((l[i]'(by omega)).T) k)).1).First)), (.int .i64 (((allA ((l.take n).drop i) (floorA ((l[i]'(by omega)).T) k)).1).Last))], rowT 71 aggE vo out] := by rw [congrArg (fun l => rowT 71 aggE (.slice none 0 0) l) e808] at hst; exact hst
                  exact ⟨(.slice none 0 0), (retv2 rfl (congrArg (Value.int .i64) (show (allA ((l.take n).drop i) (floorA ((l[i]'(by omega)).T) k)).2 = (rawA l k).2 from by first | exact (congrArg Prod.fst (raw_none (Or.inl (by assumption)))).symm | exact (congrArg Prod.snd (raw_none (Or.inl (by assumption)))).symm | exact (congrArg Prod.fst (raw_none (Or.inr (coarse_no (by omega))))).symm | exact (congrArg Prod.snd (raw_none (Or.inr (coarse_no (by omega))))).symm | exact (congrArg Prod.fst (hI.trans (rrw_stop (by omega) hf hw (by assumption)))).symm | exact (congrArg Prod.snd (hI.trans (rrw_stop (by omega) hf hw (by assumption)))).symm | exact (congrArg Prod.fst (hI.trans (rrw_end (by omega)))).symm | exact (congrArg Prod.snd (hI.trans (rrw_end (by omega)))).symm))), hst.sub (.cons_cons _ (.cons _ (.cons _ .slnil)))⟩
        · have c809 : ¬ ((i : Int) < (l.length : Int)) := of_decide_eq_false b251
          refine cE_cond false (congrArg Value.bool b251) (fun h => by cases h) (fun _ => ?_)
          refine cE_exit ?_
          refine then_x (then_x (block_hit (then_n ?_)))
          refine cE_seq ?_
          refine cE_region rfl ?_
          refine s_cons (op_move vo q247_6 ?_)
          refine s_cons (op_assign vo rfl ?_)
          refine s_cons (op_assign (.int .i64 0) rfl ?_)
          refine s_nil ?_
          refine then_n ?_
          refine cE_ret ?_
          refine post_r _ (res2 (v := vo) rfl (x := (.int .i64 0)) rfl) ?_
          have e810 : out = (rawA l k).1 := by first | exact (congrArg Prod.fst (raw_none (Or.inl (by assumption)))).symm | exact (congrArg Prod.snd (raw_none (Or.inl (by assumption)))).symm | exact (congrArg Prod.fst (raw_none (Or.inr (coarse_no (by omega))))).symm | exact (congrArg Prod.snd (raw_none (Or.inr (coarse_no (by omega))))).symm | exact (congrArg Prod.fst (hI.trans (rrw_stop (by omega) hf hw (by assumption)))).symm | exact (congrArg Prod.snd (hI.trans (rrw_stop (by omega) hf hw (by assumption)))).symm | exact (congrArg Prod.fst (hI.trans (rrw_end (by omega)))).symm | exact (congrArg Prod.snd (hI.trans (rrw_end (by omega)))).symm
          replace hst : St w0 w250 [rowT 71 aggE vo ((rawA l k).1)] := by rw [congrArg (fun l => rowT 71 aggE vo l) e810] at hst; exact hst
          exact ⟨vo, (retv2 rfl (congrArg (Value.int .i64) (show 0 = (rawA l k).2 from by first | exact (congrArg Prod.fst (raw_none (Or.inl (by assumption)))).symm | exact (congrArg Prod.snd (raw_none (Or.inl (by assumption)))).symm | exact (congrArg Prod.fst (raw_none (Or.inr (coarse_no (by omega))))).symm | exact (congrArg Prod.snd (raw_none (Or.inr (coarse_no (by omega))))).symm | exact (congrArg Prod.fst (hI.trans (rrw_stop (by omega) hf hw (by assumption)))).symm | exact (congrArg Prod.snd (hI.trans (rrw_stop (by omega) hf hw (by assumption)))).symm | exact (congrArg Prod.fst (hI.trans (rrw_end (by omega)))).symm | exact (congrArg Prod.snd (hI.trans (rrw_end (by omega)))).symm))), hst.sub (.cons_cons _ .slnil)⟩
      · refine cE_cond true (congrArg Value.bool (congrArg (! ·) b246)) (fun _ => ?_) (fun h => by cases h)
        refine cE_seq ?_
        refine cE_region rfl ?_
        refine s_cons (op_assign (.slice none 0 0) rfl ?_)
        refine s_cons (op_assign (.int .i64 1) rfl ?_)
        refine s_nil ?_
        refine then_n ?_
        refine cE_ret ?_
        refine then_r ?_
        refine post_r _ (res2 (v := (.slice none 0 0)) rfl (x := (.int .i64 1)) rfl) ?_
        replace hst : St w0 w245 [rowT 71 aggE (.slice none 0 0) ([])] := hst.nilRow 71 aggE
        have e811 : [] = (rawA l k).1 := by first | exact (congrArg Prod.fst (raw_none (Or.inl (by assumption)))).symm | exact (congrArg Prod.snd (raw_none (Or.inl (by assumption)))).symm | exact (congrArg Prod.fst (raw_none (Or.inr (coarse_no (by omega))))).symm | exact (congrArg Prod.snd (raw_none (Or.inr (coarse_no (by omega))))).symm | exact (congrArg Prod.fst (hI.trans (rrw_stop (by omega) hf hw (by assumption)))).symm | exact (congrArg Prod.snd (hI.trans (rrw_stop (by omega) hf hw (by assumption)))).symm | exact (congrArg Prod.fst (hI.trans (rrw_end (by omega)))).symm | exact (congrArg Prod.snd (hI.trans (rrw_end (by omega)))).symm
        replace hst : St w0 w245 [rowT 71 aggE (.slice none 0 0) ((rawA l k).1)] := by rw [congrArg (fun l => rowT 71 aggE (.slice none 0 0) l) e811] at hst; exact hst
        exact ⟨(.slice none 0 0), (retv2 rfl (congrArg (Value.int .i64) (show 1 = (rawA l k).2 from by first | exact (congrArg Prod.fst (raw_none (Or.inl (by assumption)))).symm | exact (congrArg Prod.snd (raw_none (Or.inl (by assumption)))).symm | exact (congrArg Prod.fst (raw_none (Or.inr (coarse_no (by omega))))).symm | exact (congrArg Prod.snd (raw_none (Or.inr (coarse_no (by omega))))).symm | exact (congrArg Prod.fst (hI.trans (rrw_stop (by omega) hf hw (by assumption)))).symm | exact (congrArg Prod.snd (hI.trans (rrw_stop (by omega) hf hw (by assumption)))).symm | exact (congrArg Prod.fst (hI.trans (rrw_end (by omega)))).symm | exact (congrArg Prod.snd (hI.trans (rrw_end (by omega)))).symm))), hst.sub (.cons_cons _ .slnil)⟩

theorem c_Rise (w0 : World) (v_steps : Value) (steps : List Int) (h_steps : Sl w0 (intE .i64) v_steps steps) (v_values : Value) (values : List Int) (h_values : Sl w0 (intE .i64) v_values values) (most : Int) (m0 : 0 ≤ most) (m1 : most ≤ 1000) (hv : ∀ v ∈ values, i64R v) (hs : ∀ v ∈ steps, i64R v) :
    Calls Try.prog 19 #[v_steps, v_values, (.int .i64 most)] w0 fun e w' => ∃ (r : Value), e = .returned r ∧ St w0 w' [rowT 48 sampE r (riseL steps values (riseN steps most))] := by
  refine calls_E (n := 48) (ts := [6]) Try.func19 rfl rfl rfl (by simp) ?_
  have hst := St.start w0
  refine cE_seq ?_
  refine cE_region rfl ?_
  refine s_cons (op_assign (.slice none 0 0) rfl ?_)
  refine s_nil ?_
  refine then_n ?_
  refine cE_seq ?_
  refine cE_region rfl ?_
  refine s_cons (op_assign (.slice none 0 0) rfl ?_)
  refine s_nil ?_
  refine then_n ?_
  refine cE_seq ?_
  refine cE_region rfl ?_
  refine s_cons (op_assign (.int .i64 0) rfl ?_)
  refine s_nil ?_
  refine then_n ?_
  refine cE_seq ?_
  refine cE_seq ?_
  refine cE_region rfl ?_
  refine s_cons (op_assign (.int .i64 0) rfl ?_)
  refine s_nil ?_
  refine then_n ?_
  refine cE_block ?_
  replace hst : St w0 w0 [rowT 48 sampE (.slice none 0 0) ([])] := hst.nilRow 48 sampE
  refine cE_loop (fun (m : Nat) (ρ : Env) (w : World) => ∃ (vo : Value) (i : Nat), m = steps.length - i ∧ ρ 0 = v_steps ∧ ρ 1 = v_values ∧ ρ 2 = (.int .i64 most) ∧ ρ 6 = (.slice none 0 0) ∧ ρ 9 = (.int .i64 (i : Int)) ∧ ρ 8 = (.int .i64 (tAt steps i)) ∧ ρ 7 = vo ∧ St w0 w [rowT 48 sampE vo (riseL steps values i)] ∧ (i ≤ steps.length) ∧ (i ≤ most.toNat)) id _ ⟨(.slice none 0 0), 0, rfl, rfl, rfl, rfl, rfl, (congrArg (Value.int .i64) (show 0 = _ from by omega)), (congrArg (Value.int .i64) (show 0 = _ from by first | rfl | (rw [tAt_succ (steps := steps) (i := i) (by omega)]; omega))), rfl, (by have h := hst; first | exact h | (refine (?_ : St _ _ _); simpa using h)), (by omega), (by omega)⟩ ?_
  rintro m813 ρ814 w815 ⟨vo, i, hm813, q812_0, q812_1, q812_2, q812_6, q812_9, q812_8, q812_7, hst, hi, him⟩
  have ht := tAt_r (steps := steps) (i := i) hi
  have hlen := h_steps.len
  refine cE_seq ?_
  refine cE_seq ?_
  refine cE_region rfl ?_
  refine s_cons (op_move (.int .i64 (i : Int)) q812_9 ?_)
  refine s_cons (op_move v_steps q812_0 ?_)
  refine s_cons (op_len (E := (intE .i64)) (xs := steps) Try.underlying41 rfl h_steps ?_)
  refine s_cons (op_lss (k := .i64) (a := (i : Int)) (b := (steps.length : Int)) rfl rfl ?_)
  refine s_cons (op_move (.bool (decide ((i : Int) < (steps.length : Int)))) rfl ?_)
  rcases Bool.eq_false_or_eq_true (decide ((i : Int) < (steps.length : Int))) with b816 | b816
  · have c817 : (i : Int) < (steps.length : Int) := of_decide_eq_true b816
    refine s_yes 15 rfl (congrArg Value.bool b816) (op_move (.int .i64 (i : Int)) q812_9 ?_)
    refine s_yes 15 rfl (congrArg Value.bool b816) (op_move (.int .i64 most) q812_2 ?_)
    refine s_yes 15 rfl (congrArg Value.bool b816) (op_lss (k := .i64) (a := (i : Int)) (b := most) rfl rfl ?_)
    refine s_cons (op_pick_t (.bool (decide ((i : Int) < most))) (congrArg Value.bool b816) rfl ?_)
    refine s_nil ?_
    refine then_n ?_
    rcases Bool.eq_false_or_eq_true (decide ((i : Int) < most)) with b818 | b818
    · have c819 : (i : Int) < most := of_decide_eq_true b818
      refine cE_cond true (congrArg Value.bool b818) (fun _ => ?_) (fun h => by cases h)
      refine cE_skip ?_
      refine then_n ?_
      refine cE_seq ?_
      refine cE_block ?_
      refine cE_seq ?_
      refine cE_region rfl ?_
      refine s_cons (op_move (.int .i64 (tAt steps i)) q812_8 ?_)
      refine s_cons (op_add (k := .i64) (a := (tAt steps i)) (b := 1) ((tAt steps i) + 1) rfl rfl (xi64 (by omega) (by omega)) ?_)
      refine s_cons (op_move v_steps q812_0 ?_)
      refine s_cons (op_move (.int .i64 (i : Int)) q812_9 ?_)
      refine s_cons (op_indexAddrN (E := (intE .i64)) (xs := steps) i Try.underlying41 Try.sizeOf3 rfl h_steps rfl (by omega) (by omega) (fun a820 o821 p822 => ?_))
      have hrs := hs (steps[i]'(by omega)) (List.getElem_mem _)
      refine s_cons (op_load1 (u := (.int .i64 (steps[i]'(by omega)))) Try.isAgg3 rfl (p822.below hst.below) ?_)
      refine s_cons (op_conv (k := .i64) (a := (steps[i]'(by omega))) ((steps[i]'(by omega)) % 18446744073709551616) Try.underlying44 (by rw [Try.underlying3]; rfl) rfl (IntKind.wrap_u64 _) ?_)
      refine s_cons (op_rem (k := .u64) (a := ((steps[i]'(by omega)) % 18446744073709551616)) (b := 40) (((steps[i]'(by omega)) % 18446744073709551616) % 40) rfl rfl (by omega) (tmod_nn (by omega)) ?_)
      refine s_cons (op_conv (k := .u64) (a := (((steps[i]'(by omega)) % 18446744073709551616) % 40)) (((steps[i]'(by omega)) % 18446744073709551616) % 40) Try.underlying2 (by rw [Try.underlying44]; rfl) rfl (xi64 (by omega) (by omega)) ?_)
      refine s_cons (op_add (k := .i64) (a := ((tAt steps i) + 1)) (b := (((steps[i]'(by omega)) % 18446744073709551616) % 40)) (((tAt steps i) + 1) + (((steps[i]'(by omega)) % 18446744073709551616) % 40)) rfl rfl (xi64 (by omega) (by omega)) ?_)
      refine s_cons (op_assign (.int .i64 (((tAt steps i) + 1) + (((steps[i]'(by omega)) % 18446744073709551616) % 40))) rfl ?_)
      refine s_nil ?_
      refine then_n ?_
      refine cE_seq ?_
      refine cE_region rfl ?_
      refine s_cons (op_move (.int .i64 (i : Int)) q812_9 ?_)
      refine s_cons (op_assign (.int .i64 (i : Int)) rfl ?_)
      refine s_nil ?_
      refine then_n ?_
      refine cE_seq ?_
      refine cE_seq ?_
      refine cE_region rfl ?_
      refine s_cons (op_move (.int .i64 (i : Int)) q812_9 ?_)
      refine s_cons (op_move v_values q812_1 ?_)
      refine s_cons (op_len (E := (intE .i64)) (xs := values) Try.underlying42 rfl h_values ?_)
      refine s_cons (op_lss (k := .i64) (a := (i : Int)) (b := (values.length : Int)) rfl rfl ?_)
      refine s_nil ?_
      refine then_n ?_
      rcases Bool.eq_false_or_eq_true (decide ((i : Int) < (values.length : Int))) with b823 | b823
      · have c824 : (i : Int) < (values.length : Int) := of_decide_eq_true b823
        refine cE_cond true (congrArg Value.bool b823) (fun _ => ?_) (fun h => by cases h)
        refine cE_region rfl ?_
        refine s_cons (op_move v_values q812_1 ?_)
        refine s_cons (op_move (.int .i64 (i : Int)) q812_9 ?_)
        refine s_cons (op_indexAddrN (E := (intE .i64)) (xs := values) i Try.underlying42 Try.sizeOf2 rfl h_values rfl (by omega) (by omega) (fun a825 o826 p827 => ?_))
        have hrv := hv (values[i]'(by omega)) (List.getElem_mem _)
        refine s_cons (op_load1 (u := (.int .i64 (values[i]'(by omega)))) Try.isAgg2 rfl (p827.below hst.below) ?_)
        refine s_cons (op_assign (.int .i64 (values[i]'(by omega))) rfl ?_)
        refine s_nil ?_
        refine then_n ?_
        refine cE_region rfl ?_
        refine s_cons (op_move vo q812_7 ?_)
        refine s_cons (op_move (.int .i64 (((tAt steps i) + 1) + (((steps[i]'(by omega)) % 18446744073709551616) % 40))) rfl ?_)
        refine s_cons (op_move (.int .i64 (values[i]'(by omega))) rfl ?_)
        refine s_cons (op_build (r := (.agg #[(.int .i64 (((tAt steps i) + 1) + (((steps[i]'(by omega)) % 18446744073709551616) % 40))), (.int .i64 (values[i]'(by omega)))])) (evp_cons (v := (.int .i64 (((tAt steps i) + 1) + (((steps[i]'(by omega)) % 18446744073709551616) % 40)))) rfl (evp_cons (v := (.int .i64 (values[i]'(by omega)))) rfl evp_nil)) (by simp [Instr.build, Instr.fill, Value.cells, Try.runUnderlying48, Try.zeroValue48]) ?_)
        refine s_cons (op_buildSlice (E := sampE) [(⟨(((tAt steps i) + 1) + (((steps[i]'(by omega)) % 18446744073709551616) % 40)), (values[i]'(by omega))⟩ : Sample)] hst Try.underlying22 Try.sizeOf48 Try.zeroValue48 (evp_cons (v := (.agg #[(.int .i64 (((tAt steps i) + 1) + (((steps[i]'(by omega)) % 18446744073709551616) % 40))), (.int .i64 (values[i]'(by omega)))])) rfl evp_nil) (parts_cons rfl parts_nil) rfl (by decide) (fun v828 w829 hst => ?_))
        replace hst : St w0 w829 [rowT 48 sampE v828 ([(⟨(((tAt steps i) + 1) + (((steps[i]'(by omega)) % 18446744073709551616) % 40)), (values[i]'(by omega))⟩ : Sample)]), rowT 48 sampE vo (riseL steps values i)] := hst
        refine s_cons (op_append (E := sampE) (xs := (riseL steps values i)) (ys := [(⟨(((tAt steps i) + 1) + (((steps[i]'(by omega)) % 18446744073709551616) % 40)), (values[i]'(by omega))⟩ : Sample)]) (z := (.agg #[(.int .i64 0), (.int .i64 0)])) (bytes := 16) hst 1 rfl Try.underlying22 (by kernel_rfl) rfl rfl rfl (hst.sl 0 rfl) (by first | omega | (simp only [rise_length, List.length_cons, List.length_nil]; omega)) (by first | omega | (simp only [rise_length, List.length_cons, List.length_nil]; omega)) (fun v830 w831 hst => ?_))
        replace hst : St w0 w831 [rowT 48 sampE v828 ([(⟨(((tAt steps i) + 1) + (((steps[i]'(by omega)) % 18446744073709551616) % 40)), (values[i]'(by omega))⟩ : Sample)]), rowT 48 sampE v830 (riseL steps values (i + 1))] := by rw [show ((riseL steps values i) ++ ([(⟨(((tAt steps i) + 1) + (((steps[i]'(by omega)) % 18446744073709551616) % 40)), (values[i]'(by omega))⟩ : Sample)])) = (riseL steps values (i + 1)) from rise_snoc (by rw [tAt_succ (steps := steps) (i := i) (by omega)]; omega) (by first | exact (vAt_some (by omega)).symm | exact (vAt_none (by omega)).symm)] at hst; exact hst
        refine s_cons (op_assign v830 rfl ?_)
        refine s_nil ?_
        refine block_n (then_n ?_)
        refine cE_region rfl ?_
        refine s_cons (op_move (.int .i64 (i : Int)) q812_9 ?_)
        refine s_cons (op_add (k := .i64) (a := (i : Int)) (b := 1) ((i : Int) + 1) rfl rfl (xi64 (by omega) (by omega)) ?_)
        refine s_cons (op_assign (.int .i64 ((i : Int) + 1)) rfl ?_)
        refine s_nil ?_
        refine then_n ?_
        exact ⟨_, ⟨v830, (i + 1), rfl, q812_0, q812_1, q812_2, q812_6, (congrArg (Value.int .i64) (show ((i : Int) + 1) = _ from by omega)), (congrArg (Value.int .i64) (show (((tAt steps i) + 1) + (((steps[i]'(by omega)) % 18446744073709551616) % 40)) = _ from by first | rfl | (rw [tAt_succ (steps := steps) (i := i) (by omega)]; omega))), rfl, (hst.sub (.cons _ (.cons_cons _ .slnil))), (by omega), (by omega)⟩, (by simp only [id]; omega)⟩
      · have c832 : ¬ ((i : Int) < (values.length : Int)) := of_decide_eq_false b823
        refine cE_cond false (congrArg Value.bool b823) (fun h => by cases h) (fun _ => ?_)
        refine cE_skip ?_
        refine then_n ?_
        refine cE_region rfl ?_
        refine s_cons (op_move vo q812_7 ?_)
        refine s_cons (op_move (.int .i64 (((tAt steps i) + 1) + (((steps[i]'(by omega)) % 18446744073709551616) % 40))) rfl ?_)
        refine s_cons (op_move (.int .i64 (i : Int)) rfl ?_)
        refine s_cons (op_build (r := (.agg #[(.int .i64 (((tAt steps i) + 1) + (((steps[i]'(by omega)) % 18446744073709551616) % 40))), (.int .i64 (i : Int))])) (evp_cons (v := (.int .i64 (((tAt steps i) + 1) + (((steps[i]'(by omega)) % 18446744073709551616) % 40)))) rfl (evp_cons (v := (.int .i64 (i : Int))) rfl evp_nil)) (by simp [Instr.build, Instr.fill, Value.cells, Try.runUnderlying48, Try.zeroValue48]) ?_)
        refine s_cons (op_buildSlice (E := sampE) [(⟨(((tAt steps i) + 1) + (((steps[i]'(by omega)) % 18446744073709551616) % 40)), (i : Int)⟩ : Sample)] hst Try.underlying22 Try.sizeOf48 Try.zeroValue48 (evp_cons (v := (.agg #[(.int .i64 (((tAt steps i) + 1) + (((steps[i]'(by omega)) % 18446744073709551616) % 40))), (.int .i64 (i : Int))])) rfl evp_nil) (parts_cons rfl parts_nil) rfl (by decide) (fun v833 w834 hst => ?_))
        replace hst : St w0 w834 [rowT 48 sampE v833 ([(⟨(((tAt steps i) + 1) + (((steps[i]'(by omega)) % 18446744073709551616) % 40)), (i : Int)⟩ : Sample)]), rowT 48 sampE vo (riseL steps values i)] := hst
        refine s_cons (op_append (E := sampE) (xs := (riseL steps values i)) (ys := [(⟨(((tAt steps i) + 1) + (((steps[i]'(by omega)) % 18446744073709551616) % 40)), (i : Int)⟩ : Sample)]) (z := (.agg #[(.int .i64 0), (.int .i64 0)])) (bytes := 16) hst 1 rfl Try.underlying22 (by kernel_rfl) rfl rfl rfl (hst.sl 0 rfl) (by first | omega | (simp only [rise_length, List.length_cons, List.length_nil]; omega)) (by first | omega | (simp only [rise_length, List.length_cons, List.length_nil]; omega)) (fun v835 w836 hst => ?_))
        replace hst : St w0 w836 [rowT 48 sampE v833 ([(⟨(((tAt steps i) + 1) + (((steps[i]'(by omega)) % 18446744073709551616) % 40)), (i : Int)⟩ : Sample)]), rowT 48 sampE v835 (riseL steps values (i + 1))] := by rw [show ((riseL steps values i) ++ ([(⟨(((tAt steps i) + 1) + (((steps[i]'(by omega)) % 18446744073709551616) % 40)), (i : Int)⟩ : Sample)])) = (riseL steps values (i + 1)) from rise_snoc (by rw [tAt_succ (steps := steps) (i := i) (by omega)]; omega) (by first | exact (vAt_some (by omega)).symm | exact (vAt_none (by omega)).symm)] at hst; exact hst
        refine s_cons (op_assign v835 rfl ?_)
        refine s_nil ?_
        refine block_n (then_n ?_)
        refine cE_region rfl ?_
        refine s_cons (op_move (.int .i64 (i : Int)) q812_9 ?_)
        refine s_cons (op_add (k := .i64) (a := (i : Int)) (b := 1) ((i : Int) + 1) rfl rfl (xi64 (by omega) (by omega)) ?_)
        refine s_cons (op_assign (.int .i64 ((i : Int) + 1)) rfl ?_)
        refine s_nil ?_
        refine then_n ?_
        exact ⟨_, ⟨v835, (i + 1), rfl, q812_0, q812_1, q812_2, q812_6, (congrArg (Value.int .i64) (show ((i : Int) + 1) = _ from by omega)), (congrArg (Value.int .i64) (show (((tAt steps i) + 1) + (((steps[i]'(by omega)) % 18446744073709551616) % 40)) = _ from by first | rfl | (rw [tAt_succ (steps := steps) (i := i) (by omega)]; omega))), rfl, (hst.sub (.cons _ (.cons_cons _ .slnil))), (by omega), (by omega)⟩, (by simp only [id]; omega)⟩
    · have c837 : ¬ ((i : Int) < most) := of_decide_eq_false b818
      refine cE_cond false (congrArg Value.bool b818) (fun h => by cases h) (fun _ => ?_)
      refine cE_exit ?_
      refine then_x (then_x (block_hit (then_n ?_)))
      refine cE_seq ?_
      refine cE_region rfl ?_
      refine s_cons (op_move vo q812_7 ?_)
      refine s_cons (op_assign vo rfl ?_)
      refine s_nil ?_
      refine then_n ?_
      refine cE_ret ?_
      refine post_r _ (res1 (v := vo) rfl) ?_
      have e838 : (riseL steps values i) = (riseL steps values (riseN steps most)) := by first | rw [riseN_end (i := i) (by omega) (by omega) (Or.inl (by omega))] | rw [riseN_end (i := i) (by omega) (by omega) (Or.inr (by omega))]
      replace hst : St w0 w815 [rowT 48 sampE vo (riseL steps values (riseN steps most))] := by rw [congrArg (fun l => rowT 48 sampE vo l) e838] at hst; exact hst
      exact ⟨vo, rfl, hst.sub (.cons_cons _ .slnil)⟩
  · have c839 : ¬ ((i : Int) < (steps.length : Int)) := of_decide_eq_false b816
    refine s_no 15 rfl (congrArg Value.bool b816) ?_
    refine s_no 15 rfl (congrArg Value.bool b816) ?_
    refine s_no 15 rfl (congrArg Value.bool b816) ?_
    refine s_cons (op_pick_f (.bool false) (congrArg Value.bool b816) rfl ?_)
    refine s_nil ?_
    refine then_n ?_
    refine cE_cond false rfl (fun h => by cases h) (fun _ => ?_)
    refine cE_exit ?_
    refine then_x (then_x (block_hit (then_n ?_)))
    refine cE_seq ?_
    refine cE_region rfl ?_
    refine s_cons (op_move vo q812_7 ?_)
    refine s_cons (op_assign vo rfl ?_)
    refine s_nil ?_
    refine then_n ?_
    refine cE_ret ?_
    refine post_r _ (res1 (v := vo) rfl) ?_
    have e840 : (riseL steps values i) = (riseL steps values (riseN steps most)) := by first | rw [riseN_end (i := i) (by omega) (by omega) (Or.inl (by omega))] | rw [riseN_end (i := i) (by omega) (by omega) (Or.inr (by omega))]
    replace hst : St w0 w815 [rowT 48 sampE vo (riseL steps values (riseN steps most))] := by rw [congrArg (fun l => rowT 48 sampE vo l) e840] at hst; exact hst
    exact ⟨vo, rfl, hst.sub (.cons_cons _ .slnil)⟩

end Go.Proofs.Ytpamjfbdgaamoaa
