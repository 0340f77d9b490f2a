/- twinkeeplaw6.told -/
import Derived.Test.YtpamjfbdgaamoaaW23
import Derived.Test.YtpamjfbdgaamoaaW26
import Derived.Test.YtpamjfbdgaamoaaW37
import Derived.Test.YtpamjfbdgaamoaaBG
namespace Go.Proofs.Ytpamjfbdgaamoaa
open Go.RowKit

set_option maxHeartbeats 8000000 in
theorem c_told6 (w0 : World) :
    Calls Try.prog 8 #[] w0 fun e w' => e = .returned (.bool true) ∧ St w0 w' [] := by
  refine calls_E (n := 102) (ts := [0]) Try.func8 rfl rfl rfl (by simp) ?_
  have hst := St.start w0
  refine cE_seq ?_
  refine cE_region rfl ?_
  refine s_cons (op_assign (.bool false) rfl ?_)
  refine s_nil ?_
  refine then_n ?_
  refine cE_seq ?_
  refine cE_region rfl ?_
  refine s_cons (op_call Try.call9 (evs_cons (v := (.slice none 0 0)) rfl evs_nil) (c_kPut (w0 := w0) (v_l := (.slice none 0 0)) (l := []) (h_l := (Sl.nil sampE _)) (hl := (by decide +kernel))) ?_)
  rintro _ w2 ⟨r1, rfl, hcall⟩
  refine ⟨_, rfl, ?_⟩
  have hst : St w0 w2 [rowT 5 u8E r1 ((encS ([])).1)] := hst.call hcall
  refine s_cons (op_move (.tuple #[r1, (.int .i64 ((encS ([])).2))]) rfl ?_)
  refine s_cons (op_extract r1 rfl rfl ?_)
  refine s_cons (op_extract (.int .i64 ((encS ([])).2)) rfl rfl ?_)
  refine s_cons (op_assign r1 rfl ?_)
  refine s_cons (op_assign (.int .i64 ((encS ([])).2)) rfl ?_)
  refine s_nil ?_
  refine then_n ?_
  refine cE_seq ?_
  refine cE_region rfl ?_
  refine s_cons (op_build (r := (.agg #[(.int .i64 10), (.int .i64 5)])) (evp_cons (v := (.int .i64 10)) rfl (evp_cons (v := (.int .i64 5)) rfl evp_nil)) (by simp [Instr.build, Instr.fill, Value.cells, Try.runUnderlying48, Try.zeroValue48]) ?_)
  refine s_cons (op_build (r := (.agg #[(.int .i64 20), (.int .i64 6)])) (evp_cons (v := (.int .i64 20)) rfl (evp_cons (v := (.int .i64 6)) rfl evp_nil)) (by simp [Instr.build, Instr.fill, Value.cells, Try.runUnderlying48, Try.zeroValue48]) ?_)
  refine s_cons (op_build (r := (.agg #[(.int .i64 30), (.int .i64 7)])) (evp_cons (v := (.int .i64 30)) rfl (evp_cons (v := (.int .i64 7)) rfl evp_nil)) (by simp [Instr.build, Instr.fill, Value.cells, Try.runUnderlying48, Try.zeroValue48]) ?_)
  refine s_cons (op_buildSlice (E := sampE) [(⟨10, 5⟩ : Sample), (⟨20, 6⟩ : Sample), (⟨30, 7⟩ : Sample)] hst Try.underlying22 Try.sizeOf48 Try.zeroValue48 (evp_cons (v := (.agg #[(.int .i64 10), (.int .i64 5)])) rfl (evp_cons (v := (.agg #[(.int .i64 20), (.int .i64 6)])) rfl (evp_cons (v := (.agg #[(.int .i64 30), (.int .i64 7)])) rfl evp_nil))) (parts_cons rfl (parts_cons rfl (parts_cons rfl parts_nil))) rfl (by decide) (fun v3 w4 hst => ?_))
  replace hst : St w0 w4 [rowT 48 sampE v3 ([(⟨10, 5⟩ : Sample), (⟨20, 6⟩ : Sample), (⟨30, 7⟩ : Sample)]), rowT 5 u8E r1 ((encS ([])).1)] := hst
  refine s_cons (op_assign v3 rfl ?_)
  refine s_nil ?_
  refine then_n ?_
  refine cE_seq ?_
  refine cE_region rfl ?_
  refine s_cons (op_move v3 rfl ?_)
  refine s_cons (op_call Try.call9 (evs_cons (v := v3) rfl evs_nil) (c_kPut (w0 := w4) (v_l := v3) (l := [(⟨10, 5⟩ : Sample), (⟨20, 6⟩ : Sample), (⟨30, 7⟩ : Sample)]) (h_l := (hst.sl 0 rfl)) (hl := (by decide +kernel))) ?_)
  rintro _ w6 ⟨r5, rfl, hcall⟩
  refine ⟨_, rfl, ?_⟩
  have hst : St w0 w6 [rowT 5 u8E r5 ((encS ([(⟨10, 5⟩ : Sample), (⟨20, 6⟩ : Sample), (⟨30, 7⟩ : Sample)])).1), rowT 48 sampE v3 ([(⟨10, 5⟩ : Sample), (⟨20, 6⟩ : Sample), (⟨30, 7⟩ : Sample)]), rowT 5 u8E r1 ((encS ([])).1)] := hst.call hcall
  refine s_cons (op_move (.tuple #[r5, (.int .i64 ((encS ([(⟨10, 5⟩ : Sample), (⟨20, 6⟩ : Sample), (⟨30, 7⟩ : Sample)])).2))]) rfl ?_)
  refine s_cons (op_extract r5 rfl rfl ?_)
  refine s_cons (op_extract (.int .i64 ((encS ([(⟨10, 5⟩ : Sample), (⟨20, 6⟩ : Sample), (⟨30, 7⟩ : Sample)])).2)) rfl rfl ?_)
  refine s_cons (op_assign r5 rfl ?_)
  refine s_cons (op_assign (.int .i64 ((encS ([(⟨10, 5⟩ : Sample), (⟨20, 6⟩ : Sample), (⟨30, 7⟩ : Sample)])).2)) rfl ?_)
  refine s_nil ?_
  refine then_n ?_
  refine cE_seq ?_
  refine cE_region rfl ?_
  refine s_cons (op_move r5 rfl ?_)
  refine s_cons (op_call Try.call11 (evs_cons (v := r5) rfl evs_nil) (c_kGet (w0 := w6) (v_b := r5) (b := (encS ([(⟨10, 5⟩ : Sample), (⟨20, 6⟩ : Sample), (⟨30, 7⟩ : Sample)])).1) (h_b := (hst.sl 0 rfl)) (hl := (by decide +kernel))) ?_)
  rintro _ w11 ⟨r7, r8, r9, rfl, hcall, x10⟩
  refine ⟨_, rfl, ?_⟩
  have hst : St w0 w11 [rowT 48 sampE r7 r8, rowT 5 u8E r5 ((encS ([(⟨10, 5⟩ : Sample), (⟨20, 6⟩ : Sample), (⟨30, 7⟩ : Sample)])).1), rowT 48 sampE v3 ([(⟨10, 5⟩ : Sample), (⟨20, 6⟩ : Sample), (⟨30, 7⟩ : Sample)]), rowT 5 u8E r1 ((encS ([])).1)] := hst.call hcall
  refine s_cons (op_move (.tuple #[r7, (.int .i64 r9)]) rfl ?_)
  refine s_cons (op_extract r7 rfl rfl ?_)
  refine s_cons (op_extract (.int .i64 r9) rfl rfl ?_)
  refine s_cons (op_assign r7 rfl ?_)
  refine s_cons (op_assign (.int .i64 r9) rfl ?_)
  refine s_nil ?_
  refine then_n ?_
  refine cE_seq ?_
  refine cE_region rfl ?_
  refine s_cons (op_buildSlice (E := u8E) [] hst Try.underlying24 Try.sizeOf5 Try.zeroValue5 evp_nil parts_nil rfl (by decide) (fun v12 w13 hst => ?_))
  replace hst : St w0 w13 [rowT 5 u8E v12 ([]), rowT 48 sampE r7 r8, rowT 5 u8E r5 ((encS ([(⟨10, 5⟩ : Sample), (⟨20, 6⟩ : Sample), (⟨30, 7⟩ : Sample)])).1), rowT 48 sampE v3 ([(⟨10, 5⟩ : Sample), (⟨20, 6⟩ : Sample), (⟨30, 7⟩ : Sample)]), rowT 5 u8E r1 ((encS ([])).1)] := hst
  refine s_cons (op_move r5 rfl ?_)
  refine s_cons (op_append (E := u8E) (xs := []) (ys := (encS ([(⟨10, 5⟩ : Sample), (⟨20, 6⟩ : Sample), (⟨30, 7⟩ : Sample)])).1) (z := (.int .u8 0)) (bytes := 1) hst 0 rfl Try.underlying24 (by kernel_rfl) rfl rfl rfl (hst.sl 2 rfl) (by decide +kernel) (by decide +kernel) (fun v14 w15 hst => ?_))
  replace hst : St w0 w15 [rowT 5 u8E v14 ((encS ([(⟨10, 5⟩ : Sample), (⟨20, 6⟩ : Sample), (⟨30, 7⟩ : Sample)])).1), rowT 48 sampE r7 r8, rowT 5 u8E r5 ((encS ([(⟨10, 5⟩ : Sample), (⟨20, 6⟩ : Sample), (⟨30, 7⟩ : Sample)])).1), rowT 48 sampE v3 ([(⟨10, 5⟩ : Sample), (⟨20, 6⟩ : Sample), (⟨30, 7⟩ : Sample)]), rowT 5 u8E r1 ((encS ([])).1)] := hst
  refine s_cons (op_buildSlice (E := u8E) [(byt 0)] hst Try.underlying24 Try.sizeOf5 Try.zeroValue5 (evp_cons (v := (.int .u8 0)) rfl evp_nil) (parts_cons (by rw [u8cell]; exact byt_cell (by omega) (by omega)) parts_nil) rfl (by decide) (fun v16 w17 hst => ?_))
  replace hst : St w0 w17 [rowT 5 u8E v16 ([(byt 0)]), rowT 5 u8E v14 ((encS ([(⟨10, 5⟩ : Sample), (⟨20, 6⟩ : Sample), (⟨30, 7⟩ : Sample)])).1), rowT 48 sampE r7 r8, rowT 5 u8E r5 ((encS ([(⟨10, 5⟩ : Sample), (⟨20, 6⟩ : Sample), (⟨30, 7⟩ : Sample)])).1), rowT 48 sampE v3 ([(⟨10, 5⟩ : Sample), (⟨20, 6⟩ : Sample), (⟨30, 7⟩ : Sample)]), rowT 5 u8E r1 ((encS ([])).1)] := hst
  refine s_cons (op_append (E := u8E) (xs := (encS ([(⟨10, 5⟩ : Sample), (⟨20, 6⟩ : Sample), (⟨30, 7⟩ : Sample)])).1) (ys := [(byt 0)]) (z := (.int .u8 0)) (bytes := 1) hst 1 rfl Try.underlying24 (by kernel_rfl) rfl rfl rfl (hst.sl 0 rfl) (by decide +kernel) (by decide +kernel) (fun v18 w19 hst => ?_))
  replace hst : St w0 w19 [rowT 5 u8E v16 ([(byt 0)]), rowT 5 u8E v18 (((encS ([(⟨10, 5⟩ : Sample), (⟨20, 6⟩ : Sample), (⟨30, 7⟩ : Sample)])).1) ++ ([(byt 0)])), rowT 48 sampE r7 r8, rowT 5 u8E r5 ((encS ([(⟨10, 5⟩ : Sample), (⟨20, 6⟩ : Sample), (⟨30, 7⟩ : Sample)])).1), rowT 48 sampE v3 ([(⟨10, 5⟩ : Sample), (⟨20, 6⟩ : Sample), (⟨30, 7⟩ : Sample)]), rowT 5 u8E r1 ((encS ([])).1)] := hst
  refine s_cons (op_call Try.call11 (evs_cons (v := v18) rfl evs_nil) (c_kGet (w0 := w19) (v_b := v18) (b := (((encS ([(⟨10, 5⟩ : Sample), (⟨20, 6⟩ : Sample), (⟨30, 7⟩ : Sample)])).1) ++ ([(byt 0)]))) (h_b := (hst.sl 1 rfl)) (hl := (by decide +kernel))) ?_)
  rintro _ w24 ⟨r20, r21, r22, rfl, hcall, x23⟩
  refine ⟨_, rfl, ?_⟩
  have hst : St w0 w24 [rowT 48 sampE r20 r21, rowT 5 u8E v16 ([(byt 0)]), rowT 5 u8E v18 (((encS ([(⟨10, 5⟩ : Sample), (⟨20, 6⟩ : Sample), (⟨30, 7⟩ : Sample)])).1) ++ ([(byt 0)])), rowT 48 sampE r7 r8, rowT 5 u8E r5 ((encS ([(⟨10, 5⟩ : Sample), (⟨20, 6⟩ : Sample), (⟨30, 7⟩ : Sample)])).1), rowT 48 sampE v3 ([(⟨10, 5⟩ : Sample), (⟨20, 6⟩ : Sample), (⟨30, 7⟩ : Sample)]), rowT 5 u8E r1 ((encS ([])).1)] := hst.call hcall
  refine s_cons (op_move (.tuple #[r20, (.int .i64 r22)]) rfl ?_)
  refine s_cons (op_extract r20 rfl rfl ?_)
  refine s_cons (op_extract (.int .i64 r22) rfl rfl ?_)
  refine s_cons (op_assign r20 rfl ?_)
  refine s_cons (op_assign (.int .i64 r22) rfl ?_)
  refine s_nil ?_
  refine then_n ?_
  refine cE_seq ?_
  refine cE_region rfl ?_
  refine s_cons (op_build (r := (.agg #[(.int .i64 3), (.int .i64 0)])) (evp_cons (v := (.int .i64 3)) rfl evp_nil) (by simp [Instr.build, Instr.fill, Value.cells, Try.runUnderlying48, Try.zeroValue48]) ?_)
  refine s_cons (op_build (r := (.agg #[(.int .i64 3), (.int .i64 0)])) (evp_cons (v := (.int .i64 3)) rfl evp_nil) (by simp [Instr.build, Instr.fill, Value.cells, Try.runUnderlying48, Try.zeroValue48]) ?_)
  refine s_cons (op_buildSlice (E := sampE) [(⟨3, 0⟩ : Sample), (⟨3, 0⟩ : Sample)] hst Try.underlying22 Try.sizeOf48 Try.zeroValue48 (evp_cons (v := (.agg #[(.int .i64 3), (.int .i64 0)])) rfl (evp_cons (v := (.agg #[(.int .i64 3), (.int .i64 0)])) rfl evp_nil)) (parts_cons rfl (parts_cons rfl parts_nil)) rfl (by decide) (fun v25 w26 hst => ?_))
  replace hst : St w0 w26 [rowT 48 sampE v25 ([(⟨3, 0⟩ : Sample), (⟨3, 0⟩ : Sample)]), rowT 48 sampE r20 r21, rowT 5 u8E v16 ([(byt 0)]), rowT 5 u8E v18 (((encS ([(⟨10, 5⟩ : Sample), (⟨20, 6⟩ : Sample), (⟨30, 7⟩ : Sample)])).1) ++ ([(byt 0)])), rowT 48 sampE r7 r8, rowT 5 u8E r5 ((encS ([(⟨10, 5⟩ : Sample), (⟨20, 6⟩ : Sample), (⟨30, 7⟩ : Sample)])).1), rowT 48 sampE v3 ([(⟨10, 5⟩ : Sample), (⟨20, 6⟩ : Sample), (⟨30, 7⟩ : Sample)]), rowT 5 u8E r1 ((encS ([])).1)] := hst
  refine s_cons (op_call Try.call9 (evs_cons (v := v25) rfl evs_nil) (c_kPut (w0 := w26) (v_l := v25) (l := [(⟨3, 0⟩ : Sample), (⟨3, 0⟩ : Sample)]) (h_l := (hst.sl 0 rfl)) (hl := (by decide +kernel))) ?_)
  rintro _ w28 ⟨r27, rfl, hcall⟩
  refine ⟨_, rfl, ?_⟩
  have hst : St w0 w28 [rowT 5 u8E r27 ((encS ([(⟨3, 0⟩ : Sample), (⟨3, 0⟩ : Sample)])).1), rowT 48 sampE v25 ([(⟨3, 0⟩ : Sample), (⟨3, 0⟩ : Sample)]), rowT 48 sampE r20 r21, rowT 5 u8E v16 ([(byt 0)]), rowT 5 u8E v18 (((encS ([(⟨10, 5⟩ : Sample), (⟨20, 6⟩ : Sample), (⟨30, 7⟩ : Sample)])).1) ++ ([(byt 0)])), rowT 48 sampE r7 r8, rowT 5 u8E r5 ((encS ([(⟨10, 5⟩ : Sample), (⟨20, 6⟩ : Sample), (⟨30, 7⟩ : Sample)])).1), rowT 48 sampE v3 ([(⟨10, 5⟩ : Sample), (⟨20, 6⟩ : Sample), (⟨30, 7⟩ : Sample)]), rowT 5 u8E r1 ((encS ([])).1)] := hst.call hcall
  refine s_cons (op_move (.tuple #[r27, (.int .i64 ((encS ([(⟨3, 0⟩ : Sample), (⟨3, 0⟩ : Sample)])).2))]) rfl ?_)
  refine s_cons (op_extract r27 rfl rfl ?_)
  refine s_cons (op_extract (.int .i64 ((encS ([(⟨3, 0⟩ : Sample), (⟨3, 0⟩ : Sample)])).2)) rfl rfl ?_)
  refine s_cons (op_assign r27 rfl ?_)
  refine s_cons (op_assign (.int .i64 ((encS ([(⟨3, 0⟩ : Sample), (⟨3, 0⟩ : Sample)])).2)) rfl ?_)
  refine s_nil ?_
  refine then_n ?_
  refine cE_seq ?_
  refine cE_region rfl ?_
  refine s_cons (op_move r1 rfl ?_)
  refine s_cons (op_call Try.call15 (evs_cons (v := r1) rfl (evs_cons (v := (.int .i64 0)) rfl evs_nil)) (c_kGetAggs (w0 := w28) (v_b := r1) (b := (encS ([])).1) (h_b := (hst.sl 8 rfl)) (k := 0) (hl := (by decide +kernel)) (k0 := (by omega)) (k1 := (by omega))) ?_)
  rintro _ w33 ⟨r29, r30, r31, rfl, hcall, x32⟩
  refine ⟨_, rfl, ?_⟩
  have hst : St w0 w33 [rowT 71 aggE r29 r30, rowT 5 u8E r27 ((encS ([(⟨3, 0⟩ : Sample), (⟨3, 0⟩ : Sample)])).1), rowT 48 sampE v25 ([(⟨3, 0⟩ : Sample), (⟨3, 0⟩ : Sample)]), rowT 48 sampE r20 r21, rowT 5 u8E v16 ([(byt 0)]), rowT 5 u8E v18 (((encS ([(⟨10, 5⟩ : Sample), (⟨20, 6⟩ : Sample), (⟨30, 7⟩ : Sample)])).1) ++ ([(byt 0)])), rowT 48 sampE r7 r8, rowT 5 u8E r5 ((encS ([(⟨10, 5⟩ : Sample), (⟨20, 6⟩ : Sample), (⟨30, 7⟩ : Sample)])).1), rowT 48 sampE v3 ([(⟨10, 5⟩ : Sample), (⟨20, 6⟩ : Sample), (⟨30, 7⟩ : Sample)]), rowT 5 u8E r1 ((encS ([])).1)] := hst.call hcall
  refine s_cons (op_move (.tuple #[r29, (.int .i64 r31)]) rfl ?_)
  refine s_cons (op_extract r29 rfl rfl ?_)
  refine s_cons (op_extract (.int .i64 r31) rfl rfl ?_)
  refine s_cons (op_assign r29 rfl ?_)
  refine s_cons (op_assign (.int .i64 r31) rfl ?_)
  refine s_nil ?_
  refine then_n ?_
  refine cE_seq ?_
  refine cE_region rfl ?_
  refine s_cons (op_move (.int .i64 ((encS ([])).2)) rfl ?_)
  refine s_cons (op_eql (k := .i64) (a := (encS ([])).2) (b := 0) rfl rfl ?_)
  refine s_cons (op_move (.bool (decide (((encS ([])).2) = 0))) rfl ?_)
  refine s_yes 55 rfl (congrArg Value.bool (show (decide (((encS ([])).2) = 0)) = true from (by decide +kernel))) (op_move r1 rfl ?_)
  refine s_yes 55 rfl (congrArg Value.bool (show (decide (((encS ([])).2) = 0)) = true from (by decide +kernel))) (op_len (E := u8E) (xs := (encS ([])).1) Try.underlying24 rfl (hst.sl 9 rfl) ?_)
  refine s_yes 55 rfl (congrArg Value.bool (show (decide (((encS ([])).2) = 0)) = true from (by decide +kernel))) (op_eql (k := .i64) (a := (((encS ([])).1).length : Int)) (b := 1) rfl rfl ?_)
  refine s_cons (op_pick_t (.bool (decide ((((encS ([])).1).length : Int) = 1))) (congrArg Value.bool (show (decide (((encS ([])).2) = 0)) = true from (by decide +kernel))) rfl ?_)
  refine s_cons (op_move (.bool (decide ((((encS ([])).1).length : Int) = 1))) rfl ?_)
  refine s_yes 60 rfl (congrArg Value.bool (show (decide ((((encS ([])).1).length : Int) = 1)) = true from (by decide +kernel))) (op_move r1 rfl ?_)
  refine s_yes 60 rfl (congrArg Value.bool (show (decide ((((encS ([])).1).length : Int) = 1)) = true from (by decide +kernel))) (op_indexAddrN (E := u8E) (xs := (encS ([])).1) 0 Try.underlying24 Try.sizeOf5 rfl (hst.sl 9 rfl) rfl (by omega) (by decide +kernel) (fun a34 o35 p36 => ?_))
  refine s_yes 60 rfl (congrArg Value.bool (show (decide ((((encS ([])).1).length : Int) = 1)) = true from (by decide +kernel))) (op_load1 (u := (.int .u8 ((((encS ([])).1)[0]'(by decide +kernel)).toNat : Int))) Try.isAgg5 rfl p36 ?_)
  have hu37 := u8_lt (((encS ([])).1)[0]'(by decide +kernel))
  refine s_yes 60 rfl (congrArg Value.bool (show (decide ((((encS ([])).1).length : Int) = 1)) = true from (by decide +kernel))) (op_eql (k := .u8) (a := ((((encS ([])).1)[0]'(by decide +kernel)).toNat : Int)) (b := 0) rfl rfl ?_)
  refine s_cons (op_pick_t (.bool (decide (((((encS ([])).1)[0]'(by decide +kernel)).toNat : Int) = 0))) (congrArg Value.bool (show (decide ((((encS ([])).1).length : Int) = 1)) = true from (by decide +kernel))) rfl ?_)
  refine s_cons (op_move (.bool (decide (((((encS ([])).1)[0]'(by decide +kernel)).toNat : Int) = 0))) rfl ?_)
  refine s_yes 66 rfl (congrArg Value.bool (show (decide (((((encS ([])).1)[0]'(by decide +kernel)).toNat : Int) = 0)) = true from (by decide +kernel))) (op_move (.int .i64 ((encS ([(⟨10, 5⟩ : Sample), (⟨20, 6⟩ : Sample), (⟨30, 7⟩ : Sample)])).2)) rfl ?_)
  refine s_yes 66 rfl (congrArg Value.bool (show (decide (((((encS ([])).1)[0]'(by decide +kernel)).toNat : Int) = 0)) = true from (by decide +kernel))) (op_eql (k := .i64) (a := (encS ([(⟨10, 5⟩ : Sample), (⟨20, 6⟩ : Sample), (⟨30, 7⟩ : Sample)])).2) (b := 0) rfl rfl ?_)
  refine s_cons (op_pick_t (.bool (decide (((encS ([(⟨10, 5⟩ : Sample), (⟨20, 6⟩ : Sample), (⟨30, 7⟩ : Sample)])).2) = 0))) (congrArg Value.bool (show (decide (((((encS ([])).1)[0]'(by decide +kernel)).toNat : Int) = 0)) = true from (by decide +kernel))) rfl ?_)
  refine s_cons (op_move (.bool (decide (((encS ([(⟨10, 5⟩ : Sample), (⟨20, 6⟩ : Sample), (⟨30, 7⟩ : Sample)])).2) = 0))) rfl ?_)
  refine s_yes 70 rfl (congrArg Value.bool (show (decide (((encS ([(⟨10, 5⟩ : Sample), (⟨20, 6⟩ : Sample), (⟨30, 7⟩ : Sample)])).2) = 0)) = true from (by decide +kernel))) (op_move r5 rfl ?_)
  refine s_yes 70 rfl (congrArg Value.bool (show (decide (((encS ([(⟨10, 5⟩ : Sample), (⟨20, 6⟩ : Sample), (⟨30, 7⟩ : Sample)])).2) = 0)) = true from (by decide +kernel))) (op_len (E := u8E) (xs := (encS ([(⟨10, 5⟩ : Sample), (⟨20, 6⟩ : Sample), (⟨30, 7⟩ : Sample)])).1) Try.underlying24 rfl (hst.sl 7 rfl) ?_)
  refine s_yes 70 rfl (congrArg Value.bool (show (decide (((encS ([(⟨10, 5⟩ : Sample), (⟨20, 6⟩ : Sample), (⟨30, 7⟩ : Sample)])).2) = 0)) = true from (by decide +kernel))) (op_eql (k := .i64) (a := (((encS ([(⟨10, 5⟩ : Sample), (⟨20, 6⟩ : Sample), (⟨30, 7⟩ : Sample)])).1).length : Int)) (b := 7) rfl rfl ?_)
  refine s_cons (op_pick_t (.bool (decide ((((encS ([(⟨10, 5⟩ : Sample), (⟨20, 6⟩ : Sample), (⟨30, 7⟩ : Sample)])).1).length : Int) = 7))) (congrArg Value.bool (show (decide (((encS ([(⟨10, 5⟩ : Sample), (⟨20, 6⟩ : Sample), (⟨30, 7⟩ : Sample)])).2) = 0)) = true from (by decide +kernel))) rfl ?_)
  refine s_cons (op_move (.bool (decide ((((encS ([(⟨10, 5⟩ : Sample), (⟨20, 6⟩ : Sample), (⟨30, 7⟩ : Sample)])).1).length : Int) = 7))) rfl ?_)
  refine s_yes 75 rfl (congrArg Value.bool (show (decide ((((encS ([(⟨10, 5⟩ : Sample), (⟨20, 6⟩ : Sample), (⟨30, 7⟩ : Sample)])).1).length : Int) = 7)) = true from (by decide +kernel))) (op_move r5 rfl ?_)
  refine s_yes 75 rfl (congrArg Value.bool (show (decide ((((encS ([(⟨10, 5⟩ : Sample), (⟨20, 6⟩ : Sample), (⟨30, 7⟩ : Sample)])).1).length : Int) = 7)) = true from (by decide +kernel))) (op_indexAddrN (E := u8E) (xs := (encS ([(⟨10, 5⟩ : Sample), (⟨20, 6⟩ : Sample), (⟨30, 7⟩ : Sample)])).1) 5 Try.underlying24 Try.sizeOf5 rfl (hst.sl 7 rfl) rfl (by omega) (by decide +kernel) (fun a38 o39 p40 => ?_))
  refine s_yes 75 rfl (congrArg Value.bool (show (decide ((((encS ([(⟨10, 5⟩ : Sample), (⟨20, 6⟩ : Sample), (⟨30, 7⟩ : Sample)])).1).length : Int) = 7)) = true from (by decide +kernel))) (op_load1 (u := (.int .u8 ((((encS ([(⟨10, 5⟩ : Sample), (⟨20, 6⟩ : Sample), (⟨30, 7⟩ : Sample)])).1)[5]'(by decide +kernel)).toNat : Int))) Try.isAgg5 rfl p40 ?_)
  have hu41 := u8_lt (((encS ([(⟨10, 5⟩ : Sample), (⟨20, 6⟩ : Sample), (⟨30, 7⟩ : Sample)])).1)[5]'(by decide +kernel))
  refine s_yes 75 rfl (congrArg Value.bool (show (decide ((((encS ([(⟨10, 5⟩ : Sample), (⟨20, 6⟩ : Sample), (⟨30, 7⟩ : Sample)])).1).length : Int) = 7)) = true from (by decide +kernel))) (op_eql (k := .u8) (a := ((((encS ([(⟨10, 5⟩ : Sample), (⟨20, 6⟩ : Sample), (⟨30, 7⟩ : Sample)])).1)[5]'(by decide +kernel)).toNat : Int)) (b := 0) rfl rfl ?_)
  refine s_cons (op_pick_t (.bool (decide (((((encS ([(⟨10, 5⟩ : Sample), (⟨20, 6⟩ : Sample), (⟨30, 7⟩ : Sample)])).1)[5]'(by decide +kernel)).toNat : Int) = 0))) (congrArg Value.bool (show (decide ((((encS ([(⟨10, 5⟩ : Sample), (⟨20, 6⟩ : Sample), (⟨30, 7⟩ : Sample)])).1).length : Int) = 7)) = true from (by decide +kernel))) rfl ?_)
  refine s_cons (op_move (.bool (decide (((((encS ([(⟨10, 5⟩ : Sample), (⟨20, 6⟩ : Sample), (⟨30, 7⟩ : Sample)])).1)[5]'(by decide +kernel)).toNat : Int) = 0))) rfl ?_)
  refine s_yes 81 rfl (congrArg Value.bool (show (decide (((((encS ([(⟨10, 5⟩ : Sample), (⟨20, 6⟩ : Sample), (⟨30, 7⟩ : Sample)])).1)[5]'(by decide +kernel)).toNat : Int) = 0)) = true from (by decide +kernel))) (op_move (.int .i64 r9) rfl ?_)
  refine s_yes 81 rfl (congrArg Value.bool (show (decide (((((encS ([(⟨10, 5⟩ : Sample), (⟨20, 6⟩ : Sample), (⟨30, 7⟩ : Sample)])).1)[5]'(by decide +kernel)).toNat : Int) = 0)) = true from (by decide +kernel))) (op_eql (k := .i64) (a := r9) (b := 0) rfl rfl ?_)
  refine s_cons (op_pick_t (.bool (decide (r9 = 0))) (congrArg Value.bool (show (decide (((((encS ([(⟨10, 5⟩ : Sample), (⟨20, 6⟩ : Sample), (⟨30, 7⟩ : Sample)])).1)[5]'(by decide +kernel)).toNat : Int) = 0)) = true from (by decide +kernel))) rfl ?_)
  refine s_cons (op_move (.bool (decide (r9 = 0))) rfl ?_)
  refine s_yes 85 rfl (congrArg Value.bool (show (decide (r9 = 0)) = true from (decide_eq_true (decS_enc (by assumption) (by decide +kernel) (by decide +kernel)).2))) (op_move r7 rfl ?_)
  refine s_yes 85 rfl (congrArg Value.bool (show (decide (r9 = 0)) = true from (decide_eq_true (decS_enc (by assumption) (by decide +kernel) (by decide +kernel)).2))) (op_move v3 rfl ?_)
  refine s_yes 85 rfl (congrArg Value.bool (show (decide (r9 = 0)) = true from (decide_eq_true (decS_enc (by assumption) (by decide +kernel) (by decide +kernel)).2))) (op_call Try.call17 (evs_cons (v := r7) rfl (evs_cons (v := v3) rfl evs_nil)) (c_SameSamples (w0 := w33) (v_a := r7) (a := r8) (h_a := (hst.sl 6 rfl)) (v_b := v3) (b := [(⟨10, 5⟩ : Sample), (⟨20, 6⟩ : Sample), (⟨30, 7⟩ : Sample)]) (h_b := (hst.sl 8 rfl))) ?_)
  rintro _ w42 ⟨rfl, hcall⟩
  refine ⟨_, rfl, ?_⟩
  have hst : St w0 w42 [rowT 71 aggE r29 r30, rowT 5 u8E r27 ((encS ([(⟨3, 0⟩ : Sample), (⟨3, 0⟩ : Sample)])).1), rowT 48 sampE v25 ([(⟨3, 0⟩ : Sample), (⟨3, 0⟩ : Sample)]), rowT 48 sampE r20 r21, rowT 5 u8E v16 ([(byt 0)]), rowT 5 u8E v18 (((encS ([(⟨10, 5⟩ : Sample), (⟨20, 6⟩ : Sample), (⟨30, 7⟩ : Sample)])).1) ++ ([(byt 0)])), rowT 48 sampE r7 r8, rowT 5 u8E r5 ((encS ([(⟨10, 5⟩ : Sample), (⟨20, 6⟩ : Sample), (⟨30, 7⟩ : Sample)])).1), rowT 48 sampE v3 ([(⟨10, 5⟩ : Sample), (⟨20, 6⟩ : Sample), (⟨30, 7⟩ : Sample)]), rowT 5 u8E r1 ((encS ([])).1)] := hst.call hcall
  refine s_cons (op_pick_t (.bool (decide (r8 = [(⟨10, 5⟩ : Sample), (⟨20, 6⟩ : Sample), (⟨30, 7⟩ : Sample)]))) (congrArg Value.bool (show (decide (r9 = 0)) = true from (decide_eq_true (decS_enc (by assumption) (by decide +kernel) (by decide +kernel)).2))) rfl ?_)
  refine s_cons (op_move (.bool (decide (r8 = [(⟨10, 5⟩ : Sample), (⟨20, 6⟩ : Sample), (⟨30, 7⟩ : Sample)]))) rfl ?_)
  refine s_yes 90 rfl (congrArg Value.bool (show (decide (r8 = [(⟨10, 5⟩ : Sample), (⟨20, 6⟩ : Sample), (⟨30, 7⟩ : Sample)])) = true from (decide_eq_true (decS_enc (by assumption) (by decide +kernel) (by decide +kernel)).1))) (op_move (.int .i64 r22) rfl ?_)
  refine s_yes 90 rfl (congrArg Value.bool (show (decide (r8 = [(⟨10, 5⟩ : Sample), (⟨20, 6⟩ : Sample), (⟨30, 7⟩ : Sample)])) = true from (decide_eq_true (decS_enc (by assumption) (by decide +kernel) (by decide +kernel)).1))) (op_eql (k := .i64) (a := r22) (b := 2) rfl rfl ?_)
  refine s_cons (op_pick_t (.bool (decide (r22 = 2))) (congrArg Value.bool (show (decide (r8 = [(⟨10, 5⟩ : Sample), (⟨20, 6⟩ : Sample), (⟨30, 7⟩ : Sample)])) = true from (decide_eq_true (decS_enc (by assumption) (by decide +kernel) (by decide +kernel)).1))) rfl ?_)
  refine s_cons (op_move (.bool (decide (r22 = 2))) rfl ?_)
  refine s_yes 94 rfl (congrArg Value.bool (show (decide (r22 = 2)) = true from (decide_eq_true (decS_encmore (by assumption) (by decide +kernel) (by decide +kernel) (by decide))))) (op_move (.int .i64 ((encS ([(⟨3, 0⟩ : Sample), (⟨3, 0⟩ : Sample)])).2)) rfl ?_)
  refine s_yes 94 rfl (congrArg Value.bool (show (decide (r22 = 2)) = true from (decide_eq_true (decS_encmore (by assumption) (by decide +kernel) (by decide +kernel) (by decide))))) (op_eql (k := .i64) (a := (encS ([(⟨3, 0⟩ : Sample), (⟨3, 0⟩ : Sample)])).2) (b := 1) rfl rfl ?_)
  refine s_cons (op_pick_t (.bool (decide (((encS ([(⟨3, 0⟩ : Sample), (⟨3, 0⟩ : Sample)])).2) = 1))) (congrArg Value.bool (show (decide (r22 = 2)) = true from (decide_eq_true (decS_encmore (by assumption) (by decide +kernel) (by decide +kernel) (by decide))))) rfl ?_)
  refine s_cons (op_move (.bool (decide (((encS ([(⟨3, 0⟩ : Sample), (⟨3, 0⟩ : Sample)])).2) = 1))) rfl ?_)
  refine s_yes 98 rfl (congrArg Value.bool (show (decide (((encS ([(⟨3, 0⟩ : Sample), (⟨3, 0⟩ : Sample)])).2) = 1)) = true from (by decide +kernel))) (op_move (.int .i64 r31) rfl ?_)
  refine s_yes 98 rfl (congrArg Value.bool (show (decide (((encS ([(⟨3, 0⟩ : Sample), (⟨3, 0⟩ : Sample)])).2) = 1)) = true from (by decide +kernel))) (op_eql (k := .i64) (a := r31) (b := 1) rfl rfl ?_)
  refine s_cons (op_pick_t (.bool (decide (r31 = 1))) (congrArg Value.bool (show (decide (((encS ([(⟨3, 0⟩ : Sample), (⟨3, 0⟩ : Sample)])).2) = 1)) = true from (by decide +kernel))) rfl ?_)
  refine s_cons (op_assign (.bool (decide (r31 = 1))) rfl ?_)
  refine s_nil ?_
  refine then_n ?_
  refine cE_ret ?_
  refine post_r _ (res1 (v := (.bool true)) (congrArg Value.bool (show (decide (r31 = 1)) = true from (decide_eq_true (decA_out (by assumption) (by decide +kernel)))))) ?_
  exact ⟨rfl, hst.bare⟩

end Go.Proofs.Ytpamjfbdgaamoaa
