/- told of tier -/
import Derived.Test.YtffnhcioponbbaaW11
import Derived.Test.YtffnhcioponbbaaW12
namespace Go.Proofs.Ytffnhcioponbbaa
open Go.RowKit

set_option maxHeartbeats 8000000 in
theorem c_told4 (w0 : World) :
    Calls Try.prog 20 #[] w0 fun e w' => e = .returned (.bool true) ∧ St w0 w' [] := by
  refine calls_E (n := 120) (ts := [0]) Try.func20 rfl rfl rfl (by simp) ?_
  have hst := St.start w0
  refine cE_seq ?_
  refine cE_region rfl ?_
  refine s_cons (op_assign (.bool false) rfl ?_)
  refine s_nil ?_
  refine then_n ?_
  refine cE_seq ?_
  refine cE_region rfl ?_
  refine s_cons (op_build (r := (.agg #[(.int .i64 3), (.int .i64 1)])) (evp_cons (v := (.int .i64 3)) rfl (evp_cons (v := (.int .i64 1)) rfl evp_nil)) (by simp [Instr.build, Instr.fill, Value.cells, Try.runUnderlying32, Try.zeroValue32]) ?_)
  refine s_cons (op_build (r := (.agg #[(.int .i64 4), (.int .i64 2)])) (evp_cons (v := (.int .i64 4)) rfl (evp_cons (v := (.int .i64 2)) rfl evp_nil)) (by simp [Instr.build, Instr.fill, Value.cells, Try.runUnderlying32, Try.zeroValue32]) ?_)
  refine s_cons (op_build (r := (.agg #[(.int .i64 6), (.int .i64 4)])) (evp_cons (v := (.int .i64 6)) rfl (evp_cons (v := (.int .i64 4)) rfl evp_nil)) (by simp [Instr.build, Instr.fill, Value.cells, Try.runUnderlying32, Try.zeroValue32]) ?_)
  refine s_cons (op_buildSlice (E := sampE) [(⟨3, 1⟩ : Sample), (⟨4, 2⟩ : Sample), (⟨6, 4⟩ : Sample)] hst Try.underlying22 Try.sizeOf32 Try.zeroValue32 (evp_cons (v := (.agg #[(.int .i64 3), (.int .i64 1)])) rfl (evp_cons (v := (.agg #[(.int .i64 4), (.int .i64 2)])) rfl (evp_cons (v := (.agg #[(.int .i64 6), (.int .i64 4)])) rfl evp_nil))) (parts_cons rfl (parts_cons rfl (parts_cons rfl parts_nil))) rfl (by decide) (fun v1 w2 hst => ?_))
  replace hst : St w0 w2 [rowT 32 sampE v1 ([(⟨3, 1⟩ : Sample), (⟨4, 2⟩ : Sample), (⟨6, 4⟩ : Sample)])] := hst
  refine s_cons (op_assign v1 rfl ?_)
  refine s_nil ?_
  refine then_n ?_
  refine cE_seq ?_
  refine cE_region rfl ?_
  refine s_cons (op_move v1 rfl ?_)
  refine s_cons (op_call Try.call21 (evs_cons (v := v1) rfl (evs_cons (v := (.int .i64 1)) rfl evs_nil)) (c_Raw (w0 := w2) (v_l := v1) (l := [(⟨3, 1⟩ : Sample), (⟨4, 2⟩ : Sample), (⟨6, 4⟩ : Sample)]) (h_l := (hst.sl 0 rfl)) (k := 1) (hl := (by decide)) (hn := (by decide)) (k0 := (by omega)) (k1 := (by omega))) ?_)
  rintro _ w4 ⟨r3, rfl, hcall⟩
  refine ⟨_, rfl, ?_⟩
  have hst : St w0 w4 [rowT 26 aggE r3 ((rawA ([(⟨3, 1⟩ : Sample), (⟨4, 2⟩ : Sample), (⟨6, 4⟩ : Sample)]) 1).1), rowT 32 sampE v1 ([(⟨3, 1⟩ : Sample), (⟨4, 2⟩ : Sample), (⟨6, 4⟩ : Sample)])] := hst.call hcall
  refine s_cons (op_move (.tuple #[r3, (.int .i64 ((rawA ([(⟨3, 1⟩ : Sample), (⟨4, 2⟩ : Sample), (⟨6, 4⟩ : Sample)]) 1).2))]) rfl ?_)
  refine s_cons (op_extract r3 rfl rfl ?_)
  refine s_cons (op_extract (.int .i64 ((rawA ([(⟨3, 1⟩ : Sample), (⟨4, 2⟩ : Sample), (⟨6, 4⟩ : Sample)]) 1).2)) rfl rfl ?_)
  refine s_cons (op_assign r3 rfl ?_)
  refine s_cons (op_assign (.int .i64 ((rawA ([(⟨3, 1⟩ : Sample), (⟨4, 2⟩ : Sample), (⟨6, 4⟩ : Sample)]) 1).2)) rfl ?_)
  refine s_nil ?_
  refine then_n ?_
  refine cE_seq ?_
  refine cE_region rfl ?_
  refine s_cons (op_move r3 rfl ?_)
  refine s_cons (op_call Try.call22 (evs_cons (v := r3) rfl (evs_cons (v := (.int .i64 2)) rfl evs_nil)) (c_Down (w0 := w4) (v_l := r3) (l := (rawA ([(⟨3, 1⟩ : Sample), (⟨4, 2⟩ : Sample), (⟨6, 4⟩ : Sample)]) 1).1) (h_l := (hst.sl 0 rfl)) (k := 2) (hl := (by decide +kernel)) (hn := (by decide +kernel)) (k0 := (by omega)) (k1 := (by omega))) ?_)
  rintro _ w6 ⟨r5, rfl, hcall⟩
  refine ⟨_, rfl, ?_⟩
  have hst : St w0 w6 [rowT 26 aggE r5 ((downA ((rawA ([(⟨3, 1⟩ : Sample), (⟨4, 2⟩ : Sample), (⟨6, 4⟩ : Sample)]) 1).1) 2).1), rowT 26 aggE r3 ((rawA ([(⟨3, 1⟩ : Sample), (⟨4, 2⟩ : Sample), (⟨6, 4⟩ : Sample)]) 1).1), rowT 32 sampE v1 ([(⟨3, 1⟩ : Sample), (⟨4, 2⟩ : Sample), (⟨6, 4⟩ : Sample)])] := hst.call hcall
  refine s_cons (op_move (.tuple #[r5, (.int .i64 ((downA ((rawA ([(⟨3, 1⟩ : Sample), (⟨4, 2⟩ : Sample), (⟨6, 4⟩ : Sample)]) 1).1) 2).2))]) rfl ?_)
  refine s_cons (op_extract r5 rfl rfl ?_)
  refine s_cons (op_extract (.int .i64 ((downA ((rawA ([(⟨3, 1⟩ : Sample), (⟨4, 2⟩ : Sample), (⟨6, 4⟩ : Sample)]) 1).1) 2).2)) rfl rfl ?_)
  refine s_cons (op_assign r5 rfl ?_)
  refine s_cons (op_assign (.int .i64 ((downA ((rawA ([(⟨3, 1⟩ : Sample), (⟨4, 2⟩ : Sample), (⟨6, 4⟩ : Sample)]) 1).1) 2).2)) rfl ?_)
  refine s_nil ?_
  refine then_n ?_
  refine cE_seq ?_
  refine cE_region rfl ?_
  refine s_cons (op_move v1 rfl ?_)
  refine s_cons (op_call Try.call21 (evs_cons (v := v1) rfl (evs_cons (v := (.int .i64 0)) rfl evs_nil)) (c_Raw (w0 := w6) (v_l := v1) (l := [(⟨3, 1⟩ : Sample), (⟨4, 2⟩ : Sample), (⟨6, 4⟩ : Sample)]) (h_l := (hst.sl 2 rfl)) (k := 0) (hl := (by decide)) (hn := (by decide)) (k0 := (by omega)) (k1 := (by omega))) ?_)
  rintro _ w8 ⟨r7, rfl, hcall⟩
  refine ⟨_, rfl, ?_⟩
  have hst : St w0 w8 [rowT 26 aggE r7 ((rawA ([(⟨3, 1⟩ : Sample), (⟨4, 2⟩ : Sample), (⟨6, 4⟩ : Sample)]) 0).1), rowT 26 aggE r5 ((downA ((rawA ([(⟨3, 1⟩ : Sample), (⟨4, 2⟩ : Sample), (⟨6, 4⟩ : Sample)]) 1).1) 2).1), rowT 26 aggE r3 ((rawA ([(⟨3, 1⟩ : Sample), (⟨4, 2⟩ : Sample), (⟨6, 4⟩ : Sample)]) 1).1), rowT 32 sampE v1 ([(⟨3, 1⟩ : Sample), (⟨4, 2⟩ : Sample), (⟨6, 4⟩ : Sample)])] := hst.call hcall
  refine s_cons (op_move (.tuple #[r7, (.int .i64 ((rawA ([(⟨3, 1⟩ : Sample), (⟨4, 2⟩ : Sample), (⟨6, 4⟩ : Sample)]) 0).2))]) rfl ?_)
  refine s_cons (op_extract r7 rfl rfl ?_)
  refine s_cons (op_extract (.int .i64 ((rawA ([(⟨3, 1⟩ : Sample), (⟨4, 2⟩ : Sample), (⟨6, 4⟩ : Sample)]) 0).2)) rfl rfl ?_)
  refine s_cons (op_assign r7 rfl ?_)
  refine s_cons (op_assign (.int .i64 ((rawA ([(⟨3, 1⟩ : Sample), (⟨4, 2⟩ : Sample), (⟨6, 4⟩ : Sample)]) 0).2)) rfl ?_)
  refine s_nil ?_
  refine then_n ?_
  refine cE_seq ?_
  refine cE_region rfl ?_
  refine s_cons (op_move r3 rfl ?_)
  refine s_cons (op_call Try.call22 (evs_cons (v := r3) rfl (evs_cons (v := (.int .i64 3)) rfl evs_nil)) (c_Down (w0 := w8) (v_l := r3) (l := (rawA ([(⟨3, 1⟩ : Sample), (⟨4, 2⟩ : Sample), (⟨6, 4⟩ : Sample)]) 1).1) (h_l := (hst.sl 2 rfl)) (k := 3) (hl := (by decide +kernel)) (hn := (by decide +kernel)) (k0 := (by omega)) (k1 := (by omega))) ?_)
  rintro _ w10 ⟨r9, rfl, hcall⟩
  refine ⟨_, rfl, ?_⟩
  have hst : St w0 w10 [rowT 26 aggE r9 ((downA ((rawA ([(⟨3, 1⟩ : Sample), (⟨4, 2⟩ : Sample), (⟨6, 4⟩ : Sample)]) 1).1) 3).1), rowT 26 aggE r7 ((rawA ([(⟨3, 1⟩ : Sample), (⟨4, 2⟩ : Sample), (⟨6, 4⟩ : Sample)]) 0).1), rowT 26 aggE r5 ((downA ((rawA ([(⟨3, 1⟩ : Sample), (⟨4, 2⟩ : Sample), (⟨6, 4⟩ : Sample)]) 1).1) 2).1), rowT 26 aggE r3 ((rawA ([(⟨3, 1⟩ : Sample), (⟨4, 2⟩ : Sample), (⟨6, 4⟩ : Sample)]) 1).1), rowT 32 sampE v1 ([(⟨3, 1⟩ : Sample), (⟨4, 2⟩ : Sample), (⟨6, 4⟩ : Sample)])] := hst.call hcall
  refine s_cons (op_move (.tuple #[r9, (.int .i64 ((downA ((rawA ([(⟨3, 1⟩ : Sample), (⟨4, 2⟩ : Sample), (⟨6, 4⟩ : Sample)]) 1).1) 3).2))]) rfl ?_)
  refine s_cons (op_extract r9 rfl rfl ?_)
  refine s_cons (op_extract (.int .i64 ((downA ((rawA ([(⟨3, 1⟩ : Sample), (⟨4, 2⟩ : Sample), (⟨6, 4⟩ : Sample)]) 1).1) 3).2)) rfl rfl ?_)
  refine s_cons (op_assign r9 rfl ?_)
  refine s_cons (op_assign (.int .i64 ((downA ((rawA ([(⟨3, 1⟩ : Sample), (⟨4, 2⟩ : Sample), (⟨6, 4⟩ : Sample)]) 1).1) 3).2)) rfl ?_)
  refine s_nil ?_
  refine then_n ?_
  refine cE_seq ?_
  refine cE_seq ?_
  refine cE_region rfl ?_
  refine s_cons (op_move r3 rfl ?_)
  refine s_cons (op_len (E := aggE) (xs := (rawA ([(⟨3, 1⟩ : Sample), (⟨4, 2⟩ : Sample), (⟨6, 4⟩ : Sample)]) 1).1) Try.underlying41 rfl (hst.sl 3 rfl) ?_)
  refine s_cons (op_neq (k := .i64) (a := (((rawA ([(⟨3, 1⟩ : Sample), (⟨4, 2⟩ : Sample), (⟨6, 4⟩ : Sample)]) 1).1).length : Int)) (b := 2) rfl rfl ?_)
  refine s_cons (op_move (.bool (!decide ((((rawA ([(⟨3, 1⟩ : Sample), (⟨4, 2⟩ : Sample), (⟨6, 4⟩ : Sample)]) 1).1).length : Int) = 2))) rfl ?_)
  refine s_yes 37 rfl (congrArg Value.bool (congrArg (! ·) (show (decide ((((rawA ([(⟨3, 1⟩ : Sample), (⟨4, 2⟩ : Sample), (⟨6, 4⟩ : Sample)]) 1).1).length : Int) = 2)) = true from (by decide +kernel)))) (op_move r5 rfl ?_)
  refine s_yes 37 rfl (congrArg Value.bool (congrArg (! ·) (show (decide ((((rawA ([(⟨3, 1⟩ : Sample), (⟨4, 2⟩ : Sample), (⟨6, 4⟩ : Sample)]) 1).1).length : Int) = 2)) = true from (by decide +kernel)))) (op_len (E := aggE) (xs := (downA ((rawA ([(⟨3, 1⟩ : Sample), (⟨4, 2⟩ : Sample), (⟨6, 4⟩ : Sample)]) 1).1) 2).1) Try.underlying41 rfl (hst.sl 2 rfl) ?_)
  refine s_yes 37 rfl (congrArg Value.bool (congrArg (! ·) (show (decide ((((rawA ([(⟨3, 1⟩ : Sample), (⟨4, 2⟩ : Sample), (⟨6, 4⟩ : Sample)]) 1).1).length : Int) = 2)) = true from (by decide +kernel)))) (op_neq (k := .i64) (a := (((downA ((rawA ([(⟨3, 1⟩ : Sample), (⟨4, 2⟩ : Sample), (⟨6, 4⟩ : Sample)]) 1).1) 2).1).length : Int)) (b := 1) rfl rfl ?_)
  refine s_cons (op_pick_f (.bool (!decide ((((downA ((rawA ([(⟨3, 1⟩ : Sample), (⟨4, 2⟩ : Sample), (⟨6, 4⟩ : Sample)]) 1).1) 2).1).length : Int) = 1))) (congrArg Value.bool (congrArg (! ·) (show (decide ((((rawA ([(⟨3, 1⟩ : Sample), (⟨4, 2⟩ : Sample), (⟨6, 4⟩ : Sample)]) 1).1).length : Int) = 2)) = true from (by decide +kernel)))) rfl ?_)
  refine s_nil ?_
  refine then_n ?_
  refine cE_cond false (congrArg Value.bool (congrArg (! ·) (show (decide ((((downA ((rawA ([(⟨3, 1⟩ : Sample), (⟨4, 2⟩ : Sample), (⟨6, 4⟩ : Sample)]) 1).1) 2).1).length : Int) = 1)) = true from (by decide +kernel)))) (fun h => by cases h) (fun _ => ?_)
  refine cE_skip ?_
  refine then_n ?_
  refine cE_seq ?_
  refine cE_region rfl ?_
  refine s_cons (op_move (.int .i64 ((rawA ([(⟨3, 1⟩ : Sample), (⟨4, 2⟩ : Sample), (⟨6, 4⟩ : Sample)]) 1).2)) rfl ?_)
  refine s_cons (op_eql (k := .i64) (a := (rawA ([(⟨3, 1⟩ : Sample), (⟨4, 2⟩ : Sample), (⟨6, 4⟩ : Sample)]) 1).2) (b := 0) rfl rfl ?_)
  refine s_cons (op_move (.bool (decide (((rawA ([(⟨3, 1⟩ : Sample), (⟨4, 2⟩ : Sample), (⟨6, 4⟩ : Sample)]) 1).2) = 0))) rfl ?_)
  refine s_yes 44 rfl (congrArg Value.bool (show (decide (((rawA ([(⟨3, 1⟩ : Sample), (⟨4, 2⟩ : Sample), (⟨6, 4⟩ : Sample)]) 1).2) = 0)) = true from (by decide +kernel))) (op_move r3 rfl ?_)
  refine s_yes 44 rfl (congrArg Value.bool (show (decide (((rawA ([(⟨3, 1⟩ : Sample), (⟨4, 2⟩ : Sample), (⟨6, 4⟩ : Sample)]) 1).2) = 0)) = true from (by decide +kernel))) (op_indexAddrN (E := aggE) (xs := (rawA ([(⟨3, 1⟩ : Sample), (⟨4, 2⟩ : Sample), (⟨6, 4⟩ : Sample)]) 1).1) 0 Try.underlying41 Try.sizeOf26 rfl (hst.sl 3 rfl) rfl (by omega) (by decide +kernel) (fun a11 o12 p13 => ?_))
  refine s_yes 44 rfl (congrArg Value.bool (show (decide (((rawA ([(⟨3, 1⟩ : Sample), (⟨4, 2⟩ : Sample), (⟨6, 4⟩ : Sample)]) 1).2) = 0)) = true from (by decide +kernel))) (op_fieldAddr (s := 0) Try.underlying26 rfl rfl Try.sizeOf2 rfl ?_)
  refine s_yes 44 rfl (congrArg Value.bool (show (decide (((rawA ([(⟨3, 1⟩ : Sample), (⟨4, 2⟩ : Sample), (⟨6, 4⟩ : Sample)]) 1).2) = 0)) = true from (by decide +kernel))) (op_load1 (u := (.int .i64 ((((rawA ([(⟨3, 1⟩ : Sample), (⟨4, 2⟩ : Sample), (⟨6, 4⟩ : Sample)]) 1).1)[0]'(by decide +kernel)).Count))) Try.isAgg2 rfl (p13.drop 1) ?_)
  refine s_yes 44 rfl (congrArg Value.bool (show (decide (((rawA ([(⟨3, 1⟩ : Sample), (⟨4, 2⟩ : Sample), (⟨6, 4⟩ : Sample)]) 1).2) = 0)) = true from (by decide +kernel))) (op_eql (k := .i64) (a := (((rawA ([(⟨3, 1⟩ : Sample), (⟨4, 2⟩ : Sample), (⟨6, 4⟩ : Sample)]) 1).1)[0]'(by decide +kernel)).Count) (b := 2) rfl rfl ?_)
  refine s_cons (op_pick_t (.bool (decide (((((rawA ([(⟨3, 1⟩ : Sample), (⟨4, 2⟩ : Sample), (⟨6, 4⟩ : Sample)]) 1).1)[0]'(by decide +kernel)).Count) = 2))) (congrArg Value.bool (show (decide (((rawA ([(⟨3, 1⟩ : Sample), (⟨4, 2⟩ : Sample), (⟨6, 4⟩ : Sample)]) 1).2) = 0)) = true from (by decide +kernel))) rfl ?_)
  refine s_cons (op_move (.bool (decide (((((rawA ([(⟨3, 1⟩ : Sample), (⟨4, 2⟩ : Sample), (⟨6, 4⟩ : Sample)]) 1).1)[0]'(by decide +kernel)).Count) = 2))) rfl ?_)
  refine s_yes 51 rfl (congrArg Value.bool (show (decide (((((rawA ([(⟨3, 1⟩ : Sample), (⟨4, 2⟩ : Sample), (⟨6, 4⟩ : Sample)]) 1).1)[0]'(by decide +kernel)).Count) = 2)) = true from (by decide +kernel))) (op_move r3 rfl ?_)
  refine s_yes 51 rfl (congrArg Value.bool (show (decide (((((rawA ([(⟨3, 1⟩ : Sample), (⟨4, 2⟩ : Sample), (⟨6, 4⟩ : Sample)]) 1).1)[0]'(by decide +kernel)).Count) = 2)) = true from (by decide +kernel))) (op_indexAddrN (E := aggE) (xs := (rawA ([(⟨3, 1⟩ : Sample), (⟨4, 2⟩ : Sample), (⟨6, 4⟩ : Sample)]) 1).1) 1 Try.underlying41 Try.sizeOf26 rfl (hst.sl 3 rfl) rfl (by omega) (by decide +kernel) (fun a14 o15 p16 => ?_))
  refine s_yes 51 rfl (congrArg Value.bool (show (decide (((((rawA ([(⟨3, 1⟩ : Sample), (⟨4, 2⟩ : Sample), (⟨6, 4⟩ : Sample)]) 1).1)[0]'(by decide +kernel)).Count) = 2)) = true from (by decide +kernel))) (op_fieldAddr (s := 0) Try.underlying26 rfl rfl Try.sizeOf2 rfl ?_)
  refine s_yes 51 rfl (congrArg Value.bool (show (decide (((((rawA ([(⟨3, 1⟩ : Sample), (⟨4, 2⟩ : Sample), (⟨6, 4⟩ : Sample)]) 1).1)[0]'(by decide +kernel)).Count) = 2)) = true from (by decide +kernel))) (op_load1 (u := (.int .i64 ((((rawA ([(⟨3, 1⟩ : Sample), (⟨4, 2⟩ : Sample), (⟨6, 4⟩ : Sample)]) 1).1)[1]'(by decide +kernel)).From))) Try.isAgg2 rfl p16 ?_)
  refine s_yes 51 rfl (congrArg Value.bool (show (decide (((((rawA ([(⟨3, 1⟩ : Sample), (⟨4, 2⟩ : Sample), (⟨6, 4⟩ : Sample)]) 1).1)[0]'(by decide +kernel)).Count) = 2)) = true from (by decide +kernel))) (op_eql (k := .i64) (a := (((rawA ([(⟨3, 1⟩ : Sample), (⟨4, 2⟩ : Sample), (⟨6, 4⟩ : Sample)]) 1).1)[1]'(by decide +kernel)).From) (b := 5) rfl rfl ?_)
  refine s_cons (op_pick_t (.bool (decide (((((rawA ([(⟨3, 1⟩ : Sample), (⟨4, 2⟩ : Sample), (⟨6, 4⟩ : Sample)]) 1).1)[1]'(by decide +kernel)).From) = 5))) (congrArg Value.bool (show (decide (((((rawA ([(⟨3, 1⟩ : Sample), (⟨4, 2⟩ : Sample), (⟨6, 4⟩ : Sample)]) 1).1)[0]'(by decide +kernel)).Count) = 2)) = true from (by decide +kernel))) rfl ?_)
  refine s_cons (op_move (.bool (decide (((((rawA ([(⟨3, 1⟩ : Sample), (⟨4, 2⟩ : Sample), (⟨6, 4⟩ : Sample)]) 1).1)[1]'(by decide +kernel)).From) = 5))) rfl ?_)
  refine s_yes 58 rfl (congrArg Value.bool (show (decide (((((rawA ([(⟨3, 1⟩ : Sample), (⟨4, 2⟩ : Sample), (⟨6, 4⟩ : Sample)]) 1).1)[1]'(by decide +kernel)).From) = 5)) = true from (by decide +kernel))) (op_move (.int .i64 ((downA ((rawA ([(⟨3, 1⟩ : Sample), (⟨4, 2⟩ : Sample), (⟨6, 4⟩ : Sample)]) 1).1) 2).2)) rfl ?_)
  refine s_yes 58 rfl (congrArg Value.bool (show (decide (((((rawA ([(⟨3, 1⟩ : Sample), (⟨4, 2⟩ : Sample), (⟨6, 4⟩ : Sample)]) 1).1)[1]'(by decide +kernel)).From) = 5)) = true from (by decide +kernel))) (op_eql (k := .i64) (a := (downA ((rawA ([(⟨3, 1⟩ : Sample), (⟨4, 2⟩ : Sample), (⟨6, 4⟩ : Sample)]) 1).1) 2).2) (b := 0) rfl rfl ?_)
  refine s_cons (op_pick_t (.bool (decide (((downA ((rawA ([(⟨3, 1⟩ : Sample), (⟨4, 2⟩ : Sample), (⟨6, 4⟩ : Sample)]) 1).1) 2).2) = 0))) (congrArg Value.bool (show (decide (((((rawA ([(⟨3, 1⟩ : Sample), (⟨4, 2⟩ : Sample), (⟨6, 4⟩ : Sample)]) 1).1)[1]'(by decide +kernel)).From) = 5)) = true from (by decide +kernel))) rfl ?_)
  refine s_cons (op_move (.bool (decide (((downA ((rawA ([(⟨3, 1⟩ : Sample), (⟨4, 2⟩ : Sample), (⟨6, 4⟩ : Sample)]) 1).1) 2).2) = 0))) rfl ?_)
  refine s_yes 62 rfl (congrArg Value.bool (show (decide (((downA ((rawA ([(⟨3, 1⟩ : Sample), (⟨4, 2⟩ : Sample), (⟨6, 4⟩ : Sample)]) 1).1) 2).2) = 0)) = true from (by decide +kernel))) (op_move r5 rfl ?_)
  refine s_yes 62 rfl (congrArg Value.bool (show (decide (((downA ((rawA ([(⟨3, 1⟩ : Sample), (⟨4, 2⟩ : Sample), (⟨6, 4⟩ : Sample)]) 1).1) 2).2) = 0)) = true from (by decide +kernel))) (op_indexAddrN (E := aggE) (xs := (downA ((rawA ([(⟨3, 1⟩ : Sample), (⟨4, 2⟩ : Sample), (⟨6, 4⟩ : Sample)]) 1).1) 2).1) 0 Try.underlying41 Try.sizeOf26 rfl (hst.sl 2 rfl) rfl (by omega) (by decide +kernel) (fun a17 o18 p19 => ?_))
  refine s_yes 62 rfl (congrArg Value.bool (show (decide (((downA ((rawA ([(⟨3, 1⟩ : Sample), (⟨4, 2⟩ : Sample), (⟨6, 4⟩ : Sample)]) 1).1) 2).2) = 0)) = true from (by decide +kernel))) (op_fieldAddr (s := 0) Try.underlying26 rfl rfl Try.sizeOf2 rfl ?_)
  refine s_yes 62 rfl (congrArg Value.bool (show (decide (((downA ((rawA ([(⟨3, 1⟩ : Sample), (⟨4, 2⟩ : Sample), (⟨6, 4⟩ : Sample)]) 1).1) 2).2) = 0)) = true from (by decide +kernel))) (op_load1 (u := (.int .i64 ((((downA ((rawA ([(⟨3, 1⟩ : Sample), (⟨4, 2⟩ : Sample), (⟨6, 4⟩ : Sample)]) 1).1) 2).1)[0]'(by decide +kernel)).Count))) Try.isAgg2 rfl (p19.drop 1) ?_)
  refine s_yes 62 rfl (congrArg Value.bool (show (decide (((downA ((rawA ([(⟨3, 1⟩ : Sample), (⟨4, 2⟩ : Sample), (⟨6, 4⟩ : Sample)]) 1).1) 2).2) = 0)) = true from (by decide +kernel))) (op_eql (k := .i64) (a := (((downA ((rawA ([(⟨3, 1⟩ : Sample), (⟨4, 2⟩ : Sample), (⟨6, 4⟩ : Sample)]) 1).1) 2).1)[0]'(by decide +kernel)).Count) (b := 3) rfl rfl ?_)
  refine s_cons (op_pick_t (.bool (decide (((((downA ((rawA ([(⟨3, 1⟩ : Sample), (⟨4, 2⟩ : Sample), (⟨6, 4⟩ : Sample)]) 1).1) 2).1)[0]'(by decide +kernel)).Count) = 3))) (congrArg Value.bool (show (decide (((downA ((rawA ([(⟨3, 1⟩ : Sample), (⟨4, 2⟩ : Sample), (⟨6, 4⟩ : Sample)]) 1).1) 2).2) = 0)) = true from (by decide +kernel))) rfl ?_)
  refine s_cons (op_move (.bool (decide (((((downA ((rawA ([(⟨3, 1⟩ : Sample), (⟨4, 2⟩ : Sample), (⟨6, 4⟩ : Sample)]) 1).1) 2).1)[0]'(by decide +kernel)).Count) = 3))) rfl ?_)
  refine s_yes 69 rfl (congrArg Value.bool (show (decide (((((downA ((rawA ([(⟨3, 1⟩ : Sample), (⟨4, 2⟩ : Sample), (⟨6, 4⟩ : Sample)]) 1).1) 2).1)[0]'(by decide +kernel)).Count) = 3)) = true from (by decide +kernel))) (op_move r5 rfl ?_)
  refine s_yes 69 rfl (congrArg Value.bool (show (decide (((((downA ((rawA ([(⟨3, 1⟩ : Sample), (⟨4, 2⟩ : Sample), (⟨6, 4⟩ : Sample)]) 1).1) 2).1)[0]'(by decide +kernel)).Count) = 3)) = true from (by decide +kernel))) (op_indexAddrN (E := aggE) (xs := (downA ((rawA ([(⟨3, 1⟩ : Sample), (⟨4, 2⟩ : Sample), (⟨6, 4⟩ : Sample)]) 1).1) 2).1) 0 Try.underlying41 Try.sizeOf26 rfl (hst.sl 2 rfl) rfl (by omega) (by decide +kernel) (fun a20 o21 p22 => ?_))
  refine s_yes 69 rfl (congrArg Value.bool (show (decide (((((downA ((rawA ([(⟨3, 1⟩ : Sample), (⟨4, 2⟩ : Sample), (⟨6, 4⟩ : Sample)]) 1).1) 2).1)[0]'(by decide +kernel)).Count) = 3)) = true from (by decide +kernel))) (op_fieldAddr (s := 0) Try.underlying26 rfl rfl Try.sizeOf2 rfl ?_)
  refine s_yes 69 rfl (congrArg Value.bool (show (decide (((((downA ((rawA ([(⟨3, 1⟩ : Sample), (⟨4, 2⟩ : Sample), (⟨6, 4⟩ : Sample)]) 1).1) 2).1)[0]'(by decide +kernel)).Count) = 3)) = true from (by decide +kernel))) (op_load1 (u := (.int .i64 ((((downA ((rawA ([(⟨3, 1⟩ : Sample), (⟨4, 2⟩ : Sample), (⟨6, 4⟩ : Sample)]) 1).1) 2).1)[0]'(by decide +kernel)).Sum))) Try.isAgg2 rfl (p22.drop 2) ?_)
  refine s_yes 69 rfl (congrArg Value.bool (show (decide (((((downA ((rawA ([(⟨3, 1⟩ : Sample), (⟨4, 2⟩ : Sample), (⟨6, 4⟩ : Sample)]) 1).1) 2).1)[0]'(by decide +kernel)).Count) = 3)) = true from (by decide +kernel))) (op_eql (k := .i64) (a := (((downA ((rawA ([(⟨3, 1⟩ : Sample), (⟨4, 2⟩ : Sample), (⟨6, 4⟩ : Sample)]) 1).1) 2).1)[0]'(by decide +kernel)).Sum) (b := 7) rfl rfl ?_)
  refine s_cons (op_pick_t (.bool (decide (((((downA ((rawA ([(⟨3, 1⟩ : Sample), (⟨4, 2⟩ : Sample), (⟨6, 4⟩ : Sample)]) 1).1) 2).1)[0]'(by decide +kernel)).Sum) = 7))) (congrArg Value.bool (show (decide (((((downA ((rawA ([(⟨3, 1⟩ : Sample), (⟨4, 2⟩ : Sample), (⟨6, 4⟩ : Sample)]) 1).1) 2).1)[0]'(by decide +kernel)).Count) = 3)) = true from (by decide +kernel))) rfl ?_)
  refine s_cons (op_move (.bool (decide (((((downA ((rawA ([(⟨3, 1⟩ : Sample), (⟨4, 2⟩ : Sample), (⟨6, 4⟩ : Sample)]) 1).1) 2).1)[0]'(by decide +kernel)).Sum) = 7))) rfl ?_)
  refine s_yes 76 rfl (congrArg Value.bool (show (decide (((((downA ((rawA ([(⟨3, 1⟩ : Sample), (⟨4, 2⟩ : Sample), (⟨6, 4⟩ : Sample)]) 1).1) 2).1)[0]'(by decide +kernel)).Sum) = 7)) = true from (by decide +kernel))) (op_move (.int .i64 ((rawA ([(⟨3, 1⟩ : Sample), (⟨4, 2⟩ : Sample), (⟨6, 4⟩ : Sample)]) 0).2)) rfl ?_)
  refine s_yes 76 rfl (congrArg Value.bool (show (decide (((((downA ((rawA ([(⟨3, 1⟩ : Sample), (⟨4, 2⟩ : Sample), (⟨6, 4⟩ : Sample)]) 1).1) 2).1)[0]'(by decide +kernel)).Sum) = 7)) = true from (by decide +kernel))) (op_eql (k := .i64) (a := (rawA ([(⟨3, 1⟩ : Sample), (⟨4, 2⟩ : Sample), (⟨6, 4⟩ : Sample)]) 0).2) (b := 1) rfl rfl ?_)
  refine s_cons (op_pick_t (.bool (decide (((rawA ([(⟨3, 1⟩ : Sample), (⟨4, 2⟩ : Sample), (⟨6, 4⟩ : Sample)]) 0).2) = 1))) (congrArg Value.bool (show (decide (((((downA ((rawA ([(⟨3, 1⟩ : Sample), (⟨4, 2⟩ : Sample), (⟨6, 4⟩ : Sample)]) 1).1) 2).1)[0]'(by decide +kernel)).Sum) = 7)) = true from (by decide +kernel))) rfl ?_)
  refine s_cons (op_move (.bool (decide (((rawA ([(⟨3, 1⟩ : Sample), (⟨4, 2⟩ : Sample), (⟨6, 4⟩ : Sample)]) 0).2) = 1))) rfl ?_)
  refine s_yes 80 rfl (congrArg Value.bool (show (decide (((rawA ([(⟨3, 1⟩ : Sample), (⟨4, 2⟩ : Sample), (⟨6, 4⟩ : Sample)]) 0).2) = 1)) = true from (by decide +kernel))) (op_move (.int .i64 ((downA ((rawA ([(⟨3, 1⟩ : Sample), (⟨4, 2⟩ : Sample), (⟨6, 4⟩ : Sample)]) 1).1) 3).2)) rfl ?_)
  refine s_yes 80 rfl (congrArg Value.bool (show (decide (((rawA ([(⟨3, 1⟩ : Sample), (⟨4, 2⟩ : Sample), (⟨6, 4⟩ : Sample)]) 0).2) = 1)) = true from (by decide +kernel))) (op_eql (k := .i64) (a := (downA ((rawA ([(⟨3, 1⟩ : Sample), (⟨4, 2⟩ : Sample), (⟨6, 4⟩ : Sample)]) 1).1) 3).2) (b := 1) rfl rfl ?_)
  refine s_cons (op_pick_t (.bool (decide (((downA ((rawA ([(⟨3, 1⟩ : Sample), (⟨4, 2⟩ : Sample), (⟨6, 4⟩ : Sample)]) 1).1) 3).2) = 1))) (congrArg Value.bool (show (decide (((rawA ([(⟨3, 1⟩ : Sample), (⟨4, 2⟩ : Sample), (⟨6, 4⟩ : Sample)]) 0).2) = 1)) = true from (by decide +kernel))) rfl ?_)
  refine s_cons (op_move (.bool (decide (((downA ((rawA ([(⟨3, 1⟩ : Sample), (⟨4, 2⟩ : Sample), (⟨6, 4⟩ : Sample)]) 1).1) 3).2) = 1))) rfl ?_)
  refine s_yes 84 rfl (congrArg Value.bool (show (decide (((downA ((rawA ([(⟨3, 1⟩ : Sample), (⟨4, 2⟩ : Sample), (⟨6, 4⟩ : Sample)]) 1).1) 3).2) = 1)) = true from (by decide +kernel))) (op_call Try.call28 (evs_cons (v := (.int .i64 3)) rfl evs_nil) (c_Width (w0 := w10) (k := 3) (k0 := (by omega)) (k1 := (by omega))) ?_)
  rintro _ w23 ⟨rfl, hcall⟩
  refine ⟨_, rfl, ?_⟩
  have hst : St w0 w23 [rowT 26 aggE r9 ((downA ((rawA ([(⟨3, 1⟩ : Sample), (⟨4, 2⟩ : Sample), (⟨6, 4⟩ : Sample)]) 1).1) 3).1), rowT 26 aggE r7 ((rawA ([(⟨3, 1⟩ : Sample), (⟨4, 2⟩ : Sample), (⟨6, 4⟩ : Sample)]) 0).1), rowT 26 aggE r5 ((downA ((rawA ([(⟨3, 1⟩ : Sample), (⟨4, 2⟩ : Sample), (⟨6, 4⟩ : Sample)]) 1).1) 2).1), rowT 26 aggE r3 ((rawA ([(⟨3, 1⟩ : Sample), (⟨4, 2⟩ : Sample), (⟨6, 4⟩ : Sample)]) 1).1), rowT 32 sampE v1 ([(⟨3, 1⟩ : Sample), (⟨4, 2⟩ : Sample), (⟨6, 4⟩ : Sample)])] := hst.call hcall
  refine s_yes 84 rfl (congrArg Value.bool (show (decide (((downA ((rawA ([(⟨3, 1⟩ : Sample), (⟨4, 2⟩ : Sample), (⟨6, 4⟩ : Sample)]) 1).1) 3).2) = 1)) = true from (by decide +kernel))) (op_eql (k := .i64) (a := (widthA 3)) (b := 1440) rfl rfl ?_)
  refine s_cons (op_pick_t (.bool (decide ((widthA 3) = 1440))) (congrArg Value.bool (show (decide (((downA ((rawA ([(⟨3, 1⟩ : Sample), (⟨4, 2⟩ : Sample), (⟨6, 4⟩ : Sample)]) 1).1) 3).2) = 1)) = true from (by decide +kernel))) rfl ?_)
  refine s_cons (op_move (.bool (decide ((widthA 3) = 1440))) rfl ?_)
  refine s_yes 88 rfl (congrArg Value.bool (show (decide ((widthA 3) = 1440)) = true from (by decide +kernel))) (op_call Try.call28 (evs_cons (v := (.int .i64 4)) rfl evs_nil) (c_Width (w0 := w23) (k := 4) (k0 := (by omega)) (k1 := (by omega))) ?_)
  rintro _ w24 ⟨rfl, hcall⟩
  refine ⟨_, rfl, ?_⟩
  have hst : St w0 w24 [rowT 26 aggE r9 ((downA ((rawA ([(⟨3, 1⟩ : Sample), (⟨4, 2⟩ : Sample), (⟨6, 4⟩ : Sample)]) 1).1) 3).1), rowT 26 aggE r7 ((rawA ([(⟨3, 1⟩ : Sample), (⟨4, 2⟩ : Sample), (⟨6, 4⟩ : Sample)]) 0).1), rowT 26 aggE r5 ((downA ((rawA ([(⟨3, 1⟩ : Sample), (⟨4, 2⟩ : Sample), (⟨6, 4⟩ : Sample)]) 1).1) 2).1), rowT 26 aggE r3 ((rawA ([(⟨3, 1⟩ : Sample), (⟨4, 2⟩ : Sample), (⟨6, 4⟩ : Sample)]) 1).1), rowT 32 sampE v1 ([(⟨3, 1⟩ : Sample), (⟨4, 2⟩ : Sample), (⟨6, 4⟩ : Sample)])] := hst.call hcall
  refine s_yes 88 rfl (congrArg Value.bool (show (decide ((widthA 3) = 1440)) = true from (by decide +kernel))) (op_eql (k := .i64) (a := (widthA 4)) (b := 0) rfl rfl ?_)
  refine s_cons (op_pick_t (.bool (decide ((widthA 4) = 0))) (congrArg Value.bool (show (decide ((widthA 3) = 1440)) = true from (by decide +kernel))) rfl ?_)
  refine s_cons (op_move (.bool (decide ((widthA 4) = 0))) rfl ?_)
  refine s_yes 92 rfl (congrArg Value.bool (show (decide ((widthA 4) = 0)) = true from (by decide +kernel))) (op_call Try.call30 (evs_cons (v := (.int .i64 7)) rfl (evs_cons (v := (.int .i64 1)) rfl evs_nil)) (c_Floor (w0 := w24) (t := 7) (k := 1) (t0 := (by omega)) (k0 := (by omega)) (t1 := (by omega)) (k1 := (by omega))) ?_)
  rintro _ w25 ⟨rfl, hcall⟩
  refine ⟨_, rfl, ?_⟩
  have hst : St w0 w25 [rowT 26 aggE r9 ((downA ((rawA ([(⟨3, 1⟩ : Sample), (⟨4, 2⟩ : Sample), (⟨6, 4⟩ : Sample)]) 1).1) 3).1), rowT 26 aggE r7 ((rawA ([(⟨3, 1⟩ : Sample), (⟨4, 2⟩ : Sample), (⟨6, 4⟩ : Sample)]) 0).1), rowT 26 aggE r5 ((downA ((rawA ([(⟨3, 1⟩ : Sample), (⟨4, 2⟩ : Sample), (⟨6, 4⟩ : Sample)]) 1).1) 2).1), rowT 26 aggE r3 ((rawA ([(⟨3, 1⟩ : Sample), (⟨4, 2⟩ : Sample), (⟨6, 4⟩ : Sample)]) 1).1), rowT 32 sampE v1 ([(⟨3, 1⟩ : Sample), (⟨4, 2⟩ : Sample), (⟨6, 4⟩ : Sample)])] := hst.call hcall
  refine s_yes 92 rfl (congrArg Value.bool (show (decide ((widthA 4) = 0)) = true from (by decide +kernel))) (op_eql (k := .i64) (a := (floorA 7 1)) (b := 5) rfl rfl ?_)
  refine s_cons (op_pick_t (.bool (decide ((floorA 7 1) = 5))) (congrArg Value.bool (show (decide ((widthA 4) = 0)) = true from (by decide +kernel))) rfl ?_)
  refine s_cons (op_move (.bool (decide ((floorA 7 1) = 5))) rfl ?_)
  refine s_yes 96 rfl (congrArg Value.bool (show (decide ((floorA 7 1) = 5)) = true from (by decide +kernel))) (op_call Try.call30 (evs_cons (v := (.int .i64 (-1))) rfl (evs_cons (v := (.int .i64 1)) rfl evs_nil)) (c_Floor (w0 := w25) (t := (-1)) (k := 1) (t0 := (by omega)) (k0 := (by omega)) (t1 := (by omega)) (k1 := (by omega))) ?_)
  rintro _ w26 ⟨rfl, hcall⟩
  refine ⟨_, rfl, ?_⟩
  have hst : St w0 w26 [rowT 26 aggE r9 ((downA ((rawA ([(⟨3, 1⟩ : Sample), (⟨4, 2⟩ : Sample), (⟨6, 4⟩ : Sample)]) 1).1) 3).1), rowT 26 aggE r7 ((rawA ([(⟨3, 1⟩ : Sample), (⟨4, 2⟩ : Sample), (⟨6, 4⟩ : Sample)]) 0).1), rowT 26 aggE r5 ((downA ((rawA ([(⟨3, 1⟩ : Sample), (⟨4, 2⟩ : Sample), (⟨6, 4⟩ : Sample)]) 1).1) 2).1), rowT 26 aggE r3 ((rawA ([(⟨3, 1⟩ : Sample), (⟨4, 2⟩ : Sample), (⟨6, 4⟩ : Sample)]) 1).1), rowT 32 sampE v1 ([(⟨3, 1⟩ : Sample), (⟨4, 2⟩ : Sample), (⟨6, 4⟩ : Sample)])] := hst.call hcall
  refine s_yes 96 rfl (congrArg Value.bool (show (decide ((floorA 7 1) = 5)) = true from (by decide +kernel))) (op_eql (k := .i64) (a := (floorA (-1) 1)) (b := (-1)) rfl rfl ?_)
  refine s_cons (op_pick_t (.bool (decide ((floorA (-1) 1) = (-1)))) (congrArg Value.bool (show (decide ((floorA 7 1) = 5)) = true from (by decide +kernel))) rfl ?_)
  refine s_cons (op_move (.bool (decide ((floorA (-1) 1) = (-1)))) rfl ?_)
  refine s_yes 100 rfl (congrArg Value.bool (show (decide ((floorA (-1) 1) = (-1))) = true from (by decide +kernel))) (op_move v1 rfl ?_)
  refine s_yes 100 rfl (congrArg Value.bool (show (decide ((floorA (-1) 1) = (-1))) = true from (by decide +kernel))) (op_call Try.call24 (evs_cons (v := v1) rfl evs_nil) (c_Rising (w0 := w26) (v_l := v1) (l := [(⟨3, 1⟩ : Sample), (⟨4, 2⟩ : Sample), (⟨6, 4⟩ : Sample)]) (h_l := (hst.sl 4 rfl))) ?_)
  rintro _ w27 ⟨rfl, hcall⟩
  refine ⟨_, rfl, ?_⟩
  have hst : St w0 w27 [rowT 26 aggE r9 ((downA ((rawA ([(⟨3, 1⟩ : Sample), (⟨4, 2⟩ : Sample), (⟨6, 4⟩ : Sample)]) 1).1) 3).1), rowT 26 aggE r7 ((rawA ([(⟨3, 1⟩ : Sample), (⟨4, 2⟩ : Sample), (⟨6, 4⟩ : Sample)]) 0).1), rowT 26 aggE r5 ((downA ((rawA ([(⟨3, 1⟩ : Sample), (⟨4, 2⟩ : Sample), (⟨6, 4⟩ : Sample)]) 1).1) 2).1), rowT 26 aggE r3 ((rawA ([(⟨3, 1⟩ : Sample), (⟨4, 2⟩ : Sample), (⟨6, 4⟩ : Sample)]) 1).1), rowT 32 sampE v1 ([(⟨3, 1⟩ : Sample), (⟨4, 2⟩ : Sample), (⟨6, 4⟩ : Sample)])] := hst.call hcall
  refine s_cons (op_pick_t (.bool (risingA ([(⟨3, 1⟩ : Sample), (⟨4, 2⟩ : Sample), (⟨6, 4⟩ : Sample)]))) (congrArg Value.bool (show (decide ((floorA (-1) 1) = (-1))) = true from (by decide +kernel))) rfl ?_)
  refine s_cons (op_move (.bool (risingA ([(⟨3, 1⟩ : Sample), (⟨4, 2⟩ : Sample), (⟨6, 4⟩ : Sample)]))) rfl ?_)
  refine s_yes 104 rfl (congrArg Value.bool (show (risingA ([(⟨3, 1⟩ : Sample), (⟨4, 2⟩ : Sample), (⟨6, 4⟩ : Sample)])) = true from (by decide +kernel))) (op_build (r := (.agg #[(.int .i64 3), (.int .i64 0)])) (evp_cons (v := (.int .i64 3)) rfl evp_nil) (by simp [Instr.build, Instr.fill, Value.cells, Try.runUnderlying32, Try.zeroValue32]) ?_)
  refine s_yes 104 rfl (congrArg Value.bool (show (risingA ([(⟨3, 1⟩ : Sample), (⟨4, 2⟩ : Sample), (⟨6, 4⟩ : Sample)])) = true from (by decide +kernel))) (op_build (r := (.agg #[(.int .i64 3), (.int .i64 0)])) (evp_cons (v := (.int .i64 3)) rfl evp_nil) (by simp [Instr.build, Instr.fill, Value.cells, Try.runUnderlying32, Try.zeroValue32]) ?_)
  refine s_yes 104 rfl (congrArg Value.bool (show (risingA ([(⟨3, 1⟩ : Sample), (⟨4, 2⟩ : Sample), (⟨6, 4⟩ : Sample)])) = true from (by decide +kernel))) (op_buildSlice (E := sampE) [(⟨3, 0⟩ : Sample), (⟨3, 0⟩ : Sample)] hst Try.underlying22 Try.sizeOf32 Try.zeroValue32 (evp_cons (v := (.agg #[(.int .i64 3), (.int .i64 0)])) rfl (evp_cons (v := (.agg #[(.int .i64 3), (.int .i64 0)])) rfl evp_nil)) (parts_cons rfl (parts_cons rfl parts_nil)) rfl (by decide) (fun v28 w29 hst => ?_))
  replace hst : St w0 w29 [rowT 32 sampE v28 ([(⟨3, 0⟩ : Sample), (⟨3, 0⟩ : Sample)]), rowT 26 aggE r9 ((downA ((rawA ([(⟨3, 1⟩ : Sample), (⟨4, 2⟩ : Sample), (⟨6, 4⟩ : Sample)]) 1).1) 3).1), rowT 26 aggE r7 ((rawA ([(⟨3, 1⟩ : Sample), (⟨4, 2⟩ : Sample), (⟨6, 4⟩ : Sample)]) 0).1), rowT 26 aggE r5 ((downA ((rawA ([(⟨3, 1⟩ : Sample), (⟨4, 2⟩ : Sample), (⟨6, 4⟩ : Sample)]) 1).1) 2).1), rowT 26 aggE r3 ((rawA ([(⟨3, 1⟩ : Sample), (⟨4, 2⟩ : Sample), (⟨6, 4⟩ : Sample)]) 1).1), rowT 32 sampE v1 ([(⟨3, 1⟩ : Sample), (⟨4, 2⟩ : Sample), (⟨6, 4⟩ : Sample)])] := hst
  refine s_yes 104 rfl (congrArg Value.bool (show (risingA ([(⟨3, 1⟩ : Sample), (⟨4, 2⟩ : Sample), (⟨6, 4⟩ : Sample)])) = true from (by decide +kernel))) (op_call Try.call24 (evs_cons (v := v28) rfl evs_nil) (c_Rising (w0 := w29) (v_l := v28) (l := [(⟨3, 0⟩ : Sample), (⟨3, 0⟩ : Sample)]) (h_l := (hst.sl 0 rfl))) ?_)
  rintro _ w30 ⟨rfl, hcall⟩
  refine ⟨_, rfl, ?_⟩
  have hst : St w0 w30 [rowT 32 sampE v28 ([(⟨3, 0⟩ : Sample), (⟨3, 0⟩ : Sample)]), rowT 26 aggE r9 ((downA ((rawA ([(⟨3, 1⟩ : Sample), (⟨4, 2⟩ : Sample), (⟨6, 4⟩ : Sample)]) 1).1) 3).1), rowT 26 aggE r7 ((rawA ([(⟨3, 1⟩ : Sample), (⟨4, 2⟩ : Sample), (⟨6, 4⟩ : Sample)]) 0).1), rowT 26 aggE r5 ((downA ((rawA ([(⟨3, 1⟩ : Sample), (⟨4, 2⟩ : Sample), (⟨6, 4⟩ : Sample)]) 1).1) 2).1), rowT 26 aggE r3 ((rawA ([(⟨3, 1⟩ : Sample), (⟨4, 2⟩ : Sample), (⟨6, 4⟩ : Sample)]) 1).1), rowT 32 sampE v1 ([(⟨3, 1⟩ : Sample), (⟨4, 2⟩ : Sample), (⟨6, 4⟩ : Sample)])] := hst.call hcall
  refine s_yes 104 rfl (congrArg Value.bool (show (risingA ([(⟨3, 1⟩ : Sample), (⟨4, 2⟩ : Sample), (⟨6, 4⟩ : Sample)])) = true from (by decide +kernel))) (op_not (b := risingA ([(⟨3, 0⟩ : Sample), (⟨3, 0⟩ : Sample)])) rfl ?_)
  refine s_cons (op_pick_t (.bool (!(risingA ([(⟨3, 0⟩ : Sample), (⟨3, 0⟩ : Sample)])))) (congrArg Value.bool (show (risingA ([(⟨3, 1⟩ : Sample), (⟨4, 2⟩ : Sample), (⟨6, 4⟩ : Sample)])) = true from (by decide +kernel))) rfl ?_)
  refine s_cons (op_move (.bool (!(risingA ([(⟨3, 0⟩ : Sample), (⟨3, 0⟩ : Sample)])))) rfl ?_)
  refine s_yes 111 rfl (congrArg Value.bool (congrArg (! ·) (show (risingA ([(⟨3, 0⟩ : Sample), (⟨3, 0⟩ : Sample)])) = false from (by decide +kernel)))) (op_move r3 rfl ?_)
  refine s_yes 111 rfl (congrArg Value.bool (congrArg (! ·) (show (risingA ([(⟨3, 0⟩ : Sample), (⟨3, 0⟩ : Sample)])) = false from (by decide +kernel)))) (op_call Try.call23 (evs_cons (v := r3) rfl (evs_cons (v := (.int .i64 1)) rfl evs_nil)) (c_Aligned (w0 := w30) (v_l := r3) (l := (rawA ([(⟨3, 1⟩ : Sample), (⟨4, 2⟩ : Sample), (⟨6, 4⟩ : Sample)]) 1).1) (h_l := (hst.sl 4 rfl)) (k := 1) (hl := (by decide +kernel)) (k0 := (by omega)) (k1 := (by omega))) ?_)
  rintro _ w31 ⟨rfl, hcall⟩
  refine ⟨_, rfl, ?_⟩
  have hst : St w0 w31 [rowT 32 sampE v28 ([(⟨3, 0⟩ : Sample), (⟨3, 0⟩ : Sample)]), rowT 26 aggE r9 ((downA ((rawA ([(⟨3, 1⟩ : Sample), (⟨4, 2⟩ : Sample), (⟨6, 4⟩ : Sample)]) 1).1) 3).1), rowT 26 aggE r7 ((rawA ([(⟨3, 1⟩ : Sample), (⟨4, 2⟩ : Sample), (⟨6, 4⟩ : Sample)]) 0).1), rowT 26 aggE r5 ((downA ((rawA ([(⟨3, 1⟩ : Sample), (⟨4, 2⟩ : Sample), (⟨6, 4⟩ : Sample)]) 1).1) 2).1), rowT 26 aggE r3 ((rawA ([(⟨3, 1⟩ : Sample), (⟨4, 2⟩ : Sample), (⟨6, 4⟩ : Sample)]) 1).1), rowT 32 sampE v1 ([(⟨3, 1⟩ : Sample), (⟨4, 2⟩ : Sample), (⟨6, 4⟩ : Sample)])] := hst.call hcall
  refine s_cons (op_pick_t (.bool (alignedA ((rawA ([(⟨3, 1⟩ : Sample), (⟨4, 2⟩ : Sample), (⟨6, 4⟩ : Sample)]) 1).1) 1)) (congrArg Value.bool (congrArg (! ·) (show (risingA ([(⟨3, 0⟩ : Sample), (⟨3, 0⟩ : Sample)])) = false from (by decide +kernel)))) rfl ?_)
  refine s_cons (op_move (.bool (alignedA ((rawA ([(⟨3, 1⟩ : Sample), (⟨4, 2⟩ : Sample), (⟨6, 4⟩ : Sample)]) 1).1) 1)) rfl ?_)
  refine s_yes 115 rfl (congrArg Value.bool (show (alignedA ((rawA ([(⟨3, 1⟩ : Sample), (⟨4, 2⟩ : Sample), (⟨6, 4⟩ : Sample)]) 1).1) 1) = true from (by decide +kernel))) (op_move r3 rfl ?_)
  refine s_yes 115 rfl (congrArg Value.bool (show (alignedA ((rawA ([(⟨3, 1⟩ : Sample), (⟨4, 2⟩ : Sample), (⟨6, 4⟩ : Sample)]) 1).1) 1) = true from (by decide +kernel))) (op_call Try.call23 (evs_cons (v := r3) rfl (evs_cons (v := (.int .i64 2)) rfl evs_nil)) (c_Aligned (w0 := w31) (v_l := r3) (l := (rawA ([(⟨3, 1⟩ : Sample), (⟨4, 2⟩ : Sample), (⟨6, 4⟩ : Sample)]) 1).1) (h_l := (hst.sl 4 rfl)) (k := 2) (hl := (by decide +kernel)) (k0 := (by omega)) (k1 := (by omega))) ?_)
  rintro _ w32 ⟨rfl, hcall⟩
  refine ⟨_, rfl, ?_⟩
  have hst : St w0 w32 [rowT 32 sampE v28 ([(⟨3, 0⟩ : Sample), (⟨3, 0⟩ : Sample)]), rowT 26 aggE r9 ((downA ((rawA ([(⟨3, 1⟩ : Sample), (⟨4, 2⟩ : Sample), (⟨6, 4⟩ : Sample)]) 1).1) 3).1), rowT 26 aggE r7 ((rawA ([(⟨3, 1⟩ : Sample), (⟨4, 2⟩ : Sample), (⟨6, 4⟩ : Sample)]) 0).1), rowT 26 aggE r5 ((downA ((rawA ([(⟨3, 1⟩ : Sample), (⟨4, 2⟩ : Sample), (⟨6, 4⟩ : Sample)]) 1).1) 2).1), rowT 26 aggE r3 ((rawA ([(⟨3, 1⟩ : Sample), (⟨4, 2⟩ : Sample), (⟨6, 4⟩ : Sample)]) 1).1), rowT 32 sampE v1 ([(⟨3, 1⟩ : Sample), (⟨4, 2⟩ : Sample), (⟨6, 4⟩ : Sample)])] := hst.call hcall
  refine s_yes 115 rfl (congrArg Value.bool (show (alignedA ((rawA ([(⟨3, 1⟩ : Sample), (⟨4, 2⟩ : Sample), (⟨6, 4⟩ : Sample)]) 1).1) 1) = true from (by decide +kernel))) (op_not (b := alignedA ((rawA ([(⟨3, 1⟩ : Sample), (⟨4, 2⟩ : Sample), (⟨6, 4⟩ : Sample)]) 1).1) 2) rfl ?_)
  refine s_cons (op_pick_t (.bool (!(alignedA ((rawA ([(⟨3, 1⟩ : Sample), (⟨4, 2⟩ : Sample), (⟨6, 4⟩ : Sample)]) 1).1) 2))) (congrArg Value.bool (show (alignedA ((rawA ([(⟨3, 1⟩ : Sample), (⟨4, 2⟩ : Sample), (⟨6, 4⟩ : Sample)]) 1).1) 1) = true from (by decide +kernel))) rfl ?_)
  refine s_cons (op_assign (.bool (!(alignedA ((rawA ([(⟨3, 1⟩ : Sample), (⟨4, 2⟩ : Sample), (⟨6, 4⟩ : Sample)]) 1).1) 2))) rfl ?_)
  refine s_nil ?_
  refine then_n ?_
  refine cE_ret ?_
  refine post_r _ (res1 (v := (.bool true)) (congrArg Value.bool (congrArg (! ·) (show (alignedA ((rawA ([(⟨3, 1⟩ : Sample), (⟨4, 2⟩ : Sample), (⟨6, 4⟩ : Sample)]) 1).1) 2) = false from (by decide +kernel))))) ?_
  exact ⟨rfl, hst.bare⟩

end Go.Proofs.Ytffnhcioponbbaa
