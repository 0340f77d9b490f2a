/- twinkeeplaw6.BlockBounds -/
import Derived.Test.YtpamjfbdgaamoaaW40
namespace Go.Proofs.Ytpamjfbdgaamoaa
open Go.RowKit

set_option maxHeartbeats 4000000 in
theorem c_BlockBounds (w0 : World) (a1 : Int) (a2 : Int) (a10 : -9223372036854775808 ≤ a1) (a11 : a1 ≤ 9223372036854775807) (a20 : -9223372036854775808 ≤ a2) (a21 : a2 ≤ 9223372036854775807) :
    Calls Try.prog 7 #[(.int .i64 a1), (.int .i64 a2)] w0 fun e w' => e = .returned (.bool true) ∧ St w0 w' [] := by
  refine calls_E (n := 75) (ts := [4]) Try.func7 rfl rfl rfl (by simp) ?_
  have hst := St.start w0
  refine cE_seq ?_
  refine cE_region rfl ?_
  refine s_cons (op_assign (.bool false) rfl ?_)
  refine s_nil ?_
  refine then_n ?_
  refine cE_seq ?_
  refine cE_region rfl ?_
  refine s_cons (op_move (.int .i64 a1) rfl ?_)
  refine s_cons (op_conv (k := .i64) (a := a1) (a1 % 18446744073709551616) Try.underlying44 (by rw [Try.underlying3]; rfl) rfl (IntKind.wrap_u64 _) ?_)
  obtain ⟨x, hx, hxl⟩ := rem_nat (a := (a1 % 18446744073709551616)) (b := 8) (by omega) (by omega)
  refine s_cons (op_rem (k := .u64) (a := (a1 % 18446744073709551616)) (b := 8) (x : Int) rfl rfl (by omega) hx ?_)
  refine s_cons (op_conv (k := .u64) (a := (x : Int)) (x : Int) Try.underlying3 (by rw [Try.underlying44]; rfl) rfl (xi64 (by omega) (by omega)) ?_)
  refine s_cons (op_add (k := .i64) (a := 60) (b := (x : Int)) (60 + (x : Int)) rfl rfl (xi64 (by omega) (by omega)) ?_)
  refine s_cons (op_assign (.int .i64 (60 + (x : Int))) rfl ?_)
  refine s_nil ?_
  refine then_n ?_
  refine cE_seq ?_
  refine cE_region rfl ?_
  refine s_cons (op_assign (.slice none 0 0) rfl ?_)
  refine s_nil ?_
  refine then_n ?_
  refine cE_seq ?_
  refine cE_seq ?_
  refine cE_region rfl ?_
  refine s_cons (op_assign (.int .i64 0) rfl ?_)
  refine s_nil ?_
  refine then_n ?_
  refine cE_block ?_
  replace hst : St w0 w0 [rowT 48 sampE (.slice none 0 0) ([])] := hst.nilRow 48 sampE
  refine cE_loop (fun (m : Nat) (ρ : Env) (w : World) => ∃ (vo : Value) (out : List Sample) (i : Nat), m = 68 - i ∧ ρ 0 = (.int .i64 a1) ∧ ρ 1 = (.int .i64 a2) ∧ ρ 4 = (.bool false) ∧ ρ 13 = (.int .i64 a1) ∧ ρ 14 = (.int .u64 (a1 % 18446744073709551616)) ∧ ρ 15 = (.int .u64 (x : Int)) ∧ ρ 16 = (.int .i64 (x : Int)) ∧ ρ 17 = (.int .i64 (60 + (x : Int))) ∧ ρ 5 = (.int .i64 (60 + (x : Int))) ∧ ρ 7 = (.int .i64 (i : Int)) ∧ ρ 6 = vo ∧ St w0 w [rowT 48 sampE vo out] ∧ ((i : Int) ≤ (60 + (x : Int))) ∧ (PB out i)) id _ ⟨(.slice none 0 0), [], 0, rfl, rfl, rfl, rfl, rfl, rfl, rfl, rfl, rfl, rfl, (congrArg (Value.int .i64) (show 0 = _ from by omega)), rfl, hst, (by omega), (by first | exact PB_nil | exact PB_snoc hP (by decide))⟩ ?_
  rintro m2 ρ3 w4 ⟨vo, out, i, hm2, q1_0, q1_1, q1_4, q1_13, q1_14, q1_15, q1_16, q1_17, q1_5, q1_7, q1_6, hst, hi, hP⟩
  have hol := hP.1
  refine cE_seq ?_
  refine cE_seq ?_
  refine cE_region rfl ?_
  refine s_cons (op_move (.int .i64 (i : Int)) q1_7 ?_)
  refine s_cons (op_move (.int .i64 (60 + (x : Int))) q1_5 ?_)
  refine s_cons (op_lss (k := .i64) (a := (i : Int)) (b := (60 + (x : Int))) rfl rfl ?_)
  refine s_nil ?_
  refine then_n ?_
  rcases Bool.eq_false_or_eq_true (decide ((i : Int) < (60 + (x : Int)))) with b5 | b5
  · have c6 : (i : Int) < (60 + (x : Int)) := of_decide_eq_true b5
    refine cE_cond true (congrArg Value.bool b5) (fun _ => ?_) (fun h => by cases h)
    refine cE_skip ?_
    refine then_n ?_
    refine cE_seq ?_
    refine cE_block ?_
    refine cE_seq ?_
    have hsq := sq_r (i := i) (by omega)
    refine cE_region rfl ?_
    refine s_cons (op_assign (.int .i64 9223372036854775807) rfl ?_)
    refine s_nil ?_
    refine then_n ?_
    refine cE_seq ?_
    refine cE_seq ?_
    refine cE_region rfl ?_
    refine s_cons (op_move (.int .i64 a2) q1_1 ?_)
    refine s_cons (op_move (.int .i64 (i : Int)) q1_7 ?_)
    refine s_cons (op_rem (k := .i64) (a := (i : Int)) (b := 20) ((i : Int) % 20) rfl rfl (by omega) (tmod_nn (by omega)) ?_)
    refine s_cons (op_conv (k := .i64) (a := ((i : Int) % 20)) ((i : Int) % 20) Try.underlying44 (by rw [Try.underlying3]; rfl) rfl (xu64 (by omega) (by omega)) ?_)
    refine s_cons (op_shr (k := .i64) (k' := .u64) (a := a2) (b := ((i : Int) % 20)) (a2 / 2 ^ (((i : Int) % 20)).toNat) rfl rfl (by omega) (by simp [IntKind.bits]; try omega) rfl ?_)
    refine s_cons (op_and (k := .i64) (a := (a2 / 2 ^ (((i : Int) % 20)).toNat)) (b := 1) (bits .and .i64 (a2 / 2 ^ (((i : Int) % 20)).toNat) 1) rfl rfl rfl ?_)
    refine s_cons (op_eql (k := .i64) (a := (bits .and .i64 (a2 / 2 ^ (((i : Int) % 20)).toNat) 1)) (b := 1) rfl rfl ?_)
    refine s_nil ?_
    refine then_n ?_
    rcases Bool.eq_false_or_eq_true (decide ((bits .and .i64 (a2 / 2 ^ (((i : Int) % 20)).toNat) 1) = 1)) with b7 | b7
    · have c8 : (bits .and .i64 (a2 / 2 ^ (((i : Int) % 20)).toNat) 1) = 1 := of_decide_eq_true b7
      refine cE_cond true (congrArg Value.bool b7) (fun _ => ?_) (fun h => by cases h)
      refine cE_region rfl ?_
      refine s_cons (op_assign (.int .i64 (-9223372036854775808)) rfl ?_)
      refine s_nil ?_
      refine then_n ?_
      refine cE_region rfl ?_
      refine s_cons (op_move vo q1_6 ?_)
      refine s_cons (op_move (.int .i64 (i : Int)) q1_7 ?_)
      refine s_cons (op_move (.int .i64 (i : Int)) q1_7 ?_)
      refine s_cons (op_mul (k := .i64) (a := (i : Int)) (b := (i : Int)) ((i : Int) * (i : Int)) rfl rfl (xi64 (by omega) (by omega)) ?_)
      refine s_cons (op_mul (k := .i64) (a := ((i : Int) * (i : Int))) (b := 1000000) (((i : Int) * (i : Int)) * 1000000) rfl rfl (xi64 (by omega) (by omega)) ?_)
      refine s_cons (op_move (.int .i64 (-9223372036854775808)) rfl ?_)
      refine s_cons (op_build (r := (.agg #[(.int .i64 (((i : Int) * (i : Int)) * 1000000)), (.int .i64 (-9223372036854775808))])) (evp_cons (v := (.int .i64 (((i : Int) * (i : Int)) * 1000000))) rfl (evp_cons (v := (.int .i64 (-9223372036854775808))) rfl evp_nil)) (by simp [Instr.build, Instr.fill, Value.cells, Try.runUnderlying48, Try.zeroValue48]) ?_)
      refine s_cons (op_buildSlice (E := sampE) [(⟨(((i : Int) * (i : Int)) * 1000000), (-9223372036854775808)⟩ : Sample)] hst Try.underlying22 Try.sizeOf48 Try.zeroValue48 (evp_cons (v := (.agg #[(.int .i64 (((i : Int) * (i : Int)) * 1000000)), (.int .i64 (-9223372036854775808))])) rfl evp_nil) (parts_cons rfl parts_nil) rfl (by decide) (fun v9 w10 hst => ?_))
      replace hst : St w0 w10 [rowT 48 sampE v9 ([(⟨(((i : Int) * (i : Int)) * 1000000), (-9223372036854775808)⟩ : Sample)]), rowT 48 sampE vo out] := hst
      refine s_cons (op_append (E := sampE) (xs := out) (ys := [(⟨(((i : Int) * (i : Int)) * 1000000), (-9223372036854775808)⟩ : Sample)]) (z := (.agg #[(.int .i64 0), (.int .i64 0)])) (bytes := 16) hst 1 rfl Try.underlying22 (by kernel_rfl) rfl rfl rfl (hst.sl 0 rfl) (by first | omega | (simp; omega) | (simp; done)) (by first | omega | (simp; omega) | (simp; done)) (fun v11 w12 hst => ?_))
      replace hst : St w0 w12 [rowT 48 sampE v9 ([(⟨(((i : Int) * (i : Int)) * 1000000), (-9223372036854775808)⟩ : Sample)]), rowT 48 sampE v11 (out ++ ([(⟨(((i : Int) * (i : Int)) * 1000000), (-9223372036854775808)⟩ : Sample)]))] := hst
      refine s_cons (op_assign v11 rfl ?_)
      refine s_nil ?_
      refine block_n (then_n ?_)
      refine cE_region rfl ?_
      refine s_cons (op_move (.int .i64 (i : Int)) q1_7 ?_)
      refine s_cons (op_add (k := .i64) (a := (i : Int)) (b := 1) ((i : Int) + 1) rfl rfl (xi64 (by omega) (by omega)) ?_)
      refine s_cons (op_assign (.int .i64 ((i : Int) + 1)) rfl ?_)
      refine s_nil ?_
      refine then_n ?_
      exact ⟨_, ⟨v11, (out ++ ([(⟨(((i : Int) * (i : Int)) * 1000000), (-9223372036854775808)⟩ : Sample)])), (i + 1), rfl, q1_0, q1_1, q1_4, q1_13, q1_14, q1_15, q1_16, q1_17, q1_5, (congrArg (Value.int .i64) (show ((i : Int) + 1) = _ from by omega)), rfl, (hst.sub (.cons _ (.cons_cons _ .slnil))), (by omega), (by first | exact PB_nil | exact PB_snoc hP (by decide))⟩, (by simp only [id]; omega)⟩
    · have c13 : ¬ ((bits .and .i64 (a2 / 2 ^ (((i : Int) % 20)).toNat) 1) = 1) := of_decide_eq_false b7
      refine cE_cond false (congrArg Value.bool b7) (fun h => by cases h) (fun _ => ?_)
      refine cE_skip ?_
      refine then_n ?_
      refine cE_region rfl ?_
      refine s_cons (op_move vo q1_6 ?_)
      refine s_cons (op_move (.int .i64 (i : Int)) q1_7 ?_)
      refine s_cons (op_move (.int .i64 (i : Int)) q1_7 ?_)
      refine s_cons (op_mul (k := .i64) (a := (i : Int)) (b := (i : Int)) ((i : Int) * (i : Int)) rfl rfl (xi64 (by omega) (by omega)) ?_)
      refine s_cons (op_mul (k := .i64) (a := ((i : Int) * (i : Int))) (b := 1000000) (((i : Int) * (i : Int)) * 1000000) rfl rfl (xi64 (by omega) (by omega)) ?_)
      refine s_cons (op_move (.int .i64 9223372036854775807) rfl ?_)
      refine s_cons (op_build (r := (.agg #[(.int .i64 (((i : Int) * (i : Int)) * 1000000)), (.int .i64 9223372036854775807)])) (evp_cons (v := (.int .i64 (((i : Int) * (i : Int)) * 1000000))) rfl (evp_cons (v := (.int .i64 9223372036854775807)) rfl evp_nil)) (by simp [Instr.build, Instr.fill, Value.cells, Try.runUnderlying48, Try.zeroValue48]) ?_)
      refine s_cons (op_buildSlice (E := sampE) [(⟨(((i : Int) * (i : Int)) * 1000000), 9223372036854775807⟩ : Sample)] hst Try.underlying22 Try.sizeOf48 Try.zeroValue48 (evp_cons (v := (.agg #[(.int .i64 (((i : Int) * (i : Int)) * 1000000)), (.int .i64 9223372036854775807)])) rfl evp_nil) (parts_cons rfl parts_nil) rfl (by decide) (fun v14 w15 hst => ?_))
      replace hst : St w0 w15 [rowT 48 sampE v14 ([(⟨(((i : Int) * (i : Int)) * 1000000), 9223372036854775807⟩ : Sample)]), rowT 48 sampE vo out] := hst
      refine s_cons (op_append (E := sampE) (xs := out) (ys := [(⟨(((i : Int) * (i : Int)) * 1000000), 9223372036854775807⟩ : Sample)]) (z := (.agg #[(.int .i64 0), (.int .i64 0)])) (bytes := 16) hst 1 rfl Try.underlying22 (by kernel_rfl) rfl rfl rfl (hst.sl 0 rfl) (by first | omega | (simp; omega) | (simp; done)) (by first | omega | (simp; omega) | (simp; done)) (fun v16 w17 hst => ?_))
      replace hst : St w0 w17 [rowT 48 sampE v14 ([(⟨(((i : Int) * (i : Int)) * 1000000), 9223372036854775807⟩ : Sample)]), rowT 48 sampE v16 (out ++ ([(⟨(((i : Int) * (i : Int)) * 1000000), 9223372036854775807⟩ : Sample)]))] := hst
      refine s_cons (op_assign v16 rfl ?_)
      refine s_nil ?_
      refine block_n (then_n ?_)
      refine cE_region rfl ?_
      refine s_cons (op_move (.int .i64 (i : Int)) q1_7 ?_)
      refine s_cons (op_add (k := .i64) (a := (i : Int)) (b := 1) ((i : Int) + 1) rfl rfl (xi64 (by omega) (by omega)) ?_)
      refine s_cons (op_assign (.int .i64 ((i : Int) + 1)) rfl ?_)
      refine s_nil ?_
      refine then_n ?_
      exact ⟨_, ⟨v16, (out ++ ([(⟨(((i : Int) * (i : Int)) * 1000000), 9223372036854775807⟩ : Sample)])), (i + 1), rfl, q1_0, q1_1, q1_4, q1_13, q1_14, q1_15, q1_16, q1_17, q1_5, (congrArg (Value.int .i64) (show ((i : Int) + 1) = _ from by omega)), rfl, (hst.sub (.cons _ (.cons_cons _ .slnil))), (by omega), (by first | exact PB_nil | exact PB_snoc hP (by decide))⟩, (by simp only [id]; omega)⟩
  · have c18 : ¬ ((i : Int) < (60 + (x : Int))) := of_decide_eq_false b5
    refine cE_cond false (congrArg Value.bool b5) (fun h => by cases h) (fun _ => ?_)
    refine cE_exit ?_
    refine then_x (then_x (block_hit (then_n ?_)))
    refine cE_seq ?_
    have hne : (i : Int) = (60 + (x : Int)) := by omega
    have hok := PB_ok hP (by omega)
    have hri := PB_rising hP (by omega)
    have hol := hP.1
    refine cE_region rfl ?_
    refine s_cons (op_move vo q1_6 ?_)
    refine s_cons (op_call Try.call9 (evs_cons (v := vo) rfl evs_nil) (c_kPut (w0 := w4) (v_l := vo) (l := out) (h_l := (hst.sl 0 rfl)) (hl := hok)) ?_)
    rintro _ w20 ⟨r19, rfl, hcall⟩
    refine ⟨_, rfl, ?_⟩
    have hst : St w0 w20 [rowT 5 u8E r19 ((encS out).1), rowT 48 sampE vo out] := hst.call hcall
    refine s_cons (op_move (.tuple #[r19, (.int .i64 ((encS out).2))]) rfl ?_)
    refine s_cons (op_extract r19 rfl rfl ?_)
    refine s_cons (op_extract (.int .i64 ((encS out).2)) rfl rfl ?_)
    refine s_cons (op_assign r19 rfl ?_)
    refine s_cons (op_assign (.int .i64 ((encS out).2)) rfl ?_)
    refine s_nil ?_
    refine then_n ?_
    refine cE_seq ?_
    refine cE_seq ?_
    refine cE_region rfl ?_
    refine s_cons (op_move (.int .i64 (60 + (x : Int))) q1_5 ?_)
    refine s_cons (op_gtr (k := .i64) (a := (60 + (x : Int))) (b := 64) rfl rfl ?_)
    refine s_nil ?_
    refine then_n ?_
    rcases Bool.eq_false_or_eq_true (decide (64 < (60 + (x : Int)))) with b21 | b21
    · have c22 : 64 < (60 + (x : Int)) := of_decide_eq_true b21
      refine cE_cond true (congrArg Value.bool b21) (fun _ => ?_) (fun h => by cases h)
      refine cE_seq ?_
      refine cE_region rfl ?_
      refine s_cons (op_call Try.call8 evs_nil (c_told6 (w0 := w20)) ?_)
      rintro _ w23 ⟨rfl, hcall⟩
      refine ⟨_, rfl, ?_⟩
      have hst : St w0 w23 [rowT 5 u8E r19 ((encS out).1), rowT 48 sampE vo out] := hst.call hcall
      refine s_cons (op_move (.bool true) rfl ?_)
      refine s_yes 47 rfl rfl (op_move (.int .i64 ((encS out).2)) rfl ?_)
      refine s_yes 47 rfl rfl (op_eql (k := .i64) (a := (encS out).2) (b := 1) rfl rfl ?_)
      refine s_cons (op_pick_t (.bool (decide (((encS out).2) = 1))) rfl rfl ?_)
      refine s_cons (op_move (.bool (decide (((encS out).2) = 1))) rfl ?_)
      refine s_yes 51 rfl (congrArg Value.bool (show (decide (((encS out).2) = 1)) = true from (decide_eq_true (by rw [encS_no (Or.inr (by omega))])))) (op_move r19 rfl ?_)
      refine s_yes 51 rfl (congrArg Value.bool (show (decide (((encS out).2) = 1)) = true from (decide_eq_true (by rw [encS_no (Or.inr (by omega))])))) (op_len (E := u8E) (xs := (encS out).1) Try.underlying24 rfl (hst.sl 0 rfl) ?_)
      refine s_yes 51 rfl (congrArg Value.bool (show (decide (((encS out).2) = 1)) = true from (decide_eq_true (by rw [encS_no (Or.inr (by omega))])))) (op_eql (k := .i64) (a := (((encS out).1).length : Int)) (b := 0) rfl rfl ?_)
      refine s_cons (op_pick_t (.bool (decide ((((encS out).1).length : Int) = 0))) (congrArg Value.bool (show (decide (((encS out).2) = 1)) = true from (decide_eq_true (by rw [encS_no (Or.inr (by omega))])))) rfl ?_)
      refine s_cons (op_assign (.bool (decide ((((encS out).1).length : Int) = 0))) rfl ?_)
      refine s_nil ?_
      refine then_n ?_
      refine cE_ret ?_
      refine then_r ?_
      refine post_r _ (res1 (v := (.bool true)) (congrArg Value.bool (show (decide ((((encS out).1).length : Int) = 0)) = true from (decide_eq_true (by rw [encS_no (Or.inr (by omega))]; rfl))))) ?_
      exact ⟨rfl, hst.bare⟩
    · have c24 : ¬ (64 < (60 + (x : Int))) := of_decide_eq_false b21
      refine cE_cond false (congrArg Value.bool b21) (fun h => by cases h) (fun _ => ?_)
      refine cE_skip ?_
      refine then_n ?_
      refine cE_seq ?_
      have hks := okS_iff.2 ⟨hri, (by omega : out.length ≤ 64)⟩
      refine cE_region rfl ?_
      refine s_cons (op_move r19 rfl ?_)
      refine s_cons (op_call Try.call11 (evs_cons (v := r19) rfl evs_nil) (c_kGet (w0 := w20) (v_b := r19) (b := (encS out).1) (h_b := (hst.sl 0 rfl)) (hl := (by rw [encS_yes hks]; have hpl := putS_length64 (l := out) (by omega); simp only []; omega))) ?_)
      rintro _ w29 ⟨r25, r26, r27, rfl, hcall, x28⟩
      refine ⟨_, rfl, ?_⟩
      have hst : St w0 w29 [rowT 48 sampE r25 r26, rowT 5 u8E r19 ((encS out).1), rowT 48 sampE vo out] := hst.call hcall
      refine s_cons (op_move (.tuple #[r25, (.int .i64 r27)]) rfl ?_)
      refine s_cons (op_extract r25 rfl rfl ?_)
      refine s_cons (op_extract (.int .i64 r27) rfl rfl ?_)
      refine s_cons (op_assign r25 rfl ?_)
      refine s_cons (op_assign (.int .i64 r27) rfl ?_)
      refine s_nil ?_
      refine then_n ?_
      refine cE_seq ?_
      refine cE_region rfl ?_
      refine s_cons (op_call Try.call8 evs_nil (c_told6 (w0 := w29)) ?_)
      rintro _ w30 ⟨rfl, hcall⟩
      refine ⟨_, rfl, ?_⟩
      have hst : St w0 w30 [rowT 48 sampE r25 r26, rowT 5 u8E r19 ((encS out).1), rowT 48 sampE vo out] := hst.call hcall
      refine s_cons (op_move (.bool true) rfl ?_)
      refine s_yes 62 rfl rfl (op_move (.int .i64 ((encS out).2)) rfl ?_)
      refine s_yes 62 rfl rfl (op_eql (k := .i64) (a := (encS out).2) (b := 0) rfl rfl ?_)
      refine s_cons (op_pick_t (.bool (decide (((encS out).2) = 0))) rfl rfl ?_)
      refine s_cons (op_move (.bool (decide (((encS out).2) = 0))) rfl ?_)
      refine s_yes 66 rfl (congrArg Value.bool (show (decide (((encS out).2) = 0)) = true from (decide_eq_true (by rw [encS_yes hks])))) (op_move (.int .i64 r27) rfl ?_)
      refine s_yes 66 rfl (congrArg Value.bool (show (decide (((encS out).2) = 0)) = true from (decide_eq_true (by rw [encS_yes hks])))) (op_eql (k := .i64) (a := r27) (b := 0) rfl rfl ?_)
      refine s_cons (op_pick_t (.bool (decide (r27 = 0))) (congrArg Value.bool (show (decide (((encS out).2) = 0)) = true from (decide_eq_true (by rw [encS_yes hks])))) rfl ?_)
      refine s_cons (op_move (.bool (decide (r27 = 0))) rfl ?_)
      refine s_yes 70 rfl (congrArg Value.bool (show (decide (r27 = 0)) = true from (decide_eq_true (decS_enc (by assumption) hks hok).2))) (op_move r25 rfl ?_)
      refine s_yes 70 rfl (congrArg Value.bool (show (decide (r27 = 0)) = true from (decide_eq_true (decS_enc (by assumption) hks hok).2))) (op_move vo q1_6 ?_)
      refine s_yes 70 rfl (congrArg Value.bool (show (decide (r27 = 0)) = true from (decide_eq_true (decS_enc (by assumption) hks hok).2))) (op_call Try.call17 (evs_cons (v := r25) rfl (evs_cons (v := vo) rfl evs_nil)) (c_SameSamples (w0 := w30) (v_a := r25) (a := r26) (h_a := (hst.sl 0 rfl)) (v_b := vo) (b := out) (h_b := (hst.sl 2 rfl))) ?_)
      rintro _ w31 ⟨rfl, hcall⟩
      refine ⟨_, rfl, ?_⟩
      have hst : St w0 w31 [rowT 48 sampE r25 r26, rowT 5 u8E r19 ((encS out).1), rowT 48 sampE vo out] := hst.call hcall
      refine s_cons (op_pick_t (.bool (decide (r26 = out))) (congrArg Value.bool (show (decide (r27 = 0)) = true from (decide_eq_true (decS_enc (by assumption) hks hok).2))) rfl ?_)
      refine s_cons (op_assign (.bool (decide (r26 = out))) rfl ?_)
      refine s_nil ?_
      refine then_n ?_
      refine cE_ret ?_
      refine post_r _ (res1 (v := (.bool true)) (congrArg Value.bool (show (decide (r26 = out)) = true from (decide_eq_true (decS_enc (by assumption) hks hok).1)))) ?_
      exact ⟨rfl, hst.bare⟩

end Go.Proofs.Ytpamjfbdgaamoaa
