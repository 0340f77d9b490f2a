/- twinkeeplaw6.BlockBack -/
import Derived.Test.YtpamjfbdgaamoaaW40
import Derived.Test.YtpamjfbdgaamoaaW50
import Derived.Test.YtpamjfbdgaamoaaBH
namespace Go.Proofs.Ytpamjfbdgaamoaa
open Go.RowKit

set_option maxHeartbeats 4000000 in
theorem c_BlockBack (w0 : World) (v_steps : Value) (steps : List Int) (h_steps : Sl w0 (intE .i64) v_steps steps) (v_values : Value) (values : List Int) (h_values : Sl w0 (intE .i64) v_values values) (a3 : Int) (a4 : Int) (hv : ∀ v ∈ values, i64R v) (hs : ∀ v ∈ steps, i64R v) (a30 : -9223372036854775808 ≤ a3) (a31 : a3 ≤ 9223372036854775807) (a40 : -9223372036854775808 ≤ a4) (a41 : a4 ≤ 9223372036854775807) :
    Calls Try.prog 4 #[v_steps, v_values, (.int .i64 a3), (.int .i64 a4)] w0 fun e w' => e = .returned (.bool true) ∧ St w0 w' [] := by
  have hNN : riseN steps 60 ≤ 60 := Nat.le_trans (riseN_le2 steps 60) (by decide)
  have hLO := rise_ok (steps := steps) (values := values) (n := riseN steps 60) (riseN_le _ _) (by omega) hv
  have hLL := rise_length steps values (riseN steps 60)
  have hLR := rise_rises (steps := steps) (values := values) (n := riseN steps 60) (riseN_le _ _) (by omega)
  have hks := okS_iff.2 ⟨hLR, (by omega)⟩
  have hpe := encS_len64 hks
  refine calls_E (n := 131) (ts := [8]) Try.func4 rfl rfl rfl (by simp) ?_
  have hst := St.start w0
  refine cE_seq ?_
  refine cE_region rfl ?_
  refine s_cons (op_assign (.bool false) rfl ?_)
  refine s_nil ?_
  refine then_n ?_
  refine cE_seq ?_
  refine cE_region rfl ?_
  refine s_cons (op_move v_steps rfl ?_)
  refine s_cons (op_move v_values rfl ?_)
  refine s_cons (op_call Try.call19 (evs_cons (v := v_steps) rfl (evs_cons (v := v_values) rfl (evs_cons (v := (.int .i64 60)) rfl evs_nil))) (c_Rise (w0 := w0) (v_steps := v_steps) (steps := steps) (h_steps := (h_steps.below hst.below)) (v_values := v_values) (values := values) (h_values := (h_values.below hst.below)) (most := 60) (m0 := (by omega)) (m1 := (by omega)) (hv := (by omega)) (hs := (by omega))) ?_)
  rintro _ w2 ⟨r1, rfl, hcall⟩
  refine ⟨_, rfl, ?_⟩
  have hst : St w0 w2 [rowT 48 sampE r1 (riseL steps values (riseN steps 60))] := hst.call hcall
  refine s_cons (op_assign r1 rfl ?_)
  refine s_nil ?_
  refine then_n ?_
  refine cE_seq ?_
  refine cE_region rfl ?_
  refine s_cons (op_move r1 rfl ?_)
  refine s_cons (op_call Try.call9 (evs_cons (v := r1) rfl evs_nil) (c_kPut (w0 := w2) (v_l := r1) (l := (riseL steps values (riseN steps 60))) (h_l := (hst.sl 0 rfl)) (hl := hLO)) ?_)
  rintro _ w4 ⟨r3, rfl, hcall⟩
  refine ⟨_, rfl, ?_⟩
  have hst : St w0 w4 [rowT 5 u8E r3 ((encS (riseL steps values (riseN steps 60))).1), rowT 48 sampE r1 (riseL steps values (riseN steps 60))] := hst.call hcall
  refine s_cons (op_move (.tuple #[r3, (.int .i64 ((encS (riseL steps values (riseN steps 60))).2))]) rfl ?_)
  refine s_cons (op_extract r3 rfl rfl ?_)
  refine s_cons (op_extract (.int .i64 ((encS (riseL steps values (riseN steps 60))).2)) rfl rfl ?_)
  refine s_cons (op_assign r3 rfl ?_)
  refine s_cons (op_assign (.int .i64 ((encS (riseL steps values (riseN steps 60))).2)) rfl ?_)
  refine s_nil ?_
  refine then_n ?_
  refine cE_seq ?_
  refine cE_region rfl ?_
  refine s_cons (op_move r3 rfl ?_)
  refine s_cons (op_call Try.call11 (evs_cons (v := r3) rfl evs_nil) (c_kGet (w0 := w4) (v_b := r3) (b := (encS (riseL steps values (riseN steps 60))).1) (h_b := (hst.sl 0 rfl)) (hl := (by first | omega | (simp; omega)))) ?_)
  rintro _ w9 ⟨r5, r6, r7, rfl, hcall, x8⟩
  refine ⟨_, rfl, ?_⟩
  have hst : St w0 w9 [rowT 48 sampE r5 r6, rowT 5 u8E r3 ((encS (riseL steps values (riseN steps 60))).1), rowT 48 sampE r1 (riseL steps values (riseN steps 60))] := hst.call hcall
  refine s_cons (op_move (.tuple #[r5, (.int .i64 r7)]) rfl ?_)
  refine s_cons (op_extract r5 rfl rfl ?_)
  refine s_cons (op_extract (.int .i64 r7) rfl rfl ?_)
  refine s_cons (op_assign r5 rfl ?_)
  refine s_cons (op_assign (.int .i64 r7) rfl ?_)
  refine s_nil ?_
  refine then_n ?_
  refine cE_seq ?_
  refine cE_seq ?_
  refine cE_region rfl ?_
  refine s_cons (op_move (.int .i64 ((encS (riseL steps values (riseN steps 60))).2)) rfl ?_)
  refine s_cons (op_neq (k := .i64) (a := (encS (riseL steps values (riseN steps 60))).2) (b := 0) rfl rfl ?_)
  refine s_cons (op_move (.bool (!decide (((encS (riseL steps values (riseN steps 60))).2) = 0))) rfl ?_)
  refine s_yes 41 rfl (congrArg Value.bool (congrArg (! ·) (show (decide (((encS (riseL steps values (riseN steps 60))).2) = 0)) = true from (decide_eq_true (by rw [encS_yes hks]))))) (op_move (.int .i64 r7) rfl ?_)
  refine s_yes 41 rfl (congrArg Value.bool (congrArg (! ·) (show (decide (((encS (riseL steps values (riseN steps 60))).2) = 0)) = true from (decide_eq_true (by rw [encS_yes hks]))))) (op_neq (k := .i64) (a := r7) (b := 0) rfl rfl ?_)
  refine s_cons (op_pick_f (.bool (!decide (r7 = 0))) (congrArg Value.bool (congrArg (! ·) (show (decide (((encS (riseL steps values (riseN steps 60))).2) = 0)) = true from (decide_eq_true (by rw [encS_yes hks]))))) rfl ?_)
  refine s_cons (op_move (.bool (!decide (r7 = 0))) rfl ?_)
  refine s_yes 45 rfl (congrArg Value.bool (congrArg (! ·) (show (decide (r7 = 0)) = true from (decide_eq_true (by first | exact (decS_enc (by assumption) hks hLO).2 | exact (decA_enc (by assumption) hka hro).2))))) (op_move r5 rfl ?_)
  refine s_yes 45 rfl (congrArg Value.bool (congrArg (! ·) (show (decide (r7 = 0)) = true from (decide_eq_true (by first | exact (decS_enc (by assumption) hks hLO).2 | exact (decA_enc (by assumption) hka hro).2))))) (op_move r1 rfl ?_)
  refine s_yes 45 rfl (congrArg Value.bool (congrArg (! ·) (show (decide (r7 = 0)) = true from (decide_eq_true (by first | exact (decS_enc (by assumption) hks hLO).2 | exact (decA_enc (by assumption) hka hro).2))))) (op_call Try.call17 (evs_cons (v := r5) rfl (evs_cons (v := r1) rfl evs_nil)) (c_SameSamples (w0 := w9) (v_a := r5) (a := r6) (h_a := (hst.sl 0 rfl)) (v_b := r1) (b := (riseL steps values (riseN steps 60))) (h_b := (hst.sl 2 rfl))) ?_)
  rintro _ w10 ⟨rfl, hcall⟩
  refine ⟨_, rfl, ?_⟩
  have hst : St w0 w10 [rowT 48 sampE r5 r6, rowT 5 u8E r3 ((encS (riseL steps values (riseN steps 60))).1), rowT 48 sampE r1 (riseL steps values (riseN steps 60))] := hst.call hcall
  refine s_yes 45 rfl (congrArg Value.bool (congrArg (! ·) (show (decide (r7 = 0)) = true from (decide_eq_true (by first | exact (decS_enc (by assumption) hks hLO).2 | exact (decA_enc (by assumption) hka hro).2))))) (op_not (b := decide (r6 = (riseL steps values (riseN steps 60)))) rfl ?_)
  refine s_cons (op_pick_f (.bool (!(decide (r6 = (riseL steps values (riseN steps 60)))))) (congrArg Value.bool (congrArg (! ·) (show (decide (r7 = 0)) = true from (decide_eq_true (by first | exact (decS_enc (by assumption) hks hLO).2 | exact (decA_enc (by assumption) hka hro).2))))) rfl ?_)
  refine s_cons (op_move (.bool (!(decide (r6 = (riseL steps values (riseN steps 60)))))) rfl ?_)
  refine s_yes 51 rfl (congrArg Value.bool (congrArg (! ·) (show (decide (r6 = (riseL steps values (riseN steps 60)))) = true from (decide_eq_true (by first | exact (decS_enc (by assumption) hks hLO).1 | exact (decA_enc (by assumption) hka hro).1))))) (op_move r3 rfl ?_)
  refine s_yes 51 rfl (congrArg Value.bool (congrArg (! ·) (show (decide (r6 = (riseL steps values (riseN steps 60)))) = true from (decide_eq_true (by first | exact (decS_enc (by assumption) hks hLO).1 | exact (decA_enc (by assumption) hka hro).1))))) (op_len (E := u8E) (xs := (encS (riseL steps values (riseN steps 60))).1) Try.underlying24 rfl (hst.sl 1 rfl) ?_)
  refine s_yes 51 rfl (congrArg Value.bool (congrArg (! ·) (show (decide (r6 = (riseL steps values (riseN steps 60)))) = true from (decide_eq_true (by first | exact (decS_enc (by assumption) hks hLO).1 | exact (decA_enc (by assumption) hka hro).1))))) (op_lss (k := .i64) (a := (((encS (riseL steps values (riseN steps 60))).1).length : Int)) (b := 1) rfl rfl ?_)
  refine s_cons (op_pick_f (.bool (decide ((((encS (riseL steps values (riseN steps 60))).1).length : Int) < 1))) (congrArg Value.bool (congrArg (! ·) (show (decide (r6 = (riseL steps values (riseN steps 60)))) = true from (decide_eq_true (by first | exact (decS_enc (by assumption) hks hLO).1 | exact (decA_enc (by assumption) hka hro).1))))) rfl ?_)
  refine s_nil ?_
  refine then_n ?_
  refine cE_cond false (congrArg Value.bool (show (decide ((((encS (riseL steps values (riseN steps 60))).1).length : Int) < 1)) = false from (decide_eq_false (by omega)))) (fun h => by cases h) (fun _ => ?_)
  refine cE_skip ?_
  refine then_n ?_
  refine cE_seq ?_
  refine cE_region rfl ?_
  refine s_cons (op_move (.int .i64 a4) rfl ?_)
  refine s_cons (op_conv (k := .i64) (a := a4) (a4 % 18446744073709551616) Try.underlying44 (by rw [Try.underlying3]; rfl) rfl (IntKind.wrap_u64 _) ?_)
  refine s_cons (op_move r3 rfl ?_)
  refine s_cons (op_len (E := u8E) (xs := (encS (riseL steps values (riseN steps 60))).1) Try.underlying24 rfl (hst.sl 1 rfl) ?_)
  refine s_cons (op_conv (k := .i64) (a := (((encS (riseL steps values (riseN steps 60))).1).length : Int)) (((encS (riseL steps values (riseN steps 60))).1).length : Int) Try.underlying44 (by rw [Try.underlying3]; rfl) rfl (xu64 (by omega) (by omega)) ?_)
  obtain ⟨q, hq, hql⟩ := rem_nat (a := (a4 % 18446744073709551616)) (b := (((encS (riseL steps values (riseN steps 60))).1).length : Int)) (by omega) (by omega)
  refine s_cons (op_rem (k := .u64) (a := (a4 % 18446744073709551616)) (b := (((encS (riseL steps values (riseN steps 60))).1).length : Int)) (q : Int) rfl rfl (by omega) hq ?_)
  refine s_cons (op_conv (k := .u64) (a := (q : Int)) (q : Int) Try.underlying3 (by rw [Try.underlying44]; rfl) rfl (xi64 (by omega) (by omega)) ?_)
  refine s_cons (op_assign (.int .i64 (q : Int)) rfl ?_)
  refine s_nil ?_
  refine then_n ?_
  refine cE_seq ?_
  refine cE_seq ?_
  refine cE_region rfl ?_
  refine s_cons (op_move r3 rfl ?_)
  refine s_cons (op_move (.int .i64 (q : Int)) rfl ?_)
  refine s_cons (op_slice_toN q (E := u8E) (xs := (encS (riseL steps values (riseN steps 60))).1) Try.underlying24 Try.sizeOf5 rfl (hst.sl 1 rfl) rfl (by omega) (by omega) (fun v11 hs12 => ?_))
  refine s_cons (op_call Try.call11 (evs_cons (v := v11) rfl evs_nil) (c_kGet (w0 := w10) (v_b := v11) (b := (((encS (riseL steps values (riseN steps 60))).1).take q)) (h_b := hs12) (hl := (by first | omega | (simp; omega)))) ?_)
  rintro _ w17 ⟨r13, r14, r15, rfl, hcall, x16⟩
  refine ⟨_, rfl, ?_⟩
  have hst : St w0 w17 [rowT 48 sampE r13 r14, rowT 48 sampE r5 r6, rowT 5 u8E r3 ((encS (riseL steps values (riseN steps 60))).1), rowT 48 sampE r1 (riseL steps values (riseN steps 60))] := hst.call hcall
  refine s_cons (op_move (.tuple #[r13, (.int .i64 r15)]) rfl ?_)
  refine s_cons (op_extract r13 rfl rfl ?_)
  refine s_cons (op_extract (.int .i64 r15) rfl rfl ?_)
  refine s_cons (op_assign r13 rfl ?_)
  refine s_cons (op_assign (.int .i64 r15) rfl ?_)
  refine s_nil ?_
  refine then_n ?_
  refine cE_seq ?_
  refine cE_region rfl ?_
  refine s_cons (op_move (.int .i64 r15) rfl ?_)
  refine s_cons (op_neq (k := .i64) (a := r15) (b := 2) rfl rfl ?_)
  refine s_nil ?_
  refine then_n ?_
  refine cE_cond false (congrArg Value.bool (congrArg (! ·) (show (decide (r15 = 2)) = true from (decide_eq_true (by first | exact decS_enccut (by assumption) hks hLO (by omega) | exact decA_encmore (by assumption) hka hro (by decide)))))) (fun h => by cases h) (fun _ => ?_)
  refine cE_skip ?_
  refine then_n ?_
  refine cE_seq ?_
  refine cE_region rfl ?_
  refine s_cons (op_move (.int .i64 a3) rfl ?_)
  refine s_cons (op_conv (k := .i64) (a := a3) (a3 % 18446744073709551616) Try.underlying44 (by rw [Try.underlying3]; rfl) rfl (IntKind.wrap_u64 _) ?_)
  obtain ⟨n, hn, hnl⟩ := rem_nat (a := (a3 % 18446744073709551616)) (b := 3) (by omega) (by omega)
  refine s_cons (op_rem (k := .u64) (a := (a3 % 18446744073709551616)) (b := 3) (n : Int) rfl rfl (by omega) hn ?_)
  refine s_cons (op_conv (k := .u64) (a := (n : Int)) (n : Int) Try.underlying3 (by rw [Try.underlying44]; rfl) rfl (xi64 (by omega) (by omega)) ?_)
  refine s_cons (op_add (k := .i64) (a := 1) (b := (n : Int)) (1 + (n : Int)) rfl rfl (xi64 (by omega) (by omega)) ?_)
  refine s_cons (op_assign (.int .i64 (1 + (n : Int))) rfl ?_)
  refine s_nil ?_
  refine then_n ?_
  refine cE_seq ?_
  refine cE_region rfl ?_
  refine s_cons (op_move r1 rfl ?_)
  refine s_cons (op_move (.int .i64 (1 + (n : Int))) rfl ?_)
  refine s_cons (op_call Try.call20 (evs_cons (v := r1) rfl (evs_cons (v := (.int .i64 (1 + (n : Int)))) rfl evs_nil)) (c_rRaw (w0 := w17) (v_l := r1) (l := (riseL steps values (riseN steps 60))) (h_l := (hst.sl 3 rfl)) (k := (1 + (n : Int))) (hl := hLO) (hn := (by omega)) (k0 := (by omega)) (k1 := (by omega))) ?_)
  rintro _ w19 ⟨r18, rfl, hcall⟩
  refine ⟨_, rfl, ?_⟩
  have hst : St w0 w19 [rowT 71 aggE r18 ((rawA (riseL steps values (riseN steps 60)) (1 + (n : Int))).1), rowT 48 sampE r13 r14, rowT 48 sampE r5 r6, rowT 5 u8E r3 ((encS (riseL steps values (riseN steps 60))).1), rowT 48 sampE r1 (riseL steps values (riseN steps 60))] := hst.call hcall
  refine s_cons (op_move (.tuple #[r18, (.int .i64 ((rawA (riseL steps values (riseN steps 60)) (1 + (n : Int))).2))]) rfl ?_)
  refine s_cons (op_extract r18 rfl rfl ?_)
  refine s_cons (op_extract (.int .i64 ((rawA (riseL steps values (riseN steps 60)) (1 + (n : Int))).2)) rfl rfl ?_)
  refine s_cons (op_assign r18 rfl ?_)
  refine s_cons (op_assign (.int .i64 ((rawA (riseL steps values (riseN steps 60)) (1 + (n : Int))).2)) rfl ?_)
  refine s_nil ?_
  refine then_n ?_
  refine cE_seq ?_
  refine cE_seq ?_
  refine cE_region rfl ?_
  refine s_cons (op_move (.int .i64 ((rawA (riseL steps values (riseN steps 60)) (1 + (n : Int))).2)) rfl ?_)
  refine s_cons (op_neq (k := .i64) (a := (rawA (riseL steps values (riseN steps 60)) (1 + (n : Int))).2) (b := 0) rfl rfl ?_)
  refine s_cons (op_move (.bool (!decide (((rawA (riseL steps values (riseN steps 60)) (1 + (n : Int))).2) = 0))) rfl ?_)
  rcases Bool.eq_false_or_eq_true (decide (((rawA (riseL steps values (riseN steps 60)) (1 + (n : Int))).2) = 0)) with b20 | b20
  · have c21 : ((rawA (riseL steps values (riseN steps 60)) (1 + (n : Int))).2) = 0 := of_decide_eq_true b20
    refine s_yes 85 rfl (congrArg Value.bool (congrArg (! ·) b20)) (op_move r18 rfl ?_)
    refine s_yes 85 rfl (congrArg Value.bool (congrArg (! ·) b20)) (op_len (E := aggE) (xs := (rawA (riseL steps values (riseN steps 60)) (1 + (n : Int))).1) Try.underlying23 rfl (hst.sl 0 rfl) ?_)
    refine s_yes 85 rfl (congrArg Value.bool (congrArg (! ·) b20)) (op_gtr (k := .i64) (a := (((rawA (riseL steps values (riseN steps 60)) (1 + (n : Int))).1).length : Int)) (b := 64) rfl rfl ?_)
    refine s_cons (op_pick_f (.bool (decide (64 < (((rawA (riseL steps values (riseN steps 60)) (1 + (n : Int))).1).length : Int)))) (congrArg Value.bool (congrArg (! ·) b20)) rfl ?_)
    refine s_nil ?_
    refine then_n ?_
    rcases Bool.eq_false_or_eq_true (decide (64 < (((rawA (riseL steps values (riseN steps 60)) (1 + (n : Int))).1).length : Int))) with b22 | b22
    · have c23 : 64 < (((rawA (riseL steps values (riseN steps 60)) (1 + (n : Int))).1).length : Int) := of_decide_eq_true b22
      refine cE_cond true (congrArg Value.bool b22) (fun _ => ?_) (fun h => by cases h)
      refine cE_seq ?_
      refine cE_region rfl ?_
      refine s_cons (op_call Try.call8 evs_nil (c_told6 (w0 := w19)) ?_)
      rintro _ w24 ⟨rfl, hcall⟩
      refine ⟨_, rfl, ?_⟩
      have hst : St w0 w24 [rowT 71 aggE r18 ((rawA (riseL steps values (riseN steps 60)) (1 + (n : Int))).1), rowT 48 sampE r13 r14, rowT 48 sampE r5 r6, rowT 5 u8E r3 ((encS (riseL steps values (riseN steps 60))).1), rowT 48 sampE r1 (riseL steps values (riseN steps 60))] := hst.call hcall
      refine s_cons (op_assign (.bool true) rfl ?_)
      refine s_nil ?_
      refine then_n ?_
      refine cE_ret ?_
      refine then_r ?_
      refine post_r _ (res1 (v := (.bool true)) rfl) ?_
      exact ⟨rfl, hst.bare⟩
    · have c25 : ¬ (64 < (((rawA (riseL steps values (riseN steps 60)) (1 + (n : Int))).1).length : Int)) := of_decide_eq_false b22
      refine cE_cond false (congrArg Value.bool b22) (fun h => by cases h) (fun _ => ?_)
      refine cE_skip ?_
      refine then_n ?_
      refine cE_seq ?_
      have hka := raw_okA (l := (riseL steps values (riseN steps 60))) (k := (1 + (n : Int))) (by omega) (by omega) hLR (by omega) (by omega)
      have hro := rawA_ok (k := (1 + (n : Int))) hLO
      have hpa := encA_len64 hka
      refine cE_region rfl ?_
      refine s_cons (op_move r18 rfl ?_)
      refine s_cons (op_move (.int .i64 (1 + (n : Int))) rfl ?_)
      refine s_cons (op_call Try.call13 (evs_cons (v := r18) rfl (evs_cons (v := (.int .i64 (1 + (n : Int)))) rfl evs_nil)) (c_kPutAggs (w0 := w19) (v_l := r18) (l := (rawA (riseL steps values (riseN steps 60)) (1 + (n : Int))).1) (h_l := (hst.sl 0 rfl)) (k := (1 + (n : Int))) (hl := hro) (k0 := (by omega)) (k1 := (by omega))) ?_)
      rintro _ w27 ⟨r26, rfl, hcall⟩
      refine ⟨_, rfl, ?_⟩
      have hst : St w0 w27 [rowT 5 u8E r26 ((encA (1 + (n : Int)) ((rawA (riseL steps values (riseN steps 60)) (1 + (n : Int))).1)).1), rowT 71 aggE r18 ((rawA (riseL steps values (riseN steps 60)) (1 + (n : Int))).1), rowT 48 sampE r13 r14, rowT 48 sampE r5 r6, rowT 5 u8E r3 ((encS (riseL steps values (riseN steps 60))).1), rowT 48 sampE r1 (riseL steps values (riseN steps 60))] := hst.call hcall
      refine s_cons (op_move (.tuple #[r26, (.int .i64 ((encA (1 + (n : Int)) ((rawA (riseL steps values (riseN steps 60)) (1 + (n : Int))).1)).2))]) rfl ?_)
      refine s_cons (op_extract r26 rfl rfl ?_)
      refine s_cons (op_extract (.int .i64 ((encA (1 + (n : Int)) ((rawA (riseL steps values (riseN steps 60)) (1 + (n : Int))).1)).2)) rfl rfl ?_)
      refine s_cons (op_assign r26 rfl ?_)
      refine s_cons (op_assign (.int .i64 ((encA (1 + (n : Int)) ((rawA (riseL steps values (riseN steps 60)) (1 + (n : Int))).1)).2)) rfl ?_)
      refine s_nil ?_
      refine then_n ?_
      refine cE_seq ?_
      refine cE_region rfl ?_
      refine s_cons (op_move r26 rfl ?_)
      refine s_cons (op_move (.int .i64 (1 + (n : Int))) rfl ?_)
      refine s_cons (op_call Try.call15 (evs_cons (v := r26) rfl (evs_cons (v := (.int .i64 (1 + (n : Int)))) rfl evs_nil)) (c_kGetAggs (w0 := w27) (v_b := r26) (b := (encA (1 + (n : Int)) ((rawA (riseL steps values (riseN steps 60)) (1 + (n : Int))).1)).1) (h_b := (hst.sl 0 rfl)) (k := (1 + (n : Int))) (hl := (by first | omega | (simp; omega))) (k0 := (by omega)) (k1 := (by omega))) ?_)
      rintro _ w32 ⟨r28, r29, r30, rfl, hcall, x31⟩
      refine ⟨_, rfl, ?_⟩
      have hst : St w0 w32 [rowT 71 aggE r28 r29, rowT 5 u8E r26 ((encA (1 + (n : Int)) ((rawA (riseL steps values (riseN steps 60)) (1 + (n : Int))).1)).1), rowT 71 aggE r18 ((rawA (riseL steps values (riseN steps 60)) (1 + (n : Int))).1), rowT 48 sampE r13 r14, rowT 48 sampE r5 r6, rowT 5 u8E r3 ((encS (riseL steps values (riseN steps 60))).1), rowT 48 sampE r1 (riseL steps values (riseN steps 60))] := hst.call hcall
      refine s_cons (op_move (.tuple #[r28, (.int .i64 r30)]) rfl ?_)
      refine s_cons (op_extract r28 rfl rfl ?_)
      refine s_cons (op_extract (.int .i64 r30) rfl rfl ?_)
      refine s_cons (op_assign r28 rfl ?_)
      refine s_cons (op_assign (.int .i64 r30) rfl ?_)
      refine s_nil ?_
      refine then_n ?_
      refine cE_seq ?_
      refine cE_region rfl ?_
      refine s_cons (op_buildSlice (E := u8E) [] hst Try.underlying24 Try.sizeOf5 Try.zeroValue5 evp_nil parts_nil rfl (by decide) (fun v33 w34 hst => ?_))
      replace hst : St w0 w34 [rowT 5 u8E v33 ([]), rowT 71 aggE r28 r29, rowT 5 u8E r26 ((encA (1 + (n : Int)) ((rawA (riseL steps values (riseN steps 60)) (1 + (n : Int))).1)).1), rowT 71 aggE r18 ((rawA (riseL steps values (riseN steps 60)) (1 + (n : Int))).1), rowT 48 sampE r13 r14, rowT 48 sampE r5 r6, rowT 5 u8E r3 ((encS (riseL steps values (riseN steps 60))).1), rowT 48 sampE r1 (riseL steps values (riseN steps 60))] := hst
      refine s_cons (op_move r26 rfl ?_)
      refine s_cons (op_append (E := u8E) (xs := []) (ys := (encA (1 + (n : Int)) ((rawA (riseL steps values (riseN steps 60)) (1 + (n : Int))).1)).1) (z := (.int .u8 0)) (bytes := 1) hst 0 rfl Try.underlying24 (by kernel_rfl) rfl rfl rfl (hst.sl 2 rfl) (by first | omega | (simp; omega) | (simp; done)) (by first | omega | (simp; omega) | (simp; done)) (fun v35 w36 hst => ?_))
      replace hst : St w0 w36 [rowT 5 u8E v35 ((encA (1 + (n : Int)) ((rawA (riseL steps values (riseN steps 60)) (1 + (n : Int))).1)).1), rowT 71 aggE r28 r29, rowT 5 u8E r26 ((encA (1 + (n : Int)) ((rawA (riseL steps values (riseN steps 60)) (1 + (n : Int))).1)).1), rowT 71 aggE r18 ((rawA (riseL steps values (riseN steps 60)) (1 + (n : Int))).1), rowT 48 sampE r13 r14, rowT 48 sampE r5 r6, rowT 5 u8E r3 ((encS (riseL steps values (riseN steps 60))).1), rowT 48 sampE r1 (riseL steps values (riseN steps 60))] := hst
      refine s_cons (op_buildSlice (E := u8E) [(byt 1)] hst Try.underlying24 Try.sizeOf5 Try.zeroValue5 (evp_cons (v := (.int .u8 1)) rfl evp_nil) (parts_cons (by rw [u8cell]; exact byt_cell (by omega) (by omega)) parts_nil) rfl (by decide) (fun v37 w38 hst => ?_))
      replace hst : St w0 w38 [rowT 5 u8E v37 ([(byt 1)]), rowT 5 u8E v35 ((encA (1 + (n : Int)) ((rawA (riseL steps values (riseN steps 60)) (1 + (n : Int))).1)).1), rowT 71 aggE r28 r29, rowT 5 u8E r26 ((encA (1 + (n : Int)) ((rawA (riseL steps values (riseN steps 60)) (1 + (n : Int))).1)).1), rowT 71 aggE r18 ((rawA (riseL steps values (riseN steps 60)) (1 + (n : Int))).1), rowT 48 sampE r13 r14, rowT 48 sampE r5 r6, rowT 5 u8E r3 ((encS (riseL steps values (riseN steps 60))).1), rowT 48 sampE r1 (riseL steps values (riseN steps 60))] := hst
      refine s_cons (op_append (E := u8E) (xs := (encA (1 + (n : Int)) ((rawA (riseL steps values (riseN steps 60)) (1 + (n : Int))).1)).1) (ys := [(byt 1)]) (z := (.int .u8 0)) (bytes := 1) hst 1 rfl Try.underlying24 (by kernel_rfl) rfl rfl rfl (hst.sl 0 rfl) (by first | omega | (simp; omega) | (simp; done)) (by first | omega | (simp; omega) | (simp; done)) (fun v39 w40 hst => ?_))
      replace hst : St w0 w40 [rowT 5 u8E v37 ([(byt 1)]), rowT 5 u8E v39 (((encA (1 + (n : Int)) ((rawA (riseL steps values (riseN steps 60)) (1 + (n : Int))).1)).1) ++ ([(byt 1)])), rowT 71 aggE r28 r29, rowT 5 u8E r26 ((encA (1 + (n : Int)) ((rawA (riseL steps values (riseN steps 60)) (1 + (n : Int))).1)).1), rowT 71 aggE r18 ((rawA (riseL steps values (riseN steps 60)) (1 + (n : Int))).1), rowT 48 sampE r13 r14, rowT 48 sampE r5 r6, rowT 5 u8E r3 ((encS (riseL steps values (riseN steps 60))).1), rowT 48 sampE r1 (riseL steps values (riseN steps 60))] := hst
      refine s_cons (op_move (.int .i64 (1 + (n : Int))) rfl ?_)
      refine s_cons (op_call Try.call15 (evs_cons (v := v39) rfl (evs_cons (v := (.int .i64 (1 + (n : Int)))) rfl evs_nil)) (c_kGetAggs (w0 := w40) (v_b := v39) (b := (((encA (1 + (n : Int)) ((rawA (riseL steps values (riseN steps 60)) (1 + (n : Int))).1)).1) ++ ([(byt 1)]))) (h_b := (hst.sl 1 rfl)) (k := (1 + (n : Int))) (hl := (by first | omega | (simp; omega))) (k0 := (by omega)) (k1 := (by omega))) ?_)
      rintro _ w45 ⟨r41, r42, r43, rfl, hcall, x44⟩
      refine ⟨_, rfl, ?_⟩
      have hst : St w0 w45 [rowT 71 aggE r41 r42, rowT 5 u8E v37 ([(byt 1)]), rowT 5 u8E v39 (((encA (1 + (n : Int)) ((rawA (riseL steps values (riseN steps 60)) (1 + (n : Int))).1)).1) ++ ([(byt 1)])), rowT 71 aggE r28 r29, rowT 5 u8E r26 ((encA (1 + (n : Int)) ((rawA (riseL steps values (riseN steps 60)) (1 + (n : Int))).1)).1), rowT 71 aggE r18 ((rawA (riseL steps values (riseN steps 60)) (1 + (n : Int))).1), rowT 48 sampE r13 r14, rowT 48 sampE r5 r6, rowT 5 u8E r3 ((encS (riseL steps values (riseN steps 60))).1), rowT 48 sampE r1 (riseL steps values (riseN steps 60))] := hst.call hcall
      refine s_cons (op_move (.tuple #[r41, (.int .i64 r43)]) rfl ?_)
      refine s_cons (op_extract r41 rfl rfl ?_)
      refine s_cons (op_extract (.int .i64 r43) rfl rfl ?_)
      refine s_cons (op_assign r41 rfl ?_)
      refine s_cons (op_assign (.int .i64 r43) rfl ?_)
      refine s_nil ?_
      refine then_n ?_
      refine cE_seq ?_
      refine cE_region rfl ?_
      refine s_cons (op_call Try.call8 evs_nil (c_told6 (w0 := w45)) ?_)
      rintro _ w46 ⟨rfl, hcall⟩
      refine ⟨_, rfl, ?_⟩
      have hst : St w0 w46 [rowT 71 aggE r41 r42, rowT 5 u8E v37 ([(byt 1)]), rowT 5 u8E v39 (((encA (1 + (n : Int)) ((rawA (riseL steps values (riseN steps 60)) (1 + (n : Int))).1)).1) ++ ([(byt 1)])), rowT 71 aggE r28 r29, rowT 5 u8E r26 ((encA (1 + (n : Int)) ((rawA (riseL steps values (riseN steps 60)) (1 + (n : Int))).1)).1), rowT 71 aggE r18 ((rawA (riseL steps values (riseN steps 60)) (1 + (n : Int))).1), rowT 48 sampE r13 r14, rowT 48 sampE r5 r6, rowT 5 u8E r3 ((encS (riseL steps values (riseN steps 60))).1), rowT 48 sampE r1 (riseL steps values (riseN steps 60))] := hst.call hcall
      refine s_cons (op_move (.bool true) rfl ?_)
      refine s_yes 114 rfl rfl (op_move (.int .i64 ((encA (1 + (n : Int)) ((rawA (riseL steps values (riseN steps 60)) (1 + (n : Int))).1)).2)) rfl ?_)
      refine s_yes 114 rfl rfl (op_eql (k := .i64) (a := (encA (1 + (n : Int)) ((rawA (riseL steps values (riseN steps 60)) (1 + (n : Int))).1)).2) (b := 0) rfl rfl ?_)
      refine s_cons (op_pick_t (.bool (decide (((encA (1 + (n : Int)) ((rawA (riseL steps values (riseN steps 60)) (1 + (n : Int))).1)).2) = 0))) rfl rfl ?_)
      refine s_cons (op_move (.bool (decide (((encA (1 + (n : Int)) ((rawA (riseL steps values (riseN steps 60)) (1 + (n : Int))).1)).2) = 0))) rfl ?_)
      refine s_yes 118 rfl (congrArg Value.bool (show (decide (((encA (1 + (n : Int)) ((rawA (riseL steps values (riseN steps 60)) (1 + (n : Int))).1)).2) = 0)) = true from (decide_eq_true (by rw [encA_yes hka])))) (op_move (.int .i64 r30) rfl ?_)
      refine s_yes 118 rfl (congrArg Value.bool (show (decide (((encA (1 + (n : Int)) ((rawA (riseL steps values (riseN steps 60)) (1 + (n : Int))).1)).2) = 0)) = true from (decide_eq_true (by rw [encA_yes hka])))) (op_eql (k := .i64) (a := r30) (b := 0) rfl rfl ?_)
      refine s_cons (op_pick_t (.bool (decide (r30 = 0))) (congrArg Value.bool (show (decide (((encA (1 + (n : Int)) ((rawA (riseL steps values (riseN steps 60)) (1 + (n : Int))).1)).2) = 0)) = true from (decide_eq_true (by rw [encA_yes hka])))) rfl ?_)
      refine s_cons (op_move (.bool (decide (r30 = 0))) rfl ?_)
      refine s_yes 122 rfl (congrArg Value.bool (show (decide (r30 = 0)) = true from (decide_eq_true (by first | exact (decS_enc (by assumption) hks hLO).2 | exact (decA_enc (by assumption) hka hro).2)))) (op_move r28 rfl ?_)
      refine s_yes 122 rfl (congrArg Value.bool (show (decide (r30 = 0)) = true from (decide_eq_true (by first | exact (decS_enc (by assumption) hks hLO).2 | exact (decA_enc (by assumption) hka hro).2)))) (op_move r18 rfl ?_)
      refine s_yes 122 rfl (congrArg Value.bool (show (decide (r30 = 0)) = true from (decide_eq_true (by first | exact (decS_enc (by assumption) hks hLO).2 | exact (decA_enc (by assumption) hka hro).2)))) (op_call Try.call18 (evs_cons (v := r28) rfl (evs_cons (v := r18) rfl evs_nil)) (c_SameAggs (w0 := w46) (v_a := r28) (a := r29) (h_a := (hst.sl 3 rfl)) (v_b := r18) (b := (rawA (riseL steps values (riseN steps 60)) (1 + (n : Int))).1) (h_b := (hst.sl 5 rfl))) ?_)
      rintro _ w47 ⟨rfl, hcall⟩
      refine ⟨_, rfl, ?_⟩
      have hst : St w0 w47 [rowT 71 aggE r41 r42, rowT 5 u8E v37 ([(byt 1)]), rowT 5 u8E v39 (((encA (1 + (n : Int)) ((rawA (riseL steps values (riseN steps 60)) (1 + (n : Int))).1)).1) ++ ([(byt 1)])), rowT 71 aggE r28 r29, rowT 5 u8E r26 ((encA (1 + (n : Int)) ((rawA (riseL steps values (riseN steps 60)) (1 + (n : Int))).1)).1), rowT 71 aggE r18 ((rawA (riseL steps values (riseN steps 60)) (1 + (n : Int))).1), rowT 48 sampE r13 r14, rowT 48 sampE r5 r6, rowT 5 u8E r3 ((encS (riseL steps values (riseN steps 60))).1), rowT 48 sampE r1 (riseL steps values (riseN steps 60))] := hst.call hcall
      refine s_cons (op_pick_t (.bool (decide (r29 = (rawA (riseL steps values (riseN steps 60)) (1 + (n : Int))).1))) (congrArg Value.bool (show (decide (r30 = 0)) = true from (decide_eq_true (by first | exact (decS_enc (by assumption) hks hLO).2 | exact (decA_enc (by assumption) hka hro).2)))) rfl ?_)
      refine s_cons (op_move (.bool (decide (r29 = (rawA (riseL steps values (riseN steps 60)) (1 + (n : Int))).1))) rfl ?_)
      refine s_yes 127 rfl (congrArg Value.bool (show (decide (r29 = (rawA (riseL steps values (riseN steps 60)) (1 + (n : Int))).1)) = true from (decide_eq_true (by first | exact (decS_enc (by assumption) hks hLO).1 | exact (decA_enc (by assumption) hka hro).1)))) (op_move (.int .i64 r43) rfl ?_)
      refine s_yes 127 rfl (congrArg Value.bool (show (decide (r29 = (rawA (riseL steps values (riseN steps 60)) (1 + (n : Int))).1)) = true from (decide_eq_true (by first | exact (decS_enc (by assumption) hks hLO).1 | exact (decA_enc (by assumption) hka hro).1)))) (op_eql (k := .i64) (a := r43) (b := 2) rfl rfl ?_)
      refine s_cons (op_pick_t (.bool (decide (r43 = 2))) (congrArg Value.bool (show (decide (r29 = (rawA (riseL steps values (riseN steps 60)) (1 + (n : Int))).1)) = true from (decide_eq_true (by first | exact (decS_enc (by assumption) hks hLO).1 | exact (decA_enc (by assumption) hka hro).1)))) rfl ?_)
      refine s_cons (op_assign (.bool (decide (r43 = 2))) rfl ?_)
      refine s_nil ?_
      refine then_n ?_
      refine cE_ret ?_
      refine post_r _ (res1 (v := (.bool true)) (congrArg Value.bool (show (decide (r43 = 2)) = true from (decide_eq_true (by first | exact decS_enccut (by assumption) hks hLO (by omega) | exact decA_encmore (by assumption) hka hro (by decide)))))) ?_
      exact ⟨rfl, hst.bare⟩
  · have c48 : ¬ (((rawA (riseL steps values (riseN steps 60)) (1 + (n : Int))).2) = 0) := of_decide_eq_false b20
    refine s_no 85 rfl (congrArg Value.bool (congrArg (! ·) b20)) ?_
    refine s_no 85 rfl (congrArg Value.bool (congrArg (! ·) b20)) ?_
    refine s_no 85 rfl (congrArg Value.bool (congrArg (! ·) b20)) ?_
    refine s_cons (op_pick_t (.bool true) (congrArg Value.bool (congrArg (! ·) b20)) rfl ?_)
    refine s_nil ?_
    refine then_n ?_
    refine cE_cond true rfl (fun _ => ?_) (fun h => by cases h)
    refine cE_seq ?_
    refine cE_region rfl ?_
    refine s_cons (op_call Try.call8 evs_nil (c_told6 (w0 := w19)) ?_)
    rintro _ w49 ⟨rfl, hcall⟩
    refine ⟨_, rfl, ?_⟩
    have hst : St w0 w49 [rowT 71 aggE r18 ((rawA (riseL steps values (riseN steps 60)) (1 + (n : Int))).1), rowT 48 sampE r13 r14, rowT 48 sampE r5 r6, rowT 5 u8E r3 ((encS (riseL steps values (riseN steps 60))).1), rowT 48 sampE r1 (riseL steps values (riseN steps 60))] := hst.call hcall
    refine s_cons (op_assign (.bool true) rfl ?_)
    refine s_nil ?_
    refine then_n ?_
    refine cE_ret ?_
    refine then_r ?_
    refine post_r _ (res1 (v := (.bool true)) rfl) ?_
    exact ⟨rfl, hst.bare⟩

end Go.Proofs.Ytpamjfbdgaamoaa
