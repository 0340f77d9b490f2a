/- twinkeeplaw6.BlockReads -/
import Derived.Test.YtpamjfbdgaamoaaW40
namespace Go.Proofs.Ytpamjfbdgaamoaa
open Go.RowKit

set_option maxHeartbeats 4000000 in
theorem c_BlockReads (w0 : World) (v_b : Value) (b : List UInt8) (h_b : Sl w0 u8E v_b b) (k : Int) (k0 : -9223372036854775808 ≤ k) (k1 : k ≤ 9223372036854775807) :
    Calls Try.prog 6 #[v_b, (.int .i64 k)] w0 fun e w' => e = .returned (.bool true) ∧ St w0 w' [] := by
  refine calls_E (n := 84) (ts := [4]) Try.func6 rfl rfl rfl (by simp) ?_
  have hst := St.start w0
  refine cE_seq ?_
  refine cE_region rfl ?_
  refine s_cons (op_assign (.bool false) rfl ?_)
  refine s_nil ?_
  refine then_n ?_
  refine cE_seq ?_
  refine cE_seq ?_
  refine cE_region rfl ?_
  refine s_cons (op_move v_b rfl ?_)
  refine s_cons (op_len (E := u8E) (xs := b) Try.underlying24 rfl h_b ?_)
  refine s_cons (op_gtr (k := .i64) (a := (b.length : Int)) (b := 200) rfl rfl ?_)
  refine s_nil ?_
  refine then_n ?_
  rcases Bool.eq_false_or_eq_true (decide (200 < (b.length : Int))) with b1 | b1
  · have c2 : 200 < (b.length : Int) := of_decide_eq_true b1
    refine cE_cond true (congrArg Value.bool b1) (fun _ => ?_) (fun h => by cases h)
    refine cE_seq ?_
    refine cE_region rfl ?_
    refine s_cons (op_call Try.call8 evs_nil (c_told6 (w0 := w0)) ?_)
    rintro _ w3 ⟨rfl, hcall⟩
    refine ⟨_, rfl, ?_⟩
    have hst : St w0 w3 [] := hst.call hcall
    refine s_cons (op_assign (.bool true) rfl ?_)
    refine s_nil ?_
    refine then_n ?_
    refine cE_ret ?_
    refine then_r ?_
    refine post_r _ (res1 (v := (.bool true)) rfl) ?_
    exact ⟨rfl, hst.bare⟩
  · have c4 : ¬ (200 < (b.length : Int)) := of_decide_eq_false b1
    refine cE_cond false (congrArg Value.bool b1) (fun h => by cases h) (fun _ => ?_)
    refine cE_skip ?_
    refine then_n ?_
    refine cE_seq ?_
    refine cE_region rfl ?_
    refine s_cons (op_move v_b rfl ?_)
    refine s_cons (op_call Try.call11 (evs_cons (v := v_b) rfl evs_nil) (c_kGet (w0 := w0) (v_b := v_b) (b := b) (h_b := (h_b.below hst.below)) (hl := (by omega))) ?_)
    rintro _ w9 ⟨r5, r6, r7, rfl, hcall, x8⟩
    refine ⟨_, rfl, ?_⟩
    have hst : St w0 w9 [rowT 48 sampE r5 r6] := hst.call hcall
    refine s_cons (op_move (.tuple #[r5, (.int .i64 r7)]) rfl ?_)
    refine s_cons (op_extract r5 rfl rfl ?_)
    refine s_cons (op_extract (.int .i64 r7) rfl rfl ?_)
    refine s_cons (op_assign r5 rfl ?_)
    refine s_cons (op_assign (.int .i64 r7) rfl ?_)
    refine s_nil ?_
    refine then_n ?_
    refine cE_seq ?_
    refine cE_seq ?_
    refine cE_region rfl ?_
    refine s_cons (op_move (.int .i64 r7) rfl ?_)
    refine s_cons (op_eql (k := .i64) (a := r7) (b := 0) rfl rfl ?_)
    refine s_nil ?_
    refine then_n ?_
    rcases Bool.eq_false_or_eq_true (decide (r7 = 0)) with b10 | b10
    · have c11 : r7 = 0 := of_decide_eq_true b10
      refine cE_cond true (congrArg Value.bool b10) (fun _ => ?_) (fun h => by cases h)
      refine cE_seq ?_
      refine cE_region rfl ?_
      refine s_cons (op_move r5 rfl ?_)
      refine s_cons (op_call Try.call9 (evs_cons (v := r5) rfl evs_nil) (c_kPut (w0 := w9) (v_l := r5) (l := r6) (h_l := (hst.sl 0 rfl)) (hl := (decS_ok (by assumption)))) ?_)
      rintro _ w13 ⟨r12, rfl, hcall⟩
      refine ⟨_, rfl, ?_⟩
      have hst : St w0 w13 [rowT 5 u8E r12 ((encS r6).1), rowT 48 sampE r5 r6] := hst.call hcall
      refine s_cons (op_move (.tuple #[r12, (.int .i64 ((encS r6).2))]) rfl ?_)
      refine s_cons (op_extract r12 rfl rfl ?_)
      refine s_cons (op_extract (.int .i64 ((encS r6).2)) rfl rfl ?_)
      refine s_cons (op_assign r12 rfl ?_)
      refine s_cons (op_assign (.int .i64 ((encS r6).2)) rfl ?_)
      refine s_nil ?_
      refine then_n ?_
      refine cE_seq ?_
      refine cE_region rfl ?_
      refine s_cons (op_move (.int .i64 ((encS r6).2)) rfl ?_)
      refine s_cons (op_neq (k := .i64) (a := (encS r6).2) (b := 0) rfl rfl ?_)
      refine s_cons (op_move (.bool (!decide (((encS r6).2) = 0))) rfl ?_)
      refine s_yes 31 rfl (congrArg Value.bool (congrArg (! ·) (show (decide (((encS r6).2) = 0)) = true from (decide_eq_true (by rw [decS_again (by assumption) (by assumption)]))))) (op_move r12 rfl ?_)
      refine s_yes 31 rfl (congrArg Value.bool (congrArg (! ·) (show (decide (((encS r6).2) = 0)) = true from (decide_eq_true (by rw [decS_again (by assumption) (by assumption)]))))) (op_str (xs := (encS r6).1) Try.underlying24 Try.underlying5 Try.underlying9 rfl (hst.sl 0 rfl) ?_)
      refine s_yes 31 rfl (congrArg Value.bool (congrArg (! ·) (show (decide (((encS r6).2) = 0)) = true from (decide_eq_true (by rw [decS_again (by assumption) (by assumption)]))))) (op_move v_b rfl ?_)
      refine s_yes 31 rfl (congrArg Value.bool (congrArg (! ·) (show (decide (((encS r6).2) = 0)) = true from (decide_eq_true (by rw [decS_again (by assumption) (by assumption)]))))) (op_str (xs := b) Try.underlying24 Try.underlying5 Try.underlying9 rfl (h_b.below hst.below) ?_)
      refine s_yes 31 rfl (congrArg Value.bool (congrArg (! ·) (show (decide (((encS r6).2) = 0)) = true from (decide_eq_true (by rw [decS_again (by assumption) (by assumption)]))))) (op_neqStr (a := (encS r6).1) (b := b) rfl rfl ?_)
      refine s_cons (op_pick_f (.bool (!decide (((encS r6).1) = b))) (congrArg Value.bool (congrArg (! ·) (show (decide (((encS r6).2) = 0)) = true from (decide_eq_true (by rw [decS_again (by assumption) (by assumption)]))))) rfl ?_)
      refine s_nil ?_
      refine then_n ?_
      refine cE_cond false (congrArg Value.bool (congrArg (! ·) (show (decide (((encS r6).1) = b)) = true from (decide_eq_true (by rw [decS_again (by assumption) (by assumption)]))))) (fun h => by cases h) (fun _ => ?_)
      refine cE_skip ?_
      refine then_n ?_
      refine cE_seq ?_
      refine cE_region rfl ?_
      refine s_cons (op_move v_b rfl ?_)
      refine s_cons (op_move (.int .i64 k) rfl ?_)
      refine s_cons (op_call Try.call15 (evs_cons (v := v_b) rfl (evs_cons (v := (.int .i64 k)) rfl evs_nil)) (c_kGetAggs (w0 := w13) (v_b := v_b) (b := b) (h_b := (h_b.below hst.below)) (k := k) (hl := (by omega)) (k0 := (by omega)) (k1 := (by omega))) ?_)
      rintro _ w18 ⟨r14, r15, r16, rfl, hcall, x17⟩
      refine ⟨_, rfl, ?_⟩
      have hst : St w0 w18 [rowT 71 aggE r14 r15, rowT 5 u8E r12 ((encS r6).1), rowT 48 sampE r5 r6] := hst.call hcall
      refine s_cons (op_move (.tuple #[r14, (.int .i64 r16)]) rfl ?_)
      refine s_cons (op_extract r14 rfl rfl ?_)
      refine s_cons (op_extract (.int .i64 r16) rfl rfl ?_)
      refine s_cons (op_assign r14 rfl ?_)
      refine s_cons (op_assign (.int .i64 r16) rfl ?_)
      refine s_nil ?_
      refine then_n ?_
      refine cE_seq ?_
      refine cE_seq ?_
      refine cE_region rfl ?_
      refine s_cons (op_move (.int .i64 r16) rfl ?_)
      refine s_cons (op_eql (k := .i64) (a := r16) (b := 0) rfl rfl ?_)
      refine s_nil ?_
      refine then_n ?_
      rcases Bool.eq_false_or_eq_true (decide (r16 = 0)) with b19 | b19
      · have c20 : r16 = 0 := of_decide_eq_true b19
        refine cE_cond true (congrArg Value.bool b19) (fun _ => ?_) (fun h => by cases h)
        refine cE_seq ?_
        refine cE_region rfl ?_
        refine s_cons (op_move r14 rfl ?_)
        refine s_cons (op_move (.int .i64 k) rfl ?_)
        refine s_cons (op_call Try.call13 (evs_cons (v := r14) rfl (evs_cons (v := (.int .i64 k)) rfl evs_nil)) (c_kPutAggs (w0 := w18) (v_l := r14) (l := r15) (h_l := (hst.sl 0 rfl)) (k := k) (hl := (decA_okk (by assumption))) (k0 := (by omega)) (k1 := (by omega))) ?_)
        rintro _ w22 ⟨r21, rfl, hcall⟩
        refine ⟨_, rfl, ?_⟩
        have hst : St w0 w22 [rowT 5 u8E r21 ((encA k r15).1), rowT 71 aggE r14 r15, rowT 5 u8E r12 ((encS r6).1), rowT 48 sampE r5 r6] := hst.call hcall
        refine s_cons (op_move (.tuple #[r21, (.int .i64 ((encA k r15).2))]) rfl ?_)
        refine s_cons (op_extract r21 rfl rfl ?_)
        refine s_cons (op_extract (.int .i64 ((encA k r15).2)) rfl rfl ?_)
        refine s_cons (op_assign r21 rfl ?_)
        refine s_cons (op_assign (.int .i64 ((encA k r15).2)) rfl ?_)
        refine s_nil ?_
        refine then_n ?_
        refine cE_seq ?_
        refine cE_region rfl ?_
        refine s_cons (op_move (.int .i64 ((encA k r15).2)) rfl ?_)
        refine s_cons (op_neq (k := .i64) (a := (encA k r15).2) (b := 0) rfl rfl ?_)
        refine s_cons (op_move (.bool (!decide (((encA k r15).2) = 0))) rfl ?_)
        refine s_yes 54 rfl (congrArg Value.bool (congrArg (! ·) (show (decide (((encA k r15).2) = 0)) = true from (decide_eq_true (by rw [decA_again (by assumption) (by assumption)]))))) (op_move r21 rfl ?_)
        refine s_yes 54 rfl (congrArg Value.bool (congrArg (! ·) (show (decide (((encA k r15).2) = 0)) = true from (decide_eq_true (by rw [decA_again (by assumption) (by assumption)]))))) (op_str (xs := (encA k r15).1) Try.underlying24 Try.underlying5 Try.underlying9 rfl (hst.sl 0 rfl) ?_)
        refine s_yes 54 rfl (congrArg Value.bool (congrArg (! ·) (show (decide (((encA k r15).2) = 0)) = true from (decide_eq_true (by rw [decA_again (by assumption) (by assumption)]))))) (op_move v_b rfl ?_)
        refine s_yes 54 rfl (congrArg Value.bool (congrArg (! ·) (show (decide (((encA k r15).2) = 0)) = true from (decide_eq_true (by rw [decA_again (by assumption) (by assumption)]))))) (op_str (xs := b) Try.underlying24 Try.underlying5 Try.underlying9 rfl (h_b.below hst.below) ?_)
        refine s_yes 54 rfl (congrArg Value.bool (congrArg (! ·) (show (decide (((encA k r15).2) = 0)) = true from (decide_eq_true (by rw [decA_again (by assumption) (by assumption)]))))) (op_neqStr (a := (encA k r15).1) (b := b) rfl rfl ?_)
        refine s_cons (op_pick_f (.bool (!decide (((encA k r15).1) = b))) (congrArg Value.bool (congrArg (! ·) (show (decide (((encA k r15).2) = 0)) = true from (decide_eq_true (by rw [decA_again (by assumption) (by assumption)]))))) rfl ?_)
        refine s_nil ?_
        refine then_n ?_
        refine cE_cond false (congrArg Value.bool (congrArg (! ·) (show (decide (((encA k r15).1) = b)) = true from (decide_eq_true (by rw [decA_again (by assumption) (by assumption)]))))) (fun h => by cases h) (fun _ => ?_)
        refine cE_skip ?_
        refine then_n ?_
        refine cE_seq ?_
        refine cE_region rfl ?_
        refine s_cons (op_call Try.call8 evs_nil (c_told6 (w0 := w22)) ?_)
        rintro _ w23 ⟨rfl, hcall⟩
        refine ⟨_, rfl, ?_⟩
        have hst : St w0 w23 [rowT 5 u8E r21 ((encA k r15).1), rowT 71 aggE r14 r15, rowT 5 u8E r12 ((encS r6).1), rowT 48 sampE r5 r6] := hst.call hcall
        refine s_cons (op_move (.bool true) rfl ?_)
        refine s_yes 62 rfl rfl (op_move (.int .i64 r7) rfl ?_)
        refine s_yes 62 rfl rfl (op_eql (k := .i64) (a := r7) (b := 0) rfl rfl ?_)
        refine s_yes 62 rfl rfl (op_move (.bool (decide (r7 = 0))) rfl ?_)
        refine s_no 65 rfl (congrArg Value.bool b10) ?_
        refine s_no 65 rfl (congrArg Value.bool b10) ?_
        refine s_no 65 rfl (congrArg Value.bool b10) ?_
        refine s_un 68 rfl rfl ?_
        refine s_un 68 rfl rfl ?_
        refine s_un 68 rfl rfl ?_
        refine s_no 65 rfl (congrArg Value.bool b10) ?_
        refine s_yes 62 rfl rfl (op_pick_t (.bool true) (congrArg Value.bool b10) rfl ?_)
        refine s_cons (op_pick_t (.bool true) rfl rfl ?_)
        refine s_cons (op_move (.bool true) rfl ?_)
        refine s_yes 75 rfl rfl (op_move (.int .i64 r16) rfl ?_)
        refine s_yes 75 rfl rfl (op_eql (k := .i64) (a := r16) (b := 0) rfl rfl ?_)
        refine s_yes 75 rfl rfl (op_move (.bool (decide (r16 = 0))) rfl ?_)
        refine s_no 78 rfl (congrArg Value.bool b19) ?_
        refine s_no 78 rfl (congrArg Value.bool b19) ?_
        refine s_no 78 rfl (congrArg Value.bool b19) ?_
        refine s_yes 75 rfl rfl (op_pick_t (.bool true) (congrArg Value.bool b19) rfl ?_)
        refine s_cons (op_pick_t (.bool true) rfl rfl ?_)
        refine s_cons (op_assign (.bool true) rfl ?_)
        refine s_nil ?_
        refine then_n ?_
        refine cE_ret ?_
        refine post_r _ (res1 (v := (.bool true)) rfl) ?_
        exact ⟨rfl, hst.bare⟩
      · have c24 : ¬ (r16 = 0) := of_decide_eq_false b19
        refine cE_cond false (congrArg Value.bool b19) (fun h => by cases h) (fun _ => ?_)
        refine cE_skip ?_
        refine then_n ?_
        refine cE_seq ?_
        refine cE_region rfl ?_
        refine s_cons (op_call Try.call8 evs_nil (c_told6 (w0 := w18)) ?_)
        rintro _ w25 ⟨rfl, hcall⟩
        refine ⟨_, rfl, ?_⟩
        have hst : St w0 w25 [rowT 71 aggE r14 r15, rowT 5 u8E r12 ((encS r6).1), rowT 48 sampE r5 r6] := hst.call hcall
        refine s_cons (op_move (.bool true) rfl ?_)
        refine s_yes 62 rfl rfl (op_move (.int .i64 r7) rfl ?_)
        refine s_yes 62 rfl rfl (op_eql (k := .i64) (a := r7) (b := 0) rfl rfl ?_)
        refine s_yes 62 rfl rfl (op_move (.bool (decide (r7 = 0))) rfl ?_)
        refine s_no 65 rfl (congrArg Value.bool b10) ?_
        refine s_no 65 rfl (congrArg Value.bool b10) ?_
        refine s_no 65 rfl (congrArg Value.bool b10) ?_
        refine s_un 68 rfl rfl ?_
        refine s_un 68 rfl rfl ?_
        refine s_un 68 rfl rfl ?_
        refine s_no 65 rfl (congrArg Value.bool b10) ?_
        refine s_yes 62 rfl rfl (op_pick_t (.bool true) (congrArg Value.bool b10) rfl ?_)
        refine s_cons (op_pick_t (.bool true) rfl rfl ?_)
        refine s_cons (op_move (.bool true) rfl ?_)
        refine s_yes 75 rfl rfl (op_move (.int .i64 r16) rfl ?_)
        refine s_yes 75 rfl rfl (op_eql (k := .i64) (a := r16) (b := 0) rfl rfl ?_)
        refine s_yes 75 rfl rfl (op_move (.bool (decide (r16 = 0))) rfl ?_)
        refine s_yes 78 rfl (congrArg Value.bool b19) (op_move r14 rfl ?_)
        refine s_yes 78 rfl (congrArg Value.bool b19) (op_len (E := aggE) (xs := r15) Try.underlying23 rfl (hst.sl 0 rfl) ?_)
        refine s_yes 78 rfl (congrArg Value.bool b19) (op_eql (k := .i64) (a := (r15.length : Int)) (b := 0) rfl rfl ?_)
        refine s_yes 75 rfl rfl (op_pick_f (.bool (decide ((r15.length : Int) = 0))) (congrArg Value.bool b19) rfl ?_)
        refine s_cons (op_pick_t (.bool (decide ((r15.length : Int) = 0))) rfl rfl ?_)
        refine s_cons (op_assign (.bool (decide ((r15.length : Int) = 0))) rfl ?_)
        refine s_nil ?_
        refine then_n ?_
        refine cE_ret ?_
        refine post_r _ (res1 (v := (.bool true)) (congrArg Value.bool (show (decide ((r15.length : Int) = 0)) = true from (decide_eq_true (by first | exact decS_nil (by assumption) (by assumption) | exact decA_nil (by assumption) (by assumption)))))) ?_
        exact ⟨rfl, hst.bare⟩
    · have c26 : ¬ (r7 = 0) := of_decide_eq_false b10
      refine cE_cond false (congrArg Value.bool b10) (fun h => by cases h) (fun _ => ?_)
      refine cE_skip ?_
      refine then_n ?_
      refine cE_seq ?_
      refine cE_region rfl ?_
      refine s_cons (op_move v_b rfl ?_)
      refine s_cons (op_move (.int .i64 k) rfl ?_)
      refine s_cons (op_call Try.call15 (evs_cons (v := v_b) rfl (evs_cons (v := (.int .i64 k)) rfl evs_nil)) (c_kGetAggs (w0 := w9) (v_b := v_b) (b := b) (h_b := (h_b.below hst.below)) (k := k) (hl := (by omega)) (k0 := (by omega)) (k1 := (by omega))) ?_)
      rintro _ w31 ⟨r27, r28, r29, rfl, hcall, x30⟩
      refine ⟨_, rfl, ?_⟩
      have hst : St w0 w31 [rowT 71 aggE r27 r28, rowT 48 sampE r5 r6] := hst.call hcall
      refine s_cons (op_move (.tuple #[r27, (.int .i64 r29)]) rfl ?_)
      refine s_cons (op_extract r27 rfl rfl ?_)
      refine s_cons (op_extract (.int .i64 r29) rfl rfl ?_)
      refine s_cons (op_assign r27 rfl ?_)
      refine s_cons (op_assign (.int .i64 r29) rfl ?_)
      refine s_nil ?_
      refine then_n ?_
      refine cE_seq ?_
      refine cE_seq ?_
      refine cE_region rfl ?_
      refine s_cons (op_move (.int .i64 r29) rfl ?_)
      refine s_cons (op_eql (k := .i64) (a := r29) (b := 0) rfl rfl ?_)
      refine s_nil ?_
      refine then_n ?_
      rcases Bool.eq_false_or_eq_true (decide (r29 = 0)) with b32 | b32
      · have c33 : r29 = 0 := of_decide_eq_true b32
        refine cE_cond true (congrArg Value.bool b32) (fun _ => ?_) (fun h => by cases h)
        refine cE_seq ?_
        refine cE_region rfl ?_
        refine s_cons (op_move r27 rfl ?_)
        refine s_cons (op_move (.int .i64 k) rfl ?_)
        refine s_cons (op_call Try.call13 (evs_cons (v := r27) rfl (evs_cons (v := (.int .i64 k)) rfl evs_nil)) (c_kPutAggs (w0 := w31) (v_l := r27) (l := r28) (h_l := (hst.sl 0 rfl)) (k := k) (hl := (decA_okk (by assumption))) (k0 := (by omega)) (k1 := (by omega))) ?_)
        rintro _ w35 ⟨r34, rfl, hcall⟩
        refine ⟨_, rfl, ?_⟩
        have hst : St w0 w35 [rowT 5 u8E r34 ((encA k r28).1), rowT 71 aggE r27 r28, rowT 48 sampE r5 r6] := hst.call hcall
        refine s_cons (op_move (.tuple #[r34, (.int .i64 ((encA k r28).2))]) rfl ?_)
        refine s_cons (op_extract r34 rfl rfl ?_)
        refine s_cons (op_extract (.int .i64 ((encA k r28).2)) rfl rfl ?_)
        refine s_cons (op_assign r34 rfl ?_)
        refine s_cons (op_assign (.int .i64 ((encA k r28).2)) rfl ?_)
        refine s_nil ?_
        refine then_n ?_
        refine cE_seq ?_
        refine cE_region rfl ?_
        refine s_cons (op_move (.int .i64 ((encA k r28).2)) rfl ?_)
        refine s_cons (op_neq (k := .i64) (a := (encA k r28).2) (b := 0) rfl rfl ?_)
        refine s_cons (op_move (.bool (!decide (((encA k r28).2) = 0))) rfl ?_)
        refine s_yes 54 rfl (congrArg Value.bool (congrArg (! ·) (show (decide (((encA k r28).2) = 0)) = true from (decide_eq_true (by rw [decA_again (by assumption) (by assumption)]))))) (op_move r34 rfl ?_)
        refine s_yes 54 rfl (congrArg Value.bool (congrArg (! ·) (show (decide (((encA k r28).2) = 0)) = true from (decide_eq_true (by rw [decA_again (by assumption) (by assumption)]))))) (op_str (xs := (encA k r28).1) Try.underlying24 Try.underlying5 Try.underlying9 rfl (hst.sl 0 rfl) ?_)
        refine s_yes 54 rfl (congrArg Value.bool (congrArg (! ·) (show (decide (((encA k r28).2) = 0)) = true from (decide_eq_true (by rw [decA_again (by assumption) (by assumption)]))))) (op_move v_b rfl ?_)
        refine s_yes 54 rfl (congrArg Value.bool (congrArg (! ·) (show (decide (((encA k r28).2) = 0)) = true from (decide_eq_true (by rw [decA_again (by assumption) (by assumption)]))))) (op_str (xs := b) Try.underlying24 Try.underlying5 Try.underlying9 rfl (h_b.below hst.below) ?_)
        refine s_yes 54 rfl (congrArg Value.bool (congrArg (! ·) (show (decide (((encA k r28).2) = 0)) = true from (decide_eq_true (by rw [decA_again (by assumption) (by assumption)]))))) (op_neqStr (a := (encA k r28).1) (b := b) rfl rfl ?_)
        refine s_cons (op_pick_f (.bool (!decide (((encA k r28).1) = b))) (congrArg Value.bool (congrArg (! ·) (show (decide (((encA k r28).2) = 0)) = true from (decide_eq_true (by rw [decA_again (by assumption) (by assumption)]))))) rfl ?_)
        refine s_nil ?_
        refine then_n ?_
        refine cE_cond false (congrArg Value.bool (congrArg (! ·) (show (decide (((encA k r28).1) = b)) = true from (decide_eq_true (by rw [decA_again (by assumption) (by assumption)]))))) (fun h => by cases h) (fun _ => ?_)
        refine cE_skip ?_
        refine then_n ?_
        refine cE_seq ?_
        refine cE_region rfl ?_
        refine s_cons (op_call Try.call8 evs_nil (c_told6 (w0 := w35)) ?_)
        rintro _ w36 ⟨rfl, hcall⟩
        refine ⟨_, rfl, ?_⟩
        have hst : St w0 w36 [rowT 5 u8E r34 ((encA k r28).1), rowT 71 aggE r27 r28, rowT 48 sampE r5 r6] := hst.call hcall
        refine s_cons (op_move (.bool true) rfl ?_)
        refine s_yes 62 rfl rfl (op_move (.int .i64 r7) rfl ?_)
        refine s_yes 62 rfl rfl (op_eql (k := .i64) (a := r7) (b := 0) rfl rfl ?_)
        refine s_yes 62 rfl rfl (op_move (.bool (decide (r7 = 0))) rfl ?_)
        refine s_yes 65 rfl (congrArg Value.bool b10) (op_move (.int .i64 r7) rfl ?_)
        refine s_yes 65 rfl (congrArg Value.bool b10) (op_eql (k := .i64) (a := r7) (b := 2) rfl rfl ?_)
        refine s_yes 65 rfl (congrArg Value.bool b10) (op_move (.bool (decide (r7 = 2))) rfl ?_)
        refine s_yes 68 rfl (congrArg Value.bool (show (decide (r7 = 2)) = true from (decide_eq_true (decS_two (by assumption) (by assumption))))) (op_move r5 rfl ?_)
        refine s_yes 68 rfl (congrArg Value.bool (show (decide (r7 = 2)) = true from (decide_eq_true (decS_two (by assumption) (by assumption))))) (op_len (E := sampE) (xs := r6) Try.underlying22 rfl (hst.sl 2 rfl) ?_)
        refine s_yes 68 rfl (congrArg Value.bool (show (decide (r7 = 2)) = true from (decide_eq_true (decS_two (by assumption) (by assumption))))) (op_eql (k := .i64) (a := (r6.length : Int)) (b := 0) rfl rfl ?_)
        refine s_yes 65 rfl (congrArg Value.bool b10) (op_pick_t (.bool (decide ((r6.length : Int) = 0))) (congrArg Value.bool (show (decide (r7 = 2)) = true from (decide_eq_true (decS_two (by assumption) (by assumption))))) rfl ?_)
        refine s_yes 62 rfl rfl (op_pick_f (.bool (decide ((r6.length : Int) = 0))) (congrArg Value.bool b10) rfl ?_)
        refine s_cons (op_pick_t (.bool (decide ((r6.length : Int) = 0))) rfl rfl ?_)
        refine s_cons (op_move (.bool (decide ((r6.length : Int) = 0))) rfl ?_)
        refine s_yes 75 rfl (congrArg Value.bool (show (decide ((r6.length : Int) = 0)) = true from (decide_eq_true (by first | exact decS_nil (by assumption) (by assumption) | exact decA_nil (by assumption) (by assumption))))) (op_move (.int .i64 r29) rfl ?_)
        refine s_yes 75 rfl (congrArg Value.bool (show (decide ((r6.length : Int) = 0)) = true from (decide_eq_true (by first | exact decS_nil (by assumption) (by assumption) | exact decA_nil (by assumption) (by assumption))))) (op_eql (k := .i64) (a := r29) (b := 0) rfl rfl ?_)
        refine s_yes 75 rfl (congrArg Value.bool (show (decide ((r6.length : Int) = 0)) = true from (decide_eq_true (by first | exact decS_nil (by assumption) (by assumption) | exact decA_nil (by assumption) (by assumption))))) (op_move (.bool (decide (r29 = 0))) rfl ?_)
        refine s_no 78 rfl (congrArg Value.bool b32) ?_
        refine s_no 78 rfl (congrArg Value.bool b32) ?_
        refine s_no 78 rfl (congrArg Value.bool b32) ?_
        refine s_yes 75 rfl (congrArg Value.bool (show (decide ((r6.length : Int) = 0)) = true from (decide_eq_true (by first | exact decS_nil (by assumption) (by assumption) | exact decA_nil (by assumption) (by assumption))))) (op_pick_t (.bool true) (congrArg Value.bool b32) rfl ?_)
        refine s_cons (op_pick_t (.bool true) (congrArg Value.bool (show (decide ((r6.length : Int) = 0)) = true from (decide_eq_true (by first | exact decS_nil (by assumption) (by assumption) | exact decA_nil (by assumption) (by assumption))))) rfl ?_)
        refine s_cons (op_assign (.bool true) rfl ?_)
        refine s_nil ?_
        refine then_n ?_
        refine cE_ret ?_
        refine post_r _ (res1 (v := (.bool true)) rfl) ?_
        exact ⟨rfl, hst.bare⟩
      · have c37 : ¬ (r29 = 0) := of_decide_eq_false b32
        refine cE_cond false (congrArg Value.bool b32) (fun h => by cases h) (fun _ => ?_)
        refine cE_skip ?_
        refine then_n ?_
        refine cE_seq ?_
        refine cE_region rfl ?_
        refine s_cons (op_call Try.call8 evs_nil (c_told6 (w0 := w31)) ?_)
        rintro _ w38 ⟨rfl, hcall⟩
        refine ⟨_, rfl, ?_⟩
        have hst : St w0 w38 [rowT 71 aggE r27 r28, rowT 48 sampE r5 r6] := hst.call hcall
        refine s_cons (op_move (.bool true) rfl ?_)
        refine s_yes 62 rfl rfl (op_move (.int .i64 r7) rfl ?_)
        refine s_yes 62 rfl rfl (op_eql (k := .i64) (a := r7) (b := 0) rfl rfl ?_)
        refine s_yes 62 rfl rfl (op_move (.bool (decide (r7 = 0))) rfl ?_)
        refine s_yes 65 rfl (congrArg Value.bool b10) (op_move (.int .i64 r7) rfl ?_)
        refine s_yes 65 rfl (congrArg Value.bool b10) (op_eql (k := .i64) (a := r7) (b := 2) rfl rfl ?_)
        refine s_yes 65 rfl (congrArg Value.bool b10) (op_move (.bool (decide (r7 = 2))) rfl ?_)
        refine s_yes 68 rfl (congrArg Value.bool (show (decide (r7 = 2)) = true from (decide_eq_true (decS_two (by assumption) (by assumption))))) (op_move r5 rfl ?_)
        refine s_yes 68 rfl (congrArg Value.bool (show (decide (r7 = 2)) = true from (decide_eq_true (decS_two (by assumption) (by assumption))))) (op_len (E := sampE) (xs := r6) Try.underlying22 rfl (hst.sl 1 rfl) ?_)
        refine s_yes 68 rfl (congrArg Value.bool (show (decide (r7 = 2)) = true from (decide_eq_true (decS_two (by assumption) (by assumption))))) (op_eql (k := .i64) (a := (r6.length : Int)) (b := 0) rfl rfl ?_)
        refine s_yes 65 rfl (congrArg Value.bool b10) (op_pick_t (.bool (decide ((r6.length : Int) = 0))) (congrArg Value.bool (show (decide (r7 = 2)) = true from (decide_eq_true (decS_two (by assumption) (by assumption))))) rfl ?_)
        refine s_yes 62 rfl rfl (op_pick_f (.bool (decide ((r6.length : Int) = 0))) (congrArg Value.bool b10) rfl ?_)
        refine s_cons (op_pick_t (.bool (decide ((r6.length : Int) = 0))) rfl rfl ?_)
        refine s_cons (op_move (.bool (decide ((r6.length : Int) = 0))) rfl ?_)
        refine s_yes 75 rfl (congrArg Value.bool (show (decide ((r6.length : Int) = 0)) = true from (decide_eq_true (by first | exact decS_nil (by assumption) (by assumption) | exact decA_nil (by assumption) (by assumption))))) (op_move (.int .i64 r29) rfl ?_)
        refine s_yes 75 rfl (congrArg Value.bool (show (decide ((r6.length : Int) = 0)) = true from (decide_eq_true (by first | exact decS_nil (by assumption) (by assumption) | exact decA_nil (by assumption) (by assumption))))) (op_eql (k := .i64) (a := r29) (b := 0) rfl rfl ?_)
        refine s_yes 75 rfl (congrArg Value.bool (show (decide ((r6.length : Int) = 0)) = true from (decide_eq_true (by first | exact decS_nil (by assumption) (by assumption) | exact decA_nil (by assumption) (by assumption))))) (op_move (.bool (decide (r29 = 0))) rfl ?_)
        refine s_yes 78 rfl (congrArg Value.bool b32) (op_move r27 rfl ?_)
        refine s_yes 78 rfl (congrArg Value.bool b32) (op_len (E := aggE) (xs := r28) Try.underlying23 rfl (hst.sl 0 rfl) ?_)
        refine s_yes 78 rfl (congrArg Value.bool b32) (op_eql (k := .i64) (a := (r28.length : Int)) (b := 0) rfl rfl ?_)
        refine s_yes 75 rfl (congrArg Value.bool (show (decide ((r6.length : Int) = 0)) = true from (decide_eq_true (by first | exact decS_nil (by assumption) (by assumption) | exact decA_nil (by assumption) (by assumption))))) (op_pick_f (.bool (decide ((r28.length : Int) = 0))) (congrArg Value.bool b32) rfl ?_)
        refine s_cons (op_pick_t (.bool (decide ((r28.length : Int) = 0))) (congrArg Value.bool (show (decide ((r6.length : Int) = 0)) = true from (decide_eq_true (by first | exact decS_nil (by assumption) (by assumption) | exact decA_nil (by assumption) (by assumption))))) rfl ?_)
        refine s_cons (op_assign (.bool (decide ((r28.length : Int) = 0))) rfl ?_)
        refine s_nil ?_
        refine then_n ?_
        refine cE_ret ?_
        refine post_r _ (res1 (v := (.bool true)) (congrArg Value.bool (show (decide ((r28.length : Int) = 0)) = true from (decide_eq_true (by first | exact decS_nil (by assumption) (by assumption) | exact decA_nil (by assumption) (by assumption)))))) ?_
        exact ⟨rfl, hst.bare⟩

end Go.Proofs.Ytpamjfbdgaamoaa
