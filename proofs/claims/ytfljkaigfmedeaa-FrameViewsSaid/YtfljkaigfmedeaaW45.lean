/- the law FrameViews -/
import Derived.Test.YtfljkaigfmedeaaW40
import Derived.Test.YtfljkaigfmedeaaW10
import Derived.Test.YtfljkaigfmedeaaW11
import Derived.Test.YtfljkaigfmedeaaW12
import Derived.Test.YtfljkaigfmedeaaW13
import Derived.Test.YtfljkaigfmedeaaW14
import Derived.Test.YtfljkaigfmedeaaW15
import Derived.Test.YtfljkaigfmedeaaW16
import Derived.Test.YtfljkaigfmedeaaW17
import Derived.Test.YtfljkaigfmedeaaW18
import Derived.Test.YtfljkaigfmedeaaW19
import Derived.Test.YtfljkaigfmedeaaW20
import Derived.Test.YtfljkaigfmedeaaW21
import Derived.Test.YtfljkaigfmedeaaW22
import Derived.Test.YtfljkaigfmedeaaW23
namespace Go.Proofs.Ytfljkaigfmedeaa
open Go.RowKit

set_option maxHeartbeats 4000000 in
theorem c_FrameViews (w0 : World) (v : Int) (site : Int) (v0 : -9223372036854775808 ≤ v) (v1 : v ≤ 9223372036854775807) (site0 : -9223372036854775808 ≤ site) (site1 : site ≤ 9223372036854775807) :
    Calls Try.prog 7 #[(.int .i64 v), (.int .i64 site)] w0 fun e w' => e = .returned (.bool true) ∧ St w0 w' [] := by
  refine calls_E (n := 92) (ts := [4]) Try.func7 rfl rfl rfl (by simp) ?_
  have hst := St.start w0
  refine cE_seq ?_
  refine cE_region rfl ?_
  refine s_cons (op_assign (.bool false) rfl ?_)
  refine s_nil ?_
  refine then_n ?_
  refine cE_seq ?_
  refine cE_region rfl ?_
  refine s_cons (op_move (.int .i64 v) rfl ?_)
  refine s_cons (op_conv (k := .i64) (a := v) (v % 18446744073709551616) Try.underlying22 (by rw [Try.underlying3]; rfl) rfl (IntKind.wrap_u64 _) ?_)
  obtain ⟨r1, hr1, hr1l⟩ := rem_nat (a := (v % 18446744073709551616)) (b := 5) (by omega) (by omega)
  refine s_cons (op_rem (k := .u64) (a := (v % 18446744073709551616)) (b := 5) (r1 : Int) rfl rfl (by omega) hr1 ?_)
  refine s_cons (op_conv (k := .u64) (a := (r1 : Int)) (r1 : Int) Try.underlying3 (by rw [Try.underlying22]; rfl) rfl (xi64 (by omega) (by omega)) ?_)
  refine s_cons (op_add (k := .i64) (a := 1073741822) (b := (r1 : Int)) (1073741822 + (r1 : Int)) rfl rfl (xi64 (by omega) (by omega)) ?_)
  refine s_cons (op_assign (.int .i64 (1073741822 + (r1 : Int))) rfl ?_)
  refine s_nil ?_
  refine then_n ?_
  refine cE_seq ?_
  refine cE_region rfl ?_
  refine s_cons (op_move (.int .i64 (1073741822 + (r1 : Int))) rfl ?_)
  refine s_cons (op_move (.int .i64 site) rfl ?_)
  refine s_cons (op_conv (k := .i64) (a := site) (site % 18446744073709551616) Try.underlying22 (by rw [Try.underlying3]; rfl) rfl (IntKind.wrap_u64 _) ?_)
  obtain ⟨r2, hr2, hr2l⟩ := rem_nat (a := (site % 18446744073709551616)) (b := 2) (by omega) (by omega)
  refine s_cons (op_rem (k := .u64) (a := (site % 18446744073709551616)) (b := 2) (r2 : Int) rfl rfl (by omega) hr2 ?_)
  refine s_cons (op_conv (k := .u64) (a := (r2 : Int)) (r2 : Int) Try.underlying3 (by rw [Try.underlying22]; rfl) rfl (xi64 (by omega) (by omega)) ?_)
  refine s_cons (op_build (r := (.agg #[(.int .i64 3), (.int .i64 (1073741822 + (r1 : Int))), (.int .i64 (r2 : Int)), (.int .i64 0), (.slice none 0 0)])) (evp_cons (v := (.int .i64 3)) rfl (evp_cons (v := (.int .i64 (1073741822 + (r1 : Int)))) rfl (evp_cons (v := (.int .i64 (r2 : Int))) rfl evp_nil))) (by simp [Instr.build, Instr.fill, Value.cells, Try.runUnderlying25, Try.zeroValue25]) ?_)
  refine s_cons (op_alloc (cs := #[(.int .i64 0), (.int .i64 0), (.int .i64 0), (.int .i64 0), (.slice none 0 0)]) hst Try.zeroValue25 rfl (fun g1 w2 hst _ => ?_))
  replace hst : St w0 w2 [.blk g1 25 #[(.int .i64 0), (.int .i64 0), (.int .i64 0), (.int .i64 0), (.slice none 0 0)]] := hst
  refine s_cons0 (op_storeAll hst 0 rfl Try.sizeOf25 rfl rfl rfl rfl (by simp [Value.oneCell']) (fun w3 hst => ?_))
  replace hst : St w0 w3 [.blk g1 25 #[(.int .i64 3), (.int .i64 (1073741822 + (r1 : Int))), (.int .i64 (r2 : Int)), (.int .i64 0), (.slice none 0 0)]] := hst
  refine s_nil ?_
  refine then_n ?_
  refine cE_seq ?_
  refine cE_region rfl ?_
  refine s_cons (op_loadN (cs := [(.int .i64 3), (.int .i64 (1073741822 + (r1 : Int))), (.int .i64 (r2 : Int)), (.int .i64 0), (.slice none 0 0)]) Try.isAgg25 Try.sizeOf25 rfl (Pt.of (hst.cell 0 rfl) rfl) rfl ?_)
  refine s_cons (op_call Try.call8 (evs_cons (v := (.agg #[(.int .i64 3), (.int .i64 (1073741822 + (r1 : Int))), (.int .i64 (r2 : Int)), (.int .i64 0), (.slice none 0 0)])) rfl evs_nil) (c_fPut (w0 := w3) (f := (⟨3, (1073741822 + (r1 : Int)), (r2 : Int), 0, []⟩ : Frame)) (v_f_Body := (.slice none 0 0)) (h_f_Body := (Sl.nil u8E _)) (hf := ⟨⟨by first | (simp only []; omega) | simp only [], by first | (simp only []; omega) | simp only []⟩, ⟨by first | (simp only []; omega) | simp only [], by first | (simp only []; omega) | simp only []⟩, ⟨by first | (simp only []; omega) | simp only [], by first | (simp only []; omega) | simp only []⟩, ⟨by first | (simp only []; omega) | simp only [], by first | (simp only []; omega) | simp only []⟩⟩)) ?_)
  rintro _ w5 ⟨r4, rfl, hcall⟩
  refine ⟨_, rfl, ?_⟩
  have hst : St w0 w5 [rowT 5 u8E r4 ((encF (⟨3, (1073741822 + (r1 : Int)), (r2 : Int), 0, []⟩ : Frame)).1), .blk g1 25 #[(.int .i64 3), (.int .i64 (1073741822 + (r1 : Int))), (.int .i64 (r2 : Int)), (.int .i64 0), (.slice none 0 0)]] := hst.call hcall
  refine s_cons (op_move (.tuple #[r4, (.int .i64 ((encF (⟨3, (1073741822 + (r1 : Int)), (r2 : Int), 0, []⟩ : Frame)).2))]) rfl ?_)
  refine s_cons (op_extract r4 rfl rfl ?_)
  refine s_cons (op_extract (.int .i64 ((encF (⟨3, (1073741822 + (r1 : Int)), (r2 : Int), 0, []⟩ : Frame)).2)) rfl rfl ?_)
  refine s_cons (op_assign r4 rfl ?_)
  refine s_cons (op_assign (.int .i64 ((encF (⟨3, (1073741822 + (r1 : Int)), (r2 : Int), 0, []⟩ : Frame)).2)) rfl ?_)
  refine s_nil ?_
  refine then_n ?_
  refine cE_seq ?_
  refine cE_region rfl ?_
  refine s_cons (op_loadN (cs := [(.int .i64 3), (.int .i64 (1073741822 + (r1 : Int))), (.int .i64 (r2 : Int)), (.int .i64 0), (.slice none 0 0)]) Try.isAgg25 Try.sizeOf25 rfl (Pt.of (hst.cell 1 rfl) rfl) rfl ?_)
  refine s_cons (op_alloc (cs := #[(.int .i64 0), (.int .i64 0), (.int .i64 0), (.int .i64 0), (.slice none 0 0)]) hst Try.zeroValue25 rfl (fun g6 w7 hst _ => ?_))
  replace hst : St w0 w7 [.blk g6 25 #[(.int .i64 0), (.int .i64 0), (.int .i64 0), (.int .i64 0), (.slice none 0 0)], rowT 5 u8E r4 ((encF (⟨3, (1073741822 + (r1 : Int)), (r2 : Int), 0, []⟩ : Frame)).1), .blk g1 25 #[(.int .i64 3), (.int .i64 (1073741822 + (r1 : Int))), (.int .i64 (r2 : Int)), (.int .i64 0), (.slice none 0 0)]] := hst
  refine s_cons0 (op_storeAll hst 0 rfl Try.sizeOf25 rfl rfl rfl rfl (by simp [Value.oneCell']) (fun w8 hst => ?_))
  replace hst : St w0 w8 [.blk g6 25 #[(.int .i64 3), (.int .i64 (1073741822 + (r1 : Int))), (.int .i64 (r2 : Int)), (.int .i64 0), (.slice none 0 0)], rowT 5 u8E r4 ((encF (⟨3, (1073741822 + (r1 : Int)), (r2 : Int), 0, []⟩ : Frame)).1), .blk g1 25 #[(.int .i64 3), (.int .i64 (1073741822 + (r1 : Int))), (.int .i64 (r2 : Int)), (.int .i64 0), (.slice none 0 0)]] := hst
  refine s_nil ?_
  refine then_n ?_
  refine cE_seq ?_
  refine cE_region rfl ?_
  refine s_cons (op_fieldAddr (s := 0) Try.underlying25 rfl rfl Try.sizeOf3 rfl ?_)
  refine s_cons0 (op_store1 hst 0 rfl Try.sizeOf3 rfl rfl rfl (show 0 < 5 from by decide) (fun w9 hst => ?_))
  replace hst : St w0 w9 [.blk g6 25 #[(.int .i64 4), (.int .i64 (1073741822 + (r1 : Int))), (.int .i64 (r2 : Int)), (.int .i64 0), (.slice none 0 0)], rowT 5 u8E r4 ((encF (⟨3, (1073741822 + (r1 : Int)), (r2 : Int), 0, []⟩ : Frame)).1), .blk g1 25 #[(.int .i64 3), (.int .i64 (1073741822 + (r1 : Int))), (.int .i64 (r2 : Int)), (.int .i64 0), (.slice none 0 0)]] := hst
  refine s_nil ?_
  refine then_n ?_
  refine cE_seq ?_
  refine cE_region rfl ?_
  refine s_cons (op_loadN (cs := [(.int .i64 4), (.int .i64 (1073741822 + (r1 : Int))), (.int .i64 (r2 : Int)), (.int .i64 0), (.slice none 0 0)]) Try.isAgg25 Try.sizeOf25 rfl (Pt.of (hst.cell 0 rfl) rfl) rfl ?_)
  refine s_cons (op_call Try.call8 (evs_cons (v := (.agg #[(.int .i64 4), (.int .i64 (1073741822 + (r1 : Int))), (.int .i64 (r2 : Int)), (.int .i64 0), (.slice none 0 0)])) rfl evs_nil) (c_fPut (w0 := w9) (f := (⟨4, (1073741822 + (r1 : Int)), (r2 : Int), 0, []⟩ : Frame)) (v_f_Body := (.slice none 0 0)) (h_f_Body := (Sl.nil u8E _)) (hf := ⟨⟨by first | (simp only []; omega) | simp only [], by first | (simp only []; omega) | simp only []⟩, ⟨by first | (simp only []; omega) | simp only [], by first | (simp only []; omega) | simp only []⟩, ⟨by first | (simp only []; omega) | simp only [], by first | (simp only []; omega) | simp only []⟩, ⟨by first | (simp only []; omega) | simp only [], by first | (simp only []; omega) | simp only []⟩⟩)) ?_)
  rintro _ w11 ⟨r10, rfl, hcall⟩
  refine ⟨_, rfl, ?_⟩
  have hst : St w0 w11 [rowT 5 u8E r10 ((encF (⟨4, (1073741822 + (r1 : Int)), (r2 : Int), 0, []⟩ : Frame)).1), .blk g6 25 #[(.int .i64 4), (.int .i64 (1073741822 + (r1 : Int))), (.int .i64 (r2 : Int)), (.int .i64 0), (.slice none 0 0)], rowT 5 u8E r4 ((encF (⟨3, (1073741822 + (r1 : Int)), (r2 : Int), 0, []⟩ : Frame)).1), .blk g1 25 #[(.int .i64 3), (.int .i64 (1073741822 + (r1 : Int))), (.int .i64 (r2 : Int)), (.int .i64 0), (.slice none 0 0)]] := hst.call hcall
  refine s_cons (op_move (.tuple #[r10, (.int .i64 ((encF (⟨4, (1073741822 + (r1 : Int)), (r2 : Int), 0, []⟩ : Frame)).2))]) rfl ?_)
  refine s_cons (op_extract r10 rfl rfl ?_)
  refine s_cons (op_extract (.int .i64 ((encF (⟨4, (1073741822 + (r1 : Int)), (r2 : Int), 0, []⟩ : Frame)).2)) rfl rfl ?_)
  refine s_cons (op_assign r10 rfl ?_)
  refine s_cons (op_assign (.int .i64 ((encF (⟨4, (1073741822 + (r1 : Int)), (r2 : Int), 0, []⟩ : Frame)).2)) rfl ?_)
  refine s_nil ?_
  refine then_n ?_
  refine cE_seq ?_
  refine cE_seq ?_
  refine cE_region rfl ?_
  refine s_cons (op_move (.int .i64 (1073741822 + (r1 : Int))) rfl ?_)
  refine s_cons (op_gtr (k := .i64) (a := (1073741822 + (r1 : Int))) (b := 1073741824) rfl rfl ?_)
  refine s_nil ?_
  refine then_n ?_
  rcases Bool.eq_false_or_eq_true (decide (1073741824 < (1073741822 + (r1 : Int)))) with b12 | b12
  · have c13 : 1073741824 < (1073741822 + (r1 : Int)) := of_decide_eq_true b12
    refine cE_cond true (congrArg Value.bool b12) (fun _ => ?_) (fun h => by cases h)
    refine cE_seq ?_
    refine cE_region rfl ?_
    refine s_cons (op_call Try.call9 evs_nil (c_told13 (w0 := w11)) ?_)
    rintro _ w14 ⟨rfl, hcall⟩
    refine ⟨_, rfl, ?_⟩
    have hst : St w0 w14 [rowT 5 u8E r10 ((encF (⟨4, (1073741822 + (r1 : Int)), (r2 : Int), 0, []⟩ : Frame)).1), .blk g6 25 #[(.int .i64 4), (.int .i64 (1073741822 + (r1 : Int))), (.int .i64 (r2 : Int)), (.int .i64 0), (.slice none 0 0)], rowT 5 u8E r4 ((encF (⟨3, (1073741822 + (r1 : Int)), (r2 : Int), 0, []⟩ : Frame)).1), .blk g1 25 #[(.int .i64 3), (.int .i64 (1073741822 + (r1 : Int))), (.int .i64 (r2 : Int)), (.int .i64 0), (.slice none 0 0)]] := hst.call hcall
    refine s_cons (op_move (.bool true) rfl ?_)
    refine s_yes 42 rfl rfl (op_move (.int .i64 ((encF (⟨3, (1073741822 + (r1 : Int)), (r2 : Int), 0, []⟩ : Frame)).2)) rfl ?_)
    refine s_yes 42 rfl rfl (op_eql (k := .i64) (a := (encF (⟨3, (1073741822 + (r1 : Int)), (r2 : Int), 0, []⟩ : Frame)).2) (b := 1) rfl rfl ?_)
    refine s_cons (op_pick_t (.bool (decide (((encF (⟨3, (1073741822 + (r1 : Int)), (r2 : Int), 0, []⟩ : Frame)).2) = 1))) rfl rfl ?_)
    refine s_cons (op_move (.bool (decide (((encF (⟨3, (1073741822 + (r1 : Int)), (r2 : Int), 0, []⟩ : Frame)).2) = 1))) rfl ?_)
    refine s_yes 46 rfl (congrArg Value.bool (show (decide (((encF (⟨3, (1073741822 + (r1 : Int)), (r2 : Int), 0, []⟩ : Frame)).2) = 1)) = true from (decide_eq_true (by rw [view_not (by omega)])))) (op_move (.int .i64 ((encF (⟨4, (1073741822 + (r1 : Int)), (r2 : Int), 0, []⟩ : Frame)).2)) rfl ?_)
    refine s_yes 46 rfl (congrArg Value.bool (show (decide (((encF (⟨3, (1073741822 + (r1 : Int)), (r2 : Int), 0, []⟩ : Frame)).2) = 1)) = true from (decide_eq_true (by rw [view_not (by omega)])))) (op_eql (k := .i64) (a := (encF (⟨4, (1073741822 + (r1 : Int)), (r2 : Int), 0, []⟩ : Frame)).2) (b := 1) rfl rfl ?_)
    refine s_cons (op_pick_t (.bool (decide (((encF (⟨4, (1073741822 + (r1 : Int)), (r2 : Int), 0, []⟩ : Frame)).2) = 1))) (congrArg Value.bool (show (decide (((encF (⟨3, (1073741822 + (r1 : Int)), (r2 : Int), 0, []⟩ : Frame)).2) = 1)) = true from (decide_eq_true (by rw [view_not (by omega)])))) rfl ?_)
    refine s_cons (op_move (.bool (decide (((encF (⟨4, (1073741822 + (r1 : Int)), (r2 : Int), 0, []⟩ : Frame)).2) = 1))) rfl ?_)
    refine s_yes 50 rfl (congrArg Value.bool (show (decide (((encF (⟨4, (1073741822 + (r1 : Int)), (r2 : Int), 0, []⟩ : Frame)).2) = 1)) = true from (decide_eq_true (by rw [view_not (by omega)])))) (op_move r4 rfl ?_)
    refine s_yes 50 rfl (congrArg Value.bool (show (decide (((encF (⟨4, (1073741822 + (r1 : Int)), (r2 : Int), 0, []⟩ : Frame)).2) = 1)) = true from (decide_eq_true (by rw [view_not (by omega)])))) (op_len (E := u8E) (xs := (encF (⟨3, (1073741822 + (r1 : Int)), (r2 : Int), 0, []⟩ : Frame)).1) Try.underlying23 rfl (hst.sl 2 rfl) ?_)
    refine s_yes 50 rfl (congrArg Value.bool (show (decide (((encF (⟨4, (1073741822 + (r1 : Int)), (r2 : Int), 0, []⟩ : Frame)).2) = 1)) = true from (decide_eq_true (by rw [view_not (by omega)])))) (op_eql (k := .i64) (a := (((encF (⟨3, (1073741822 + (r1 : Int)), (r2 : Int), 0, []⟩ : Frame)).1).length : Int)) (b := 0) rfl rfl ?_)
    refine s_cons (op_pick_t (.bool (decide ((((encF (⟨3, (1073741822 + (r1 : Int)), (r2 : Int), 0, []⟩ : Frame)).1).length : Int) = 0))) (congrArg Value.bool (show (decide (((encF (⟨4, (1073741822 + (r1 : Int)), (r2 : Int), 0, []⟩ : Frame)).2) = 1)) = true from (decide_eq_true (by rw [view_not (by omega)])))) rfl ?_)
    refine s_cons (op_assign (.bool (decide ((((encF (⟨3, (1073741822 + (r1 : Int)), (r2 : Int), 0, []⟩ : Frame)).1).length : Int) = 0))) rfl ?_)
    refine s_nil ?_
    refine then_n ?_
    refine cE_ret ?_
    refine then_r ?_
    refine post_r _ (res1 (v := (.bool true)) (congrArg Value.bool (show (decide ((((encF (⟨3, (1073741822 + (r1 : Int)), (r2 : Int), 0, []⟩ : Frame)).1).length : Int) = 0)) = true from (decide_eq_true (by rw [view_not (by omega)]; rfl))))) ?_
    exact ⟨rfl, hst.bare⟩
  · have c15 : ¬ (1073741824 < (1073741822 + (r1 : Int))) := of_decide_eq_false b12
    refine cE_cond false (congrArg Value.bool b12) (fun h => by cases h) (fun _ => ?_)
    refine cE_skip ?_
    refine then_n ?_
    refine cE_seq ?_
    refine cE_region rfl ?_
    refine s_cons (op_move r4 rfl ?_)
    refine s_cons (op_call Try.call10 (evs_cons (v := r4) rfl evs_nil) (c_fGet (w0 := w11) (v_b := r4) (b := (encF (⟨3, (1073741822 + (r1 : Int)), (r2 : Int), 0, []⟩ : Frame)).1) (h_b := (hst.sl 2 rfl)) (hl := (Nat.le_trans (enc_max (by simp)) (by decide)))) ?_)
    rintro _ w17 ⟨r16, rfl, hcall⟩
    refine ⟨_, rfl, ?_⟩
    have hst : St w0 w17 [rowT 5 u8E r16 ((decF ((encF (⟨3, (1073741822 + (r1 : Int)), (r2 : Int), 0, []⟩ : Frame)).1)).1.Body), rowT 5 u8E r10 ((encF (⟨4, (1073741822 + (r1 : Int)), (r2 : Int), 0, []⟩ : Frame)).1), .blk g6 25 #[(.int .i64 4), (.int .i64 (1073741822 + (r1 : Int))), (.int .i64 (r2 : Int)), (.int .i64 0), (.slice none 0 0)], rowT 5 u8E r4 ((encF (⟨3, (1073741822 + (r1 : Int)), (r2 : Int), 0, []⟩ : Frame)).1), .blk g1 25 #[(.int .i64 3), (.int .i64 (1073741822 + (r1 : Int))), (.int .i64 (r2 : Int)), (.int .i64 0), (.slice none 0 0)]] := hst.call hcall
    refine s_cons (op_move (.tuple #[(.agg #[(.int .i64 (((decF ((encF (⟨3, (1073741822 + (r1 : Int)), (r2 : Int), 0, []⟩ : Frame)).1)).1).Kind)), (.int .i64 (((decF ((encF (⟨3, (1073741822 + (r1 : Int)), (r2 : Int), 0, []⟩ : Frame)).1)).1).View)), (.int .i64 (((decF ((encF (⟨3, (1073741822 + (r1 : Int)), (r2 : Int), 0, []⟩ : Frame)).1)).1).Site)), (.int .i64 (((decF ((encF (⟨3, (1073741822 + (r1 : Int)), (r2 : Int), 0, []⟩ : Frame)).1)).1).Seq)), r16]), (.int .i64 ((decF ((encF (⟨3, (1073741822 + (r1 : Int)), (r2 : Int), 0, []⟩ : Frame)).1)).2))]) rfl ?_)
    refine s_cons (op_extract (.agg #[(.int .i64 (((decF ((encF (⟨3, (1073741822 + (r1 : Int)), (r2 : Int), 0, []⟩ : Frame)).1)).1).Kind)), (.int .i64 (((decF ((encF (⟨3, (1073741822 + (r1 : Int)), (r2 : Int), 0, []⟩ : Frame)).1)).1).View)), (.int .i64 (((decF ((encF (⟨3, (1073741822 + (r1 : Int)), (r2 : Int), 0, []⟩ : Frame)).1)).1).Site)), (.int .i64 (((decF ((encF (⟨3, (1073741822 + (r1 : Int)), (r2 : Int), 0, []⟩ : Frame)).1)).1).Seq)), r16]) rfl rfl ?_)
    refine s_cons (op_extract (.int .i64 ((decF ((encF (⟨3, (1073741822 + (r1 : Int)), (r2 : Int), 0, []⟩ : Frame)).1)).2)) rfl rfl ?_)
    refine s_cons (op_alloc (cs := #[(.int .i64 0), (.int .i64 0), (.int .i64 0), (.int .i64 0), (.slice none 0 0)]) hst Try.zeroValue25 rfl (fun g18 w19 hst _ => ?_))
    replace hst : St w0 w19 [.blk g18 25 #[(.int .i64 0), (.int .i64 0), (.int .i64 0), (.int .i64 0), (.slice none 0 0)], rowT 5 u8E r16 ((decF ((encF (⟨3, (1073741822 + (r1 : Int)), (r2 : Int), 0, []⟩ : Frame)).1)).1.Body), rowT 5 u8E r10 ((encF (⟨4, (1073741822 + (r1 : Int)), (r2 : Int), 0, []⟩ : Frame)).1), .blk g6 25 #[(.int .i64 4), (.int .i64 (1073741822 + (r1 : Int))), (.int .i64 (r2 : Int)), (.int .i64 0), (.slice none 0 0)], rowT 5 u8E r4 ((encF (⟨3, (1073741822 + (r1 : Int)), (r2 : Int), 0, []⟩ : Frame)).1), .blk g1 25 #[(.int .i64 3), (.int .i64 (1073741822 + (r1 : Int))), (.int .i64 (r2 : Int)), (.int .i64 0), (.slice none 0 0)]] := hst
    refine s_cons0 (op_storeAll hst 0 rfl Try.sizeOf25 rfl rfl rfl rfl (oneL_all (l := [(.int .i64 (((decF ((encF (⟨3, (1073741822 + (r1 : Int)), (r2 : Int), 0, []⟩ : Frame)).1)).1).Kind)), (.int .i64 (((decF ((encF (⟨3, (1073741822 + (r1 : Int)), (r2 : Int), 0, []⟩ : Frame)).1)).1).View)), (.int .i64 (((decF ((encF (⟨3, (1073741822 + (r1 : Int)), (r2 : Int), 0, []⟩ : Frame)).1)).1).Site)), (.int .i64 (((decF ((encF (⟨3, (1073741822 + (r1 : Int)), (r2 : Int), 0, []⟩ : Frame)).1)).1).Seq)), r16]) ⟨rfl, rfl, rfl, rfl, (sl_one (show Sl _ u8E r16 (((decF ((encF (⟨3, (1073741822 + (r1 : Int)), (r2 : Int), 0, []⟩ : Frame)).1)).1).Body) from (hst.sl 1 rfl))), trivial⟩) (fun w20 hst => ?_))
    replace hst : St w0 w20 [.blk g18 25 #[(.int .i64 (((decF ((encF (⟨3, (1073741822 + (r1 : Int)), (r2 : Int), 0, []⟩ : Frame)).1)).1).Kind)), (.int .i64 (((decF ((encF (⟨3, (1073741822 + (r1 : Int)), (r2 : Int), 0, []⟩ : Frame)).1)).1).View)), (.int .i64 (((decF ((encF (⟨3, (1073741822 + (r1 : Int)), (r2 : Int), 0, []⟩ : Frame)).1)).1).Site)), (.int .i64 (((decF ((encF (⟨3, (1073741822 + (r1 : Int)), (r2 : Int), 0, []⟩ : Frame)).1)).1).Seq)), r16], rowT 5 u8E r16 ((decF ((encF (⟨3, (1073741822 + (r1 : Int)), (r2 : Int), 0, []⟩ : Frame)).1)).1.Body), rowT 5 u8E r10 ((encF (⟨4, (1073741822 + (r1 : Int)), (r2 : Int), 0, []⟩ : Frame)).1), .blk g6 25 #[(.int .i64 4), (.int .i64 (1073741822 + (r1 : Int))), (.int .i64 (r2 : Int)), (.int .i64 0), (.slice none 0 0)], rowT 5 u8E r4 ((encF (⟨3, (1073741822 + (r1 : Int)), (r2 : Int), 0, []⟩ : Frame)).1), .blk g1 25 #[(.int .i64 3), (.int .i64 (1073741822 + (r1 : Int))), (.int .i64 (r2 : Int)), (.int .i64 0), (.slice none 0 0)]] := hst
    refine s_cons (op_assign (.int .i64 ((decF ((encF (⟨3, (1073741822 + (r1 : Int)), (r2 : Int), 0, []⟩ : Frame)).1)).2)) rfl ?_)
    refine s_nil ?_
    refine then_n ?_
    refine cE_seq ?_
    refine cE_region rfl ?_
    refine s_cons (op_move r10 rfl ?_)
    refine s_cons (op_call Try.call10 (evs_cons (v := r10) rfl evs_nil) (c_fGet (w0 := w20) (v_b := r10) (b := (encF (⟨4, (1073741822 + (r1 : Int)), (r2 : Int), 0, []⟩ : Frame)).1) (h_b := (hst.sl 2 rfl)) (hl := (Nat.le_trans (enc_max (by simp)) (by decide)))) ?_)
    rintro _ w22 ⟨r21, rfl, hcall⟩
    refine ⟨_, rfl, ?_⟩
    have hst : St w0 w22 [rowT 5 u8E r21 ((decF ((encF (⟨4, (1073741822 + (r1 : Int)), (r2 : Int), 0, []⟩ : Frame)).1)).1.Body), .blk g18 25 #[(.int .i64 (((decF ((encF (⟨3, (1073741822 + (r1 : Int)), (r2 : Int), 0, []⟩ : Frame)).1)).1).Kind)), (.int .i64 (((decF ((encF (⟨3, (1073741822 + (r1 : Int)), (r2 : Int), 0, []⟩ : Frame)).1)).1).View)), (.int .i64 (((decF ((encF (⟨3, (1073741822 + (r1 : Int)), (r2 : Int), 0, []⟩ : Frame)).1)).1).Site)), (.int .i64 (((decF ((encF (⟨3, (1073741822 + (r1 : Int)), (r2 : Int), 0, []⟩ : Frame)).1)).1).Seq)), r16], rowT 5 u8E r16 ((decF ((encF (⟨3, (1073741822 + (r1 : Int)), (r2 : Int), 0, []⟩ : Frame)).1)).1.Body), rowT 5 u8E r10 ((encF (⟨4, (1073741822 + (r1 : Int)), (r2 : Int), 0, []⟩ : Frame)).1), .blk g6 25 #[(.int .i64 4), (.int .i64 (1073741822 + (r1 : Int))), (.int .i64 (r2 : Int)), (.int .i64 0), (.slice none 0 0)], rowT 5 u8E r4 ((encF (⟨3, (1073741822 + (r1 : Int)), (r2 : Int), 0, []⟩ : Frame)).1), .blk g1 25 #[(.int .i64 3), (.int .i64 (1073741822 + (r1 : Int))), (.int .i64 (r2 : Int)), (.int .i64 0), (.slice none 0 0)]] := hst.call hcall
    refine s_cons (op_move (.tuple #[(.agg #[(.int .i64 (((decF ((encF (⟨4, (1073741822 + (r1 : Int)), (r2 : Int), 0, []⟩ : Frame)).1)).1).Kind)), (.int .i64 (((decF ((encF (⟨4, (1073741822 + (r1 : Int)), (r2 : Int), 0, []⟩ : Frame)).1)).1).View)), (.int .i64 (((decF ((encF (⟨4, (1073741822 + (r1 : Int)), (r2 : Int), 0, []⟩ : Frame)).1)).1).Site)), (.int .i64 (((decF ((encF (⟨4, (1073741822 + (r1 : Int)), (r2 : Int), 0, []⟩ : Frame)).1)).1).Seq)), r21]), (.int .i64 ((decF ((encF (⟨4, (1073741822 + (r1 : Int)), (r2 : Int), 0, []⟩ : Frame)).1)).2))]) rfl ?_)
    refine s_cons (op_extract (.agg #[(.int .i64 (((decF ((encF (⟨4, (1073741822 + (r1 : Int)), (r2 : Int), 0, []⟩ : Frame)).1)).1).Kind)), (.int .i64 (((decF ((encF (⟨4, (1073741822 + (r1 : Int)), (r2 : Int), 0, []⟩ : Frame)).1)).1).View)), (.int .i64 (((decF ((encF (⟨4, (1073741822 + (r1 : Int)), (r2 : Int), 0, []⟩ : Frame)).1)).1).Site)), (.int .i64 (((decF ((encF (⟨4, (1073741822 + (r1 : Int)), (r2 : Int), 0, []⟩ : Frame)).1)).1).Seq)), r21]) rfl rfl ?_)
    refine s_cons (op_extract (.int .i64 ((decF ((encF (⟨4, (1073741822 + (r1 : Int)), (r2 : Int), 0, []⟩ : Frame)).1)).2)) rfl rfl ?_)
    refine s_cons (op_alloc (cs := #[(.int .i64 0), (.int .i64 0), (.int .i64 0), (.int .i64 0), (.slice none 0 0)]) hst Try.zeroValue25 rfl (fun g23 w24 hst _ => ?_))
    replace hst : St w0 w24 [.blk g23 25 #[(.int .i64 0), (.int .i64 0), (.int .i64 0), (.int .i64 0), (.slice none 0 0)], rowT 5 u8E r21 ((decF ((encF (⟨4, (1073741822 + (r1 : Int)), (r2 : Int), 0, []⟩ : Frame)).1)).1.Body), .blk g18 25 #[(.int .i64 (((decF ((encF (⟨3, (1073741822 + (r1 : Int)), (r2 : Int), 0, []⟩ : Frame)).1)).1).Kind)), (.int .i64 (((decF ((encF (⟨3, (1073741822 + (r1 : Int)), (r2 : Int), 0, []⟩ : Frame)).1)).1).View)), (.int .i64 (((decF ((encF (⟨3, (1073741822 + (r1 : Int)), (r2 : Int), 0, []⟩ : Frame)).1)).1).Site)), (.int .i64 (((decF ((encF (⟨3, (1073741822 + (r1 : Int)), (r2 : Int), 0, []⟩ : Frame)).1)).1).Seq)), r16], rowT 5 u8E r16 ((decF ((encF (⟨3, (1073741822 + (r1 : Int)), (r2 : Int), 0, []⟩ : Frame)).1)).1.Body), rowT 5 u8E r10 ((encF (⟨4, (1073741822 + (r1 : Int)), (r2 : Int), 0, []⟩ : Frame)).1), .blk g6 25 #[(.int .i64 4), (.int .i64 (1073741822 + (r1 : Int))), (.int .i64 (r2 : Int)), (.int .i64 0), (.slice none 0 0)], rowT 5 u8E r4 ((encF (⟨3, (1073741822 + (r1 : Int)), (r2 : Int), 0, []⟩ : Frame)).1), .blk g1 25 #[(.int .i64 3), (.int .i64 (1073741822 + (r1 : Int))), (.int .i64 (r2 : Int)), (.int .i64 0), (.slice none 0 0)]] := hst
    refine s_cons0 (op_storeAll hst 0 rfl Try.sizeOf25 rfl rfl rfl rfl (oneL_all (l := [(.int .i64 (((decF ((encF (⟨4, (1073741822 + (r1 : Int)), (r2 : Int), 0, []⟩ : Frame)).1)).1).Kind)), (.int .i64 (((decF ((encF (⟨4, (1073741822 + (r1 : Int)), (r2 : Int), 0, []⟩ : Frame)).1)).1).View)), (.int .i64 (((decF ((encF (⟨4, (1073741822 + (r1 : Int)), (r2 : Int), 0, []⟩ : Frame)).1)).1).Site)), (.int .i64 (((decF ((encF (⟨4, (1073741822 + (r1 : Int)), (r2 : Int), 0, []⟩ : Frame)).1)).1).Seq)), r21]) ⟨rfl, rfl, rfl, rfl, (sl_one (show Sl _ u8E r21 (((decF ((encF (⟨4, (1073741822 + (r1 : Int)), (r2 : Int), 0, []⟩ : Frame)).1)).1).Body) from (hst.sl 1 rfl))), trivial⟩) (fun w25 hst => ?_))
    replace hst : St w0 w25 [.blk g23 25 #[(.int .i64 (((decF ((encF (⟨4, (1073741822 + (r1 : Int)), (r2 : Int), 0, []⟩ : Frame)).1)).1).Kind)), (.int .i64 (((decF ((encF (⟨4, (1073741822 + (r1 : Int)), (r2 : Int), 0, []⟩ : Frame)).1)).1).View)), (.int .i64 (((decF ((encF (⟨4, (1073741822 + (r1 : Int)), (r2 : Int), 0, []⟩ : Frame)).1)).1).Site)), (.int .i64 (((decF ((encF (⟨4, (1073741822 + (r1 : Int)), (r2 : Int), 0, []⟩ : Frame)).1)).1).Seq)), r21], rowT 5 u8E r21 ((decF ((encF (⟨4, (1073741822 + (r1 : Int)), (r2 : Int), 0, []⟩ : Frame)).1)).1.Body), .blk g18 25 #[(.int .i64 (((decF ((encF (⟨3, (1073741822 + (r1 : Int)), (r2 : Int), 0, []⟩ : Frame)).1)).1).Kind)), (.int .i64 (((decF ((encF (⟨3, (1073741822 + (r1 : Int)), (r2 : Int), 0, []⟩ : Frame)).1)).1).View)), (.int .i64 (((decF ((encF (⟨3, (1073741822 + (r1 : Int)), (r2 : Int), 0, []⟩ : Frame)).1)).1).Site)), (.int .i64 (((decF ((encF (⟨3, (1073741822 + (r1 : Int)), (r2 : Int), 0, []⟩ : Frame)).1)).1).Seq)), r16], rowT 5 u8E r16 ((decF ((encF (⟨3, (1073741822 + (r1 : Int)), (r2 : Int), 0, []⟩ : Frame)).1)).1.Body), rowT 5 u8E r10 ((encF (⟨4, (1073741822 + (r1 : Int)), (r2 : Int), 0, []⟩ : Frame)).1), .blk g6 25 #[(.int .i64 4), (.int .i64 (1073741822 + (r1 : Int))), (.int .i64 (r2 : Int)), (.int .i64 0), (.slice none 0 0)], rowT 5 u8E r4 ((encF (⟨3, (1073741822 + (r1 : Int)), (r2 : Int), 0, []⟩ : Frame)).1), .blk g1 25 #[(.int .i64 3), (.int .i64 (1073741822 + (r1 : Int))), (.int .i64 (r2 : Int)), (.int .i64 0), (.slice none 0 0)]] := hst
    refine s_cons (op_assign (.int .i64 ((decF ((encF (⟨4, (1073741822 + (r1 : Int)), (r2 : Int), 0, []⟩ : Frame)).1)).2)) rfl ?_)
    refine s_nil ?_
    refine then_n ?_
    refine cE_seq ?_
    refine cE_region rfl ?_
    refine s_cons (op_call Try.call9 evs_nil (c_told13 (w0 := w25)) ?_)
    rintro _ w26 ⟨rfl, hcall⟩
    refine ⟨_, rfl, ?_⟩
    have hst : St w0 w26 [.blk g23 25 #[(.int .i64 (((decF ((encF (⟨4, (1073741822 + (r1 : Int)), (r2 : Int), 0, []⟩ : Frame)).1)).1).Kind)), (.int .i64 (((decF ((encF (⟨4, (1073741822 + (r1 : Int)), (r2 : Int), 0, []⟩ : Frame)).1)).1).View)), (.int .i64 (((decF ((encF (⟨4, (1073741822 + (r1 : Int)), (r2 : Int), 0, []⟩ : Frame)).1)).1).Site)), (.int .i64 (((decF ((encF (⟨4, (1073741822 + (r1 : Int)), (r2 : Int), 0, []⟩ : Frame)).1)).1).Seq)), r21], rowT 5 u8E r21 ((decF ((encF (⟨4, (1073741822 + (r1 : Int)), (r2 : Int), 0, []⟩ : Frame)).1)).1.Body), .blk g18 25 #[(.int .i64 (((decF ((encF (⟨3, (1073741822 + (r1 : Int)), (r2 : Int), 0, []⟩ : Frame)).1)).1).Kind)), (.int .i64 (((decF ((encF (⟨3, (1073741822 + (r1 : Int)), (r2 : Int), 0, []⟩ : Frame)).1)).1).View)), (.int .i64 (((decF ((encF (⟨3, (1073741822 + (r1 : Int)), (r2 : Int), 0, []⟩ : Frame)).1)).1).Site)), (.int .i64 (((decF ((encF (⟨3, (1073741822 + (r1 : Int)), (r2 : Int), 0, []⟩ : Frame)).1)).1).Seq)), r16], rowT 5 u8E r16 ((decF ((encF (⟨3, (1073741822 + (r1 : Int)), (r2 : Int), 0, []⟩ : Frame)).1)).1.Body), rowT 5 u8E r10 ((encF (⟨4, (1073741822 + (r1 : Int)), (r2 : Int), 0, []⟩ : Frame)).1), .blk g6 25 #[(.int .i64 4), (.int .i64 (1073741822 + (r1 : Int))), (.int .i64 (r2 : Int)), (.int .i64 0), (.slice none 0 0)], rowT 5 u8E r4 ((encF (⟨3, (1073741822 + (r1 : Int)), (r2 : Int), 0, []⟩ : Frame)).1), .blk g1 25 #[(.int .i64 3), (.int .i64 (1073741822 + (r1 : Int))), (.int .i64 (r2 : Int)), (.int .i64 0), (.slice none 0 0)]] := hst.call hcall
    refine s_cons (op_move (.bool true) rfl ?_)
    refine s_yes 66 rfl rfl (op_move (.int .i64 ((encF (⟨3, (1073741822 + (r1 : Int)), (r2 : Int), 0, []⟩ : Frame)).2)) rfl ?_)
    refine s_yes 66 rfl rfl (op_eql (k := .i64) (a := (encF (⟨3, (1073741822 + (r1 : Int)), (r2 : Int), 0, []⟩ : Frame)).2) (b := 0) rfl rfl ?_)
    refine s_cons (op_pick_t (.bool (decide (((encF (⟨3, (1073741822 + (r1 : Int)), (r2 : Int), 0, []⟩ : Frame)).2) = 0))) rfl rfl ?_)
    refine s_cons (op_move (.bool (decide (((encF (⟨3, (1073741822 + (r1 : Int)), (r2 : Int), 0, []⟩ : Frame)).2) = 0))) rfl ?_)
    refine s_yes 70 rfl (congrArg Value.bool (show (decide (((encF (⟨3, (1073741822 + (r1 : Int)), (r2 : Int), 0, []⟩ : Frame)).2) = 0)) = true from (decide_eq_true (enc_code (view_may (by omega) (by omega) (by omega) (Or.inl rfl)))))) (op_move (.int .i64 ((encF (⟨4, (1073741822 + (r1 : Int)), (r2 : Int), 0, []⟩ : Frame)).2)) rfl ?_)
    refine s_yes 70 rfl (congrArg Value.bool (show (decide (((encF (⟨3, (1073741822 + (r1 : Int)), (r2 : Int), 0, []⟩ : Frame)).2) = 0)) = true from (decide_eq_true (enc_code (view_may (by omega) (by omega) (by omega) (Or.inl rfl)))))) (op_eql (k := .i64) (a := (encF (⟨4, (1073741822 + (r1 : Int)), (r2 : Int), 0, []⟩ : Frame)).2) (b := 0) rfl rfl ?_)
    refine s_cons (op_pick_t (.bool (decide (((encF (⟨4, (1073741822 + (r1 : Int)), (r2 : Int), 0, []⟩ : Frame)).2) = 0))) (congrArg Value.bool (show (decide (((encF (⟨3, (1073741822 + (r1 : Int)), (r2 : Int), 0, []⟩ : Frame)).2) = 0)) = true from (decide_eq_true (enc_code (view_may (by omega) (by omega) (by omega) (Or.inl rfl)))))) rfl ?_)
    refine s_cons (op_move (.bool (decide (((encF (⟨4, (1073741822 + (r1 : Int)), (r2 : Int), 0, []⟩ : Frame)).2) = 0))) rfl ?_)
    refine s_yes 74 rfl (congrArg Value.bool (show (decide (((encF (⟨4, (1073741822 + (r1 : Int)), (r2 : Int), 0, []⟩ : Frame)).2) = 0)) = true from (decide_eq_true (enc_code (view_may (by omega) (by omega) (by omega) (Or.inr rfl)))))) (op_move (.int .i64 ((decF ((encF (⟨3, (1073741822 + (r1 : Int)), (r2 : Int), 0, []⟩ : Frame)).1)).2)) rfl ?_)
    refine s_yes 74 rfl (congrArg Value.bool (show (decide (((encF (⟨4, (1073741822 + (r1 : Int)), (r2 : Int), 0, []⟩ : Frame)).2) = 0)) = true from (decide_eq_true (enc_code (view_may (by omega) (by omega) (by omega) (Or.inr rfl)))))) (op_eql (k := .i64) (a := (decF ((encF (⟨3, (1073741822 + (r1 : Int)), (r2 : Int), 0, []⟩ : Frame)).1)).2) (b := 0) rfl rfl ?_)
    refine s_cons (op_pick_t (.bool (decide (((decF ((encF (⟨3, (1073741822 + (r1 : Int)), (r2 : Int), 0, []⟩ : Frame)).1)).2) = 0))) (congrArg Value.bool (show (decide (((encF (⟨4, (1073741822 + (r1 : Int)), (r2 : Int), 0, []⟩ : Frame)).2) = 0)) = true from (decide_eq_true (enc_code (view_may (by omega) (by omega) (by omega) (Or.inr rfl)))))) rfl ?_)
    refine s_cons (op_move (.bool (decide (((decF ((encF (⟨3, (1073741822 + (r1 : Int)), (r2 : Int), 0, []⟩ : Frame)).1)).2) = 0))) rfl ?_)
    refine s_yes 78 rfl (congrArg Value.bool (show (decide (((decF ((encF (⟨3, (1073741822 + (r1 : Int)), (r2 : Int), 0, []⟩ : Frame)).1)).2) = 0)) = true from (decide_eq_true (by rw [dec_enc (view_may (by omega) (by omega) (by omega) (Or.inl rfl))])))) (op_move (.int .i64 ((decF ((encF (⟨4, (1073741822 + (r1 : Int)), (r2 : Int), 0, []⟩ : Frame)).1)).2)) rfl ?_)
    refine s_yes 78 rfl (congrArg Value.bool (show (decide (((decF ((encF (⟨3, (1073741822 + (r1 : Int)), (r2 : Int), 0, []⟩ : Frame)).1)).2) = 0)) = true from (decide_eq_true (by rw [dec_enc (view_may (by omega) (by omega) (by omega) (Or.inl rfl))])))) (op_eql (k := .i64) (a := (decF ((encF (⟨4, (1073741822 + (r1 : Int)), (r2 : Int), 0, []⟩ : Frame)).1)).2) (b := 0) rfl rfl ?_)
    refine s_cons (op_pick_t (.bool (decide (((decF ((encF (⟨4, (1073741822 + (r1 : Int)), (r2 : Int), 0, []⟩ : Frame)).1)).2) = 0))) (congrArg Value.bool (show (decide (((decF ((encF (⟨3, (1073741822 + (r1 : Int)), (r2 : Int), 0, []⟩ : Frame)).1)).2) = 0)) = true from (decide_eq_true (by rw [dec_enc (view_may (by omega) (by omega) (by omega) (Or.inl rfl))])))) rfl ?_)
    refine s_cons (op_move (.bool (decide (((decF ((encF (⟨4, (1073741822 + (r1 : Int)), (r2 : Int), 0, []⟩ : Frame)).1)).2) = 0))) rfl ?_)
    refine s_yes 82 rfl (congrArg Value.bool (show (decide (((decF ((encF (⟨4, (1073741822 + (r1 : Int)), (r2 : Int), 0, []⟩ : Frame)).1)).2) = 0)) = true from (decide_eq_true (by rw [dec_enc (view_may (by omega) (by omega) (by omega) (Or.inr rfl))])))) (op_loadN (cs := [(.int .i64 (((decF ((encF (⟨3, (1073741822 + (r1 : Int)), (r2 : Int), 0, []⟩ : Frame)).1)).1).Kind)), (.int .i64 (((decF ((encF (⟨3, (1073741822 + (r1 : Int)), (r2 : Int), 0, []⟩ : Frame)).1)).1).View)), (.int .i64 (((decF ((encF (⟨3, (1073741822 + (r1 : Int)), (r2 : Int), 0, []⟩ : Frame)).1)).1).Site)), (.int .i64 (((decF ((encF (⟨3, (1073741822 + (r1 : Int)), (r2 : Int), 0, []⟩ : Frame)).1)).1).Seq)), r16]) Try.isAgg25 Try.sizeOf25 rfl (Pt.of (hst.cell 2 rfl) rfl) rfl ?_)
    refine s_yes 82 rfl (congrArg Value.bool (show (decide (((decF ((encF (⟨4, (1073741822 + (r1 : Int)), (r2 : Int), 0, []⟩ : Frame)).1)).2) = 0)) = true from (decide_eq_true (by rw [dec_enc (view_may (by omega) (by omega) (by omega) (Or.inr rfl))])))) (op_loadN (cs := [(.int .i64 3), (.int .i64 (1073741822 + (r1 : Int))), (.int .i64 (r2 : Int)), (.int .i64 0), (.slice none 0 0)]) Try.isAgg25 Try.sizeOf25 rfl (Pt.of (hst.cell 7 rfl) rfl) rfl ?_)
    refine s_yes 82 rfl (congrArg Value.bool (show (decide (((decF ((encF (⟨4, (1073741822 + (r1 : Int)), (r2 : Int), 0, []⟩ : Frame)).1)).2) = 0)) = true from (decide_eq_true (by rw [dec_enc (view_may (by omega) (by omega) (by omega) (Or.inr rfl))])))) (op_call Try.call11 (evs_cons (v := (.agg #[(.int .i64 (((decF ((encF (⟨3, (1073741822 + (r1 : Int)), (r2 : Int), 0, []⟩ : Frame)).1)).1).Kind)), (.int .i64 (((decF ((encF (⟨3, (1073741822 + (r1 : Int)), (r2 : Int), 0, []⟩ : Frame)).1)).1).View)), (.int .i64 (((decF ((encF (⟨3, (1073741822 + (r1 : Int)), (r2 : Int), 0, []⟩ : Frame)).1)).1).Site)), (.int .i64 (((decF ((encF (⟨3, (1073741822 + (r1 : Int)), (r2 : Int), 0, []⟩ : Frame)).1)).1).Seq)), r16])) rfl (evs_cons (v := (.agg #[(.int .i64 3), (.int .i64 (1073741822 + (r1 : Int))), (.int .i64 (r2 : Int)), (.int .i64 0), (.slice none 0 0)])) rfl evs_nil)) (c_fSame (w0 := w26) (f := ((decF ((encF (⟨3, (1073741822 + (r1 : Int)), (r2 : Int), 0, []⟩ : Frame)).1)).1)) (v_f_Body := r16) (h_f_Body := (hst.sl 3 rfl)) (g := (⟨3, (1073741822 + (r1 : Int)), (r2 : Int), 0, []⟩ : Frame)) (v_g_Body := (.slice none 0 0)) (h_g_Body := (Sl.nil u8E _))) ?_)
    rintro _ w27 ⟨rfl, hcall⟩
    refine ⟨_, rfl, ?_⟩
    have hst : St w0 w27 [.blk g23 25 #[(.int .i64 (((decF ((encF (⟨4, (1073741822 + (r1 : Int)), (r2 : Int), 0, []⟩ : Frame)).1)).1).Kind)), (.int .i64 (((decF ((encF (⟨4, (1073741822 + (r1 : Int)), (r2 : Int), 0, []⟩ : Frame)).1)).1).View)), (.int .i64 (((decF ((encF (⟨4, (1073741822 + (r1 : Int)), (r2 : Int), 0, []⟩ : Frame)).1)).1).Site)), (.int .i64 (((decF ((encF (⟨4, (1073741822 + (r1 : Int)), (r2 : Int), 0, []⟩ : Frame)).1)).1).Seq)), r21], rowT 5 u8E r21 ((decF ((encF (⟨4, (1073741822 + (r1 : Int)), (r2 : Int), 0, []⟩ : Frame)).1)).1.Body), .blk g18 25 #[(.int .i64 (((decF ((encF (⟨3, (1073741822 + (r1 : Int)), (r2 : Int), 0, []⟩ : Frame)).1)).1).Kind)), (.int .i64 (((decF ((encF (⟨3, (1073741822 + (r1 : Int)), (r2 : Int), 0, []⟩ : Frame)).1)).1).View)), (.int .i64 (((decF ((encF (⟨3, (1073741822 + (r1 : Int)), (r2 : Int), 0, []⟩ : Frame)).1)).1).Site)), (.int .i64 (((decF ((encF (⟨3, (1073741822 + (r1 : Int)), (r2 : Int), 0, []⟩ : Frame)).1)).1).Seq)), r16], rowT 5 u8E r16 ((decF ((encF (⟨3, (1073741822 + (r1 : Int)), (r2 : Int), 0, []⟩ : Frame)).1)).1.Body), rowT 5 u8E r10 ((encF (⟨4, (1073741822 + (r1 : Int)), (r2 : Int), 0, []⟩ : Frame)).1), .blk g6 25 #[(.int .i64 4), (.int .i64 (1073741822 + (r1 : Int))), (.int .i64 (r2 : Int)), (.int .i64 0), (.slice none 0 0)], rowT 5 u8E r4 ((encF (⟨3, (1073741822 + (r1 : Int)), (r2 : Int), 0, []⟩ : Frame)).1), .blk g1 25 #[(.int .i64 3), (.int .i64 (1073741822 + (r1 : Int))), (.int .i64 (r2 : Int)), (.int .i64 0), (.slice none 0 0)]] := hst.call hcall
    refine s_cons (op_pick_t (.bool (decide (((decF ((encF (⟨3, (1073741822 + (r1 : Int)), (r2 : Int), 0, []⟩ : Frame)).1)).1) = (⟨3, (1073741822 + (r1 : Int)), (r2 : Int), 0, []⟩ : Frame)))) (congrArg Value.bool (show (decide (((decF ((encF (⟨4, (1073741822 + (r1 : Int)), (r2 : Int), 0, []⟩ : Frame)).1)).2) = 0)) = true from (decide_eq_true (by rw [dec_enc (view_may (by omega) (by omega) (by omega) (Or.inr rfl))])))) rfl ?_)
    refine s_cons (op_move (.bool (decide (((decF ((encF (⟨3, (1073741822 + (r1 : Int)), (r2 : Int), 0, []⟩ : Frame)).1)).1) = (⟨3, (1073741822 + (r1 : Int)), (r2 : Int), 0, []⟩ : Frame)))) rfl ?_)
    refine s_yes 87 rfl (congrArg Value.bool (show (decide (((decF ((encF (⟨3, (1073741822 + (r1 : Int)), (r2 : Int), 0, []⟩ : Frame)).1)).1) = (⟨3, (1073741822 + (r1 : Int)), (r2 : Int), 0, []⟩ : Frame))) = true from (decide_eq_true (by rw [dec_enc (view_may (by omega) (by omega) (by omega) (Or.inl rfl))])))) (op_loadN (cs := [(.int .i64 (((decF ((encF (⟨4, (1073741822 + (r1 : Int)), (r2 : Int), 0, []⟩ : Frame)).1)).1).Kind)), (.int .i64 (((decF ((encF (⟨4, (1073741822 + (r1 : Int)), (r2 : Int), 0, []⟩ : Frame)).1)).1).View)), (.int .i64 (((decF ((encF (⟨4, (1073741822 + (r1 : Int)), (r2 : Int), 0, []⟩ : Frame)).1)).1).Site)), (.int .i64 (((decF ((encF (⟨4, (1073741822 + (r1 : Int)), (r2 : Int), 0, []⟩ : Frame)).1)).1).Seq)), r21]) Try.isAgg25 Try.sizeOf25 rfl (Pt.of (hst.cell 0 rfl) rfl) rfl ?_)
    refine s_yes 87 rfl (congrArg Value.bool (show (decide (((decF ((encF (⟨3, (1073741822 + (r1 : Int)), (r2 : Int), 0, []⟩ : Frame)).1)).1) = (⟨3, (1073741822 + (r1 : Int)), (r2 : Int), 0, []⟩ : Frame))) = true from (decide_eq_true (by rw [dec_enc (view_may (by omega) (by omega) (by omega) (Or.inl rfl))])))) (op_loadN (cs := [(.int .i64 4), (.int .i64 (1073741822 + (r1 : Int))), (.int .i64 (r2 : Int)), (.int .i64 0), (.slice none 0 0)]) Try.isAgg25 Try.sizeOf25 rfl (Pt.of (hst.cell 5 rfl) rfl) rfl ?_)
    refine s_yes 87 rfl (congrArg Value.bool (show (decide (((decF ((encF (⟨3, (1073741822 + (r1 : Int)), (r2 : Int), 0, []⟩ : Frame)).1)).1) = (⟨3, (1073741822 + (r1 : Int)), (r2 : Int), 0, []⟩ : Frame))) = true from (decide_eq_true (by rw [dec_enc (view_may (by omega) (by omega) (by omega) (Or.inl rfl))])))) (op_call Try.call11 (evs_cons (v := (.agg #[(.int .i64 (((decF ((encF (⟨4, (1073741822 + (r1 : Int)), (r2 : Int), 0, []⟩ : Frame)).1)).1).Kind)), (.int .i64 (((decF ((encF (⟨4, (1073741822 + (r1 : Int)), (r2 : Int), 0, []⟩ : Frame)).1)).1).View)), (.int .i64 (((decF ((encF (⟨4, (1073741822 + (r1 : Int)), (r2 : Int), 0, []⟩ : Frame)).1)).1).Site)), (.int .i64 (((decF ((encF (⟨4, (1073741822 + (r1 : Int)), (r2 : Int), 0, []⟩ : Frame)).1)).1).Seq)), r21])) rfl (evs_cons (v := (.agg #[(.int .i64 4), (.int .i64 (1073741822 + (r1 : Int))), (.int .i64 (r2 : Int)), (.int .i64 0), (.slice none 0 0)])) rfl evs_nil)) (c_fSame (w0 := w27) (f := ((decF ((encF (⟨4, (1073741822 + (r1 : Int)), (r2 : Int), 0, []⟩ : Frame)).1)).1)) (v_f_Body := r21) (h_f_Body := (hst.sl 1 rfl)) (g := (⟨4, (1073741822 + (r1 : Int)), (r2 : Int), 0, []⟩ : Frame)) (v_g_Body := (.slice none 0 0)) (h_g_Body := (Sl.nil u8E _))) ?_)
    rintro _ w28 ⟨rfl, hcall⟩
    refine ⟨_, rfl, ?_⟩
    have hst : St w0 w28 [.blk g23 25 #[(.int .i64 (((decF ((encF (⟨4, (1073741822 + (r1 : Int)), (r2 : Int), 0, []⟩ : Frame)).1)).1).Kind)), (.int .i64 (((decF ((encF (⟨4, (1073741822 + (r1 : Int)), (r2 : Int), 0, []⟩ : Frame)).1)).1).View)), (.int .i64 (((decF ((encF (⟨4, (1073741822 + (r1 : Int)), (r2 : Int), 0, []⟩ : Frame)).1)).1).Site)), (.int .i64 (((decF ((encF (⟨4, (1073741822 + (r1 : Int)), (r2 : Int), 0, []⟩ : Frame)).1)).1).Seq)), r21], rowT 5 u8E r21 ((decF ((encF (⟨4, (1073741822 + (r1 : Int)), (r2 : Int), 0, []⟩ : Frame)).1)).1.Body), .blk g18 25 #[(.int .i64 (((decF ((encF (⟨3, (1073741822 + (r1 : Int)), (r2 : Int), 0, []⟩ : Frame)).1)).1).Kind)), (.int .i64 (((decF ((encF (⟨3, (1073741822 + (r1 : Int)), (r2 : Int), 0, []⟩ : Frame)).1)).1).View)), (.int .i64 (((decF ((encF (⟨3, (1073741822 + (r1 : Int)), (r2 : Int), 0, []⟩ : Frame)).1)).1).Site)), (.int .i64 (((decF ((encF (⟨3, (1073741822 + (r1 : Int)), (r2 : Int), 0, []⟩ : Frame)).1)).1).Seq)), r16], rowT 5 u8E r16 ((decF ((encF (⟨3, (1073741822 + (r1 : Int)), (r2 : Int), 0, []⟩ : Frame)).1)).1.Body), rowT 5 u8E r10 ((encF (⟨4, (1073741822 + (r1 : Int)), (r2 : Int), 0, []⟩ : Frame)).1), .blk g6 25 #[(.int .i64 4), (.int .i64 (1073741822 + (r1 : Int))), (.int .i64 (r2 : Int)), (.int .i64 0), (.slice none 0 0)], rowT 5 u8E r4 ((encF (⟨3, (1073741822 + (r1 : Int)), (r2 : Int), 0, []⟩ : Frame)).1), .blk g1 25 #[(.int .i64 3), (.int .i64 (1073741822 + (r1 : Int))), (.int .i64 (r2 : Int)), (.int .i64 0), (.slice none 0 0)]] := hst.call hcall
    refine s_cons (op_pick_t (.bool (decide (((decF ((encF (⟨4, (1073741822 + (r1 : Int)), (r2 : Int), 0, []⟩ : Frame)).1)).1) = (⟨4, (1073741822 + (r1 : Int)), (r2 : Int), 0, []⟩ : Frame)))) (congrArg Value.bool (show (decide (((decF ((encF (⟨3, (1073741822 + (r1 : Int)), (r2 : Int), 0, []⟩ : Frame)).1)).1) = (⟨3, (1073741822 + (r1 : Int)), (r2 : Int), 0, []⟩ : Frame))) = true from (decide_eq_true (by rw [dec_enc (view_may (by omega) (by omega) (by omega) (Or.inl rfl))])))) rfl ?_)
    refine s_cons (op_assign (.bool (decide (((decF ((encF (⟨4, (1073741822 + (r1 : Int)), (r2 : Int), 0, []⟩ : Frame)).1)).1) = (⟨4, (1073741822 + (r1 : Int)), (r2 : Int), 0, []⟩ : Frame)))) rfl ?_)
    refine s_nil ?_
    refine then_n ?_
    refine cE_ret ?_
    refine post_r _ (res1 (v := (.bool true)) (congrArg Value.bool (show (decide (((decF ((encF (⟨4, (1073741822 + (r1 : Int)), (r2 : Int), 0, []⟩ : Frame)).1)).1) = (⟨4, (1073741822 + (r1 : Int)), (r2 : Int), 0, []⟩ : Frame))) = true from (decide_eq_true (by rw [dec_enc (view_may (by omega) (by omega) (by omega) (Or.inr rfl))]))))) ?_
    exact ⟨rfl, hst.bare⟩

end Go.Proofs.Ytfljkaigfmedeaa
