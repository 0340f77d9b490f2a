/- told of frames -/
import Derived.Test.YtfljkaigfmedeaaFC
import Derived.Test.YtfljkaigfmedeaaW10
import Derived.Test.YtfljkaigfmedeaaW11
import Derived.Test.YtfljkaigfmedeaaW12
import Derived.Test.YtfljkaigfmedeaaW13
import Derived.Test.YtfljkaigfmedeaaW14
import Derived.Test.YtfljkaigfmedeaaW15
import Derived.Test.YtfljkaigfmedeaaW16
namespace Go.Proofs.Ytfljkaigfmedeaa
open Go.RowKit

set_option maxHeartbeats 8000000 in
theorem c_told13 (w0 : World) :
    Calls Try.prog 9 #[] w0 fun e w' => e = .returned (.bool true) ∧ St w0 w' [] := by
  refine calls_E (n := 76) (ts := [0]) Try.func9 rfl rfl rfl (by simp) ?_
  have hst := St.start w0
  refine cE_seq ?_
  refine cE_region rfl ?_
  refine s_cons (op_assign (.bool false) rfl ?_)
  refine s_nil ?_
  refine then_n ?_
  refine cE_seq ?_
  refine cE_region rfl ?_
  refine s_cons (op_buildSlice (E := u8E) [(byt 97), (byt 98)] hst Try.underlying23 Try.sizeOf5 Try.zeroValue5 (evp_cons (v := (.int .u8 97)) rfl (evp_cons (v := (.int .u8 98)) rfl evp_nil)) (parts_cons (by rw [u8cell]; exact byt_cell (by omega) (by omega)) (parts_cons (by rw [u8cell]; exact byt_cell (by omega) (by omega)) parts_nil)) rfl (by decide) (fun v1 w2 hst => ?_))
  replace hst : St w0 w2 [rowT 5 u8E v1 ([(byt 97), (byt 98)])] := hst
  refine s_cons (op_convMark hst 0 rfl Try.underlying23 Try.underlying5 rfl (by decide +kernel) (fun w3 hst => ?_))
  replace hst : St w0 w3 [txtT 5 u8E v1 ([(byt 97), (byt 98)])] := hst
  refine s_cons (op_build (r := (.agg #[(.int .i64 1), (.int .i64 2), (.int .i64 0), (.int .i64 9), v1])) (evp_cons (v := (.int .i64 1)) rfl (evp_cons (v := (.int .i64 2)) rfl (evp_cons (v := (.int .i64 9)) rfl (evp_cons (v := v1) rfl evp_nil)))) (by simp [Instr.build, Instr.fill, cells_int, cells_bool, cells_str, cells_agg, cells_nil, sl_cells (show Sl _ u8E v1 ([(byt 97), (byt 98)]) from (hst.slT 0 rfl)), Try.runUnderlying25, Try.zeroValue25]) ?_)
  refine s_cons (op_alloc (cs := #[(.int .i64 0), (.int .i64 0), (.int .i64 0), (.int .i64 0), (.slice none 0 0)]) hst Try.zeroValue25 rfl (fun g4 w5 hst _ => ?_))
  replace hst : St w0 w5 [.blk g4 25 #[(.int .i64 0), (.int .i64 0), (.int .i64 0), (.int .i64 0), (.slice none 0 0)], txtT 5 u8E v1 ([(byt 97), (byt 98)])] := hst
  refine s_cons0 (op_storeAll hst 0 rfl Try.sizeOf25 rfl rfl rfl rfl (oneL_all (l := [(.int .i64 1), (.int .i64 2), (.int .i64 0), (.int .i64 9), v1]) ⟨rfl, rfl, rfl, rfl, (sl_one (show Sl _ u8E v1 ([(byt 97), (byt 98)]) from (hst.slT 1 rfl))), trivial⟩) (fun w6 hst => ?_))
  replace hst : St w0 w6 [.blk g4 25 #[(.int .i64 1), (.int .i64 2), (.int .i64 0), (.int .i64 9), v1], txtT 5 u8E v1 ([(byt 97), (byt 98)])] := hst
  refine s_nil ?_
  refine then_n ?_
  refine cE_seq ?_
  refine cE_region rfl ?_
  refine s_cons (op_loadN (cs := [(.int .i64 1), (.int .i64 2), (.int .i64 0), (.int .i64 9), v1]) Try.isAgg25 Try.sizeOf25 rfl (Pt.of (hst.cell 0 rfl) rfl) rfl ?_)
  refine s_cons (op_call Try.call8 (evs_cons (v := (.agg #[(.int .i64 1), (.int .i64 2), (.int .i64 0), (.int .i64 9), v1])) rfl evs_nil) (c_fPut (w0 := w6) (f := (⟨1, 2, 0, 9, [(byt 97), (byt 98)]⟩ : Frame)) (v_f_Body := v1) (h_f_Body := (hst.slT 1 rfl)) (hf := (by decide +kernel))) ?_)
  rintro _ w8 ⟨r7, rfl, hcall⟩
  refine ⟨_, rfl, ?_⟩
  have hst : St w0 w8 [rowT 5 u8E r7 ((encF (⟨1, 2, 0, 9, [(byt 97), (byt 98)]⟩ : Frame)).1), .blk g4 25 #[(.int .i64 1), (.int .i64 2), (.int .i64 0), (.int .i64 9), v1], txtT 5 u8E v1 ([(byt 97), (byt 98)])] := hst.call hcall
  refine s_cons (op_move (.tuple #[r7, (.int .i64 ((encF (⟨1, 2, 0, 9, [(byt 97), (byt 98)]⟩ : Frame)).2))]) rfl ?_)
  refine s_cons (op_extract r7 rfl rfl ?_)
  refine s_cons (op_extract (.int .i64 ((encF (⟨1, 2, 0, 9, [(byt 97), (byt 98)]⟩ : Frame)).2)) rfl rfl ?_)
  refine s_cons (op_assign r7 rfl ?_)
  refine s_cons (op_assign (.int .i64 ((encF (⟨1, 2, 0, 9, [(byt 97), (byt 98)]⟩ : Frame)).2)) rfl ?_)
  refine s_nil ?_
  refine then_n ?_
  refine cE_seq ?_
  refine cE_region rfl ?_
  refine s_cons (op_move r7 rfl ?_)
  refine s_cons (op_call Try.call10 (evs_cons (v := r7) rfl evs_nil) (c_fGet (w0 := w8) (v_b := r7) (b := (encF (⟨1, 2, 0, 9, [(byt 97), (byt 98)]⟩ : Frame)).1) (h_b := (hst.sl 0 rfl)) (hl := (by decide +kernel))) ?_)
  rintro _ w10 ⟨r9, rfl, hcall⟩
  refine ⟨_, rfl, ?_⟩
  have hst : St w0 w10 [rowT 5 u8E r9 ((decF ((encF (⟨1, 2, 0, 9, [(byt 97), (byt 98)]⟩ : Frame)).1)).1.Body), rowT 5 u8E r7 ((encF (⟨1, 2, 0, 9, [(byt 97), (byt 98)]⟩ : Frame)).1), .blk g4 25 #[(.int .i64 1), (.int .i64 2), (.int .i64 0), (.int .i64 9), v1], txtT 5 u8E v1 ([(byt 97), (byt 98)])] := hst.call hcall
  refine s_cons (op_move (.tuple #[(.agg #[(.int .i64 (((decF ((encF (⟨1, 2, 0, 9, [(byt 97), (byt 98)]⟩ : Frame)).1)).1).Kind)), (.int .i64 (((decF ((encF (⟨1, 2, 0, 9, [(byt 97), (byt 98)]⟩ : Frame)).1)).1).View)), (.int .i64 (((decF ((encF (⟨1, 2, 0, 9, [(byt 97), (byt 98)]⟩ : Frame)).1)).1).Site)), (.int .i64 (((decF ((encF (⟨1, 2, 0, 9, [(byt 97), (byt 98)]⟩ : Frame)).1)).1).Seq)), r9]), (.int .i64 ((decF ((encF (⟨1, 2, 0, 9, [(byt 97), (byt 98)]⟩ : Frame)).1)).2))]) rfl ?_)
  refine s_cons (op_extract (.agg #[(.int .i64 (((decF ((encF (⟨1, 2, 0, 9, [(byt 97), (byt 98)]⟩ : Frame)).1)).1).Kind)), (.int .i64 (((decF ((encF (⟨1, 2, 0, 9, [(byt 97), (byt 98)]⟩ : Frame)).1)).1).View)), (.int .i64 (((decF ((encF (⟨1, 2, 0, 9, [(byt 97), (byt 98)]⟩ : Frame)).1)).1).Site)), (.int .i64 (((decF ((encF (⟨1, 2, 0, 9, [(byt 97), (byt 98)]⟩ : Frame)).1)).1).Seq)), r9]) rfl rfl ?_)
  refine s_cons (op_extract (.int .i64 ((decF ((encF (⟨1, 2, 0, 9, [(byt 97), (byt 98)]⟩ : Frame)).1)).2)) rfl rfl ?_)
  refine s_cons (op_alloc (cs := #[(.int .i64 0), (.int .i64 0), (.int .i64 0), (.int .i64 0), (.slice none 0 0)]) hst Try.zeroValue25 rfl (fun g11 w12 hst _ => ?_))
  replace hst : St w0 w12 [.blk g11 25 #[(.int .i64 0), (.int .i64 0), (.int .i64 0), (.int .i64 0), (.slice none 0 0)], rowT 5 u8E r9 ((decF ((encF (⟨1, 2, 0, 9, [(byt 97), (byt 98)]⟩ : Frame)).1)).1.Body), rowT 5 u8E r7 ((encF (⟨1, 2, 0, 9, [(byt 97), (byt 98)]⟩ : Frame)).1), .blk g4 25 #[(.int .i64 1), (.int .i64 2), (.int .i64 0), (.int .i64 9), v1], txtT 5 u8E v1 ([(byt 97), (byt 98)])] := hst
  refine s_cons0 (op_storeAll hst 0 rfl Try.sizeOf25 rfl rfl rfl rfl (oneL_all (l := [(.int .i64 (((decF ((encF (⟨1, 2, 0, 9, [(byt 97), (byt 98)]⟩ : Frame)).1)).1).Kind)), (.int .i64 (((decF ((encF (⟨1, 2, 0, 9, [(byt 97), (byt 98)]⟩ : Frame)).1)).1).View)), (.int .i64 (((decF ((encF (⟨1, 2, 0, 9, [(byt 97), (byt 98)]⟩ : Frame)).1)).1).Site)), (.int .i64 (((decF ((encF (⟨1, 2, 0, 9, [(byt 97), (byt 98)]⟩ : Frame)).1)).1).Seq)), r9]) ⟨rfl, rfl, rfl, rfl, (sl_one (show Sl _ u8E r9 (((decF ((encF (⟨1, 2, 0, 9, [(byt 97), (byt 98)]⟩ : Frame)).1)).1).Body) from (hst.sl 1 rfl))), trivial⟩) (fun w13 hst => ?_))
  replace hst : St w0 w13 [.blk g11 25 #[(.int .i64 (((decF ((encF (⟨1, 2, 0, 9, [(byt 97), (byt 98)]⟩ : Frame)).1)).1).Kind)), (.int .i64 (((decF ((encF (⟨1, 2, 0, 9, [(byt 97), (byt 98)]⟩ : Frame)).1)).1).View)), (.int .i64 (((decF ((encF (⟨1, 2, 0, 9, [(byt 97), (byt 98)]⟩ : Frame)).1)).1).Site)), (.int .i64 (((decF ((encF (⟨1, 2, 0, 9, [(byt 97), (byt 98)]⟩ : Frame)).1)).1).Seq)), r9], rowT 5 u8E r9 ((decF ((encF (⟨1, 2, 0, 9, [(byt 97), (byt 98)]⟩ : Frame)).1)).1.Body), rowT 5 u8E r7 ((encF (⟨1, 2, 0, 9, [(byt 97), (byt 98)]⟩ : Frame)).1), .blk g4 25 #[(.int .i64 1), (.int .i64 2), (.int .i64 0), (.int .i64 9), v1], txtT 5 u8E v1 ([(byt 97), (byt 98)])] := hst
  refine s_cons (op_assign (.int .i64 ((decF ((encF (⟨1, 2, 0, 9, [(byt 97), (byt 98)]⟩ : Frame)).1)).2)) rfl ?_)
  refine s_nil ?_
  refine then_n ?_
  refine cE_seq ?_
  refine cE_region rfl ?_
  refine s_cons (op_build (r := (.agg #[(.int .i64 2), (.int .i64 0), (.int .i64 0), (.int .i64 0), (.slice none 0 0)])) (evp_cons (v := (.int .i64 2)) rfl evp_nil) (by simp [Instr.build, Instr.fill, Value.cells, Try.runUnderlying25, Try.zeroValue25]) ?_)
  refine s_cons (op_call Try.call8 (evs_cons (v := (.agg #[(.int .i64 2), (.int .i64 0), (.int .i64 0), (.int .i64 0), (.slice none 0 0)])) rfl evs_nil) (c_fPut (w0 := w13) (f := (⟨2, 0, 0, 0, []⟩ : Frame)) (v_f_Body := (.slice none 0 0)) (h_f_Body := (Sl.nil u8E _)) (hf := (by decide +kernel))) ?_)
  rintro _ w15 ⟨r14, rfl, hcall⟩
  refine ⟨_, rfl, ?_⟩
  have hst : St w0 w15 [rowT 5 u8E r14 ((encF (⟨2, 0, 0, 0, []⟩ : Frame)).1), .blk g11 25 #[(.int .i64 (((decF ((encF (⟨1, 2, 0, 9, [(byt 97), (byt 98)]⟩ : Frame)).1)).1).Kind)), (.int .i64 (((decF ((encF (⟨1, 2, 0, 9, [(byt 97), (byt 98)]⟩ : Frame)).1)).1).View)), (.int .i64 (((decF ((encF (⟨1, 2, 0, 9, [(byt 97), (byt 98)]⟩ : Frame)).1)).1).Site)), (.int .i64 (((decF ((encF (⟨1, 2, 0, 9, [(byt 97), (byt 98)]⟩ : Frame)).1)).1).Seq)), r9], rowT 5 u8E r9 ((decF ((encF (⟨1, 2, 0, 9, [(byt 97), (byt 98)]⟩ : Frame)).1)).1.Body), rowT 5 u8E r7 ((encF (⟨1, 2, 0, 9, [(byt 97), (byt 98)]⟩ : Frame)).1), .blk g4 25 #[(.int .i64 1), (.int .i64 2), (.int .i64 0), (.int .i64 9), v1], txtT 5 u8E v1 ([(byt 97), (byt 98)])] := hst.call hcall
  refine s_cons (op_move (.tuple #[r14, (.int .i64 ((encF (⟨2, 0, 0, 0, []⟩ : Frame)).2))]) rfl ?_)
  refine s_cons (op_extract r14 rfl rfl ?_)
  refine s_cons (op_extract (.int .i64 ((encF (⟨2, 0, 0, 0, []⟩ : Frame)).2)) rfl rfl ?_)
  refine s_cons (op_assign r14 rfl ?_)
  refine s_cons (op_assign (.int .i64 ((encF (⟨2, 0, 0, 0, []⟩ : Frame)).2)) rfl ?_)
  refine s_nil ?_
  refine then_n ?_
  refine cE_seq ?_
  refine cE_region rfl ?_
  refine s_cons (op_call Try.call10 (evs_cons (v := (.slice none 0 0)) rfl evs_nil) (c_fGet (w0 := w15) (v_b := (.slice none 0 0)) (b := []) (h_b := (Sl.nil u8E _)) (hl := (by decide +kernel))) ?_)
  rintro _ w17 ⟨r16, rfl, hcall⟩
  refine ⟨_, rfl, ?_⟩
  have hst : St w0 w17 [rowT 5 u8E r16 ((decF ([])).1.Body), rowT 5 u8E r14 ((encF (⟨2, 0, 0, 0, []⟩ : Frame)).1), .blk g11 25 #[(.int .i64 (((decF ((encF (⟨1, 2, 0, 9, [(byt 97), (byt 98)]⟩ : Frame)).1)).1).Kind)), (.int .i64 (((decF ((encF (⟨1, 2, 0, 9, [(byt 97), (byt 98)]⟩ : Frame)).1)).1).View)), (.int .i64 (((decF ((encF (⟨1, 2, 0, 9, [(byt 97), (byt 98)]⟩ : Frame)).1)).1).Site)), (.int .i64 (((decF ((encF (⟨1, 2, 0, 9, [(byt 97), (byt 98)]⟩ : Frame)).1)).1).Seq)), r9], rowT 5 u8E r9 ((decF ((encF (⟨1, 2, 0, 9, [(byt 97), (byt 98)]⟩ : Frame)).1)).1.Body), rowT 5 u8E r7 ((encF (⟨1, 2, 0, 9, [(byt 97), (byt 98)]⟩ : Frame)).1), .blk g4 25 #[(.int .i64 1), (.int .i64 2), (.int .i64 0), (.int .i64 9), v1], txtT 5 u8E v1 ([(byt 97), (byt 98)])] := hst.call hcall
  refine s_cons (op_move (.tuple #[(.agg #[(.int .i64 (((decF ([])).1).Kind)), (.int .i64 (((decF ([])).1).View)), (.int .i64 (((decF ([])).1).Site)), (.int .i64 (((decF ([])).1).Seq)), r16]), (.int .i64 ((decF ([])).2))]) rfl ?_)
  refine s_cons (op_extract (.agg #[(.int .i64 (((decF ([])).1).Kind)), (.int .i64 (((decF ([])).1).View)), (.int .i64 (((decF ([])).1).Site)), (.int .i64 (((decF ([])).1).Seq)), r16]) rfl rfl ?_)
  refine s_cons (op_extract (.int .i64 ((decF ([])).2)) rfl rfl ?_)
  refine s_cons (op_alloc (cs := #[(.int .i64 0), (.int .i64 0), (.int .i64 0), (.int .i64 0), (.slice none 0 0)]) hst Try.zeroValue25 rfl (fun g18 w19 hst _ => ?_))
  replace hst : St w0 w19 [.blk g18 25 #[(.int .i64 0), (.int .i64 0), (.int .i64 0), (.int .i64 0), (.slice none 0 0)], rowT 5 u8E r16 ((decF ([])).1.Body), rowT 5 u8E r14 ((encF (⟨2, 0, 0, 0, []⟩ : Frame)).1), .blk g11 25 #[(.int .i64 (((decF ((encF (⟨1, 2, 0, 9, [(byt 97), (byt 98)]⟩ : Frame)).1)).1).Kind)), (.int .i64 (((decF ((encF (⟨1, 2, 0, 9, [(byt 97), (byt 98)]⟩ : Frame)).1)).1).View)), (.int .i64 (((decF ((encF (⟨1, 2, 0, 9, [(byt 97), (byt 98)]⟩ : Frame)).1)).1).Site)), (.int .i64 (((decF ((encF (⟨1, 2, 0, 9, [(byt 97), (byt 98)]⟩ : Frame)).1)).1).Seq)), r9], rowT 5 u8E r9 ((decF ((encF (⟨1, 2, 0, 9, [(byt 97), (byt 98)]⟩ : Frame)).1)).1.Body), rowT 5 u8E r7 ((encF (⟨1, 2, 0, 9, [(byt 97), (byt 98)]⟩ : Frame)).1), .blk g4 25 #[(.int .i64 1), (.int .i64 2), (.int .i64 0), (.int .i64 9), v1], txtT 5 u8E v1 ([(byt 97), (byt 98)])] := hst
  refine s_cons0 (op_storeAll hst 0 rfl Try.sizeOf25 rfl rfl rfl rfl (oneL_all (l := [(.int .i64 (((decF ([])).1).Kind)), (.int .i64 (((decF ([])).1).View)), (.int .i64 (((decF ([])).1).Site)), (.int .i64 (((decF ([])).1).Seq)), r16]) ⟨rfl, rfl, rfl, rfl, (sl_one (show Sl _ u8E r16 (((decF ([])).1).Body) from (hst.sl 1 rfl))), trivial⟩) (fun w20 hst => ?_))
  replace hst : St w0 w20 [.blk g18 25 #[(.int .i64 (((decF ([])).1).Kind)), (.int .i64 (((decF ([])).1).View)), (.int .i64 (((decF ([])).1).Site)), (.int .i64 (((decF ([])).1).Seq)), r16], rowT 5 u8E r16 ((decF ([])).1.Body), rowT 5 u8E r14 ((encF (⟨2, 0, 0, 0, []⟩ : Frame)).1), .blk g11 25 #[(.int .i64 (((decF ((encF (⟨1, 2, 0, 9, [(byt 97), (byt 98)]⟩ : Frame)).1)).1).Kind)), (.int .i64 (((decF ((encF (⟨1, 2, 0, 9, [(byt 97), (byt 98)]⟩ : Frame)).1)).1).View)), (.int .i64 (((decF ((encF (⟨1, 2, 0, 9, [(byt 97), (byt 98)]⟩ : Frame)).1)).1).Site)), (.int .i64 (((decF ((encF (⟨1, 2, 0, 9, [(byt 97), (byt 98)]⟩ : Frame)).1)).1).Seq)), r9], rowT 5 u8E r9 ((decF ((encF (⟨1, 2, 0, 9, [(byt 97), (byt 98)]⟩ : Frame)).1)).1.Body), rowT 5 u8E r7 ((encF (⟨1, 2, 0, 9, [(byt 97), (byt 98)]⟩ : Frame)).1), .blk g4 25 #[(.int .i64 1), (.int .i64 2), (.int .i64 0), (.int .i64 9), v1], txtT 5 u8E v1 ([(byt 97), (byt 98)])] := hst
  refine s_cons (op_assign (.int .i64 ((decF ([])).2)) rfl ?_)
  refine s_nil ?_
  refine then_n ?_
  refine cE_seq ?_
  refine cE_region rfl ?_
  refine s_cons (op_move (.int .i64 ((encF (⟨1, 2, 0, 9, [(byt 97), (byt 98)]⟩ : Frame)).2)) rfl ?_)
  refine s_cons (op_eql (k := .i64) (a := (encF (⟨1, 2, 0, 9, [(byt 97), (byt 98)]⟩ : Frame)).2) (b := 0) rfl rfl ?_)
  refine s_cons (op_move (.bool (decide (((encF (⟨1, 2, 0, 9, [(byt 97), (byt 98)]⟩ : Frame)).2) = 0))) rfl ?_)
  refine s_yes 34 rfl (congrArg Value.bool (show (decide (((encF (⟨1, 2, 0, 9, [(byt 97), (byt 98)]⟩ : Frame)).2) = 0)) = true from (by decide +kernel))) (op_move r7 rfl ?_)
  refine s_yes 34 rfl (congrArg Value.bool (show (decide (((encF (⟨1, 2, 0, 9, [(byt 97), (byt 98)]⟩ : Frame)).2) = 0)) = true from (by decide +kernel))) (op_len (E := u8E) (xs := (encF (⟨1, 2, 0, 9, [(byt 97), (byt 98)]⟩ : Frame)).1) Try.underlying23 rfl (hst.sl 5 rfl) ?_)
  refine s_yes 34 rfl (congrArg Value.bool (show (decide (((encF (⟨1, 2, 0, 9, [(byt 97), (byt 98)]⟩ : Frame)).2) = 0)) = true from (by decide +kernel))) (op_eql (k := .i64) (a := (((encF (⟨1, 2, 0, 9, [(byt 97), (byt 98)]⟩ : Frame)).1).length : Int)) (b := 10) rfl rfl ?_)
  refine s_cons (op_pick_t (.bool (decide ((((encF (⟨1, 2, 0, 9, [(byt 97), (byt 98)]⟩ : Frame)).1).length : Int) = 10))) (congrArg Value.bool (show (decide (((encF (⟨1, 2, 0, 9, [(byt 97), (byt 98)]⟩ : Frame)).2) = 0)) = true from (by decide +kernel))) rfl ?_)
  refine s_cons (op_move (.bool (decide ((((encF (⟨1, 2, 0, 9, [(byt 97), (byt 98)]⟩ : Frame)).1).length : Int) = 10))) rfl ?_)
  refine s_yes 39 rfl (congrArg Value.bool (show (decide ((((encF (⟨1, 2, 0, 9, [(byt 97), (byt 98)]⟩ : Frame)).1).length : Int) = 10)) = true from (by decide +kernel))) (op_move (.int .i64 ((decF ((encF (⟨1, 2, 0, 9, [(byt 97), (byt 98)]⟩ : Frame)).1)).2)) rfl ?_)
  refine s_yes 39 rfl (congrArg Value.bool (show (decide ((((encF (⟨1, 2, 0, 9, [(byt 97), (byt 98)]⟩ : Frame)).1).length : Int) = 10)) = true from (by decide +kernel))) (op_eql (k := .i64) (a := (decF ((encF (⟨1, 2, 0, 9, [(byt 97), (byt 98)]⟩ : Frame)).1)).2) (b := 0) rfl rfl ?_)
  refine s_cons (op_pick_t (.bool (decide (((decF ((encF (⟨1, 2, 0, 9, [(byt 97), (byt 98)]⟩ : Frame)).1)).2) = 0))) (congrArg Value.bool (show (decide ((((encF (⟨1, 2, 0, 9, [(byt 97), (byt 98)]⟩ : Frame)).1).length : Int) = 10)) = true from (by decide +kernel))) rfl ?_)
  refine s_cons (op_move (.bool (decide (((decF ((encF (⟨1, 2, 0, 9, [(byt 97), (byt 98)]⟩ : Frame)).1)).2) = 0))) rfl ?_)
  refine s_yes 43 rfl (congrArg Value.bool (show (decide (((decF ((encF (⟨1, 2, 0, 9, [(byt 97), (byt 98)]⟩ : Frame)).1)).2) = 0)) = true from (by decide +kernel))) (op_loadN (cs := [(.int .i64 (((decF ((encF (⟨1, 2, 0, 9, [(byt 97), (byt 98)]⟩ : Frame)).1)).1).Kind)), (.int .i64 (((decF ((encF (⟨1, 2, 0, 9, [(byt 97), (byt 98)]⟩ : Frame)).1)).1).View)), (.int .i64 (((decF ((encF (⟨1, 2, 0, 9, [(byt 97), (byt 98)]⟩ : Frame)).1)).1).Site)), (.int .i64 (((decF ((encF (⟨1, 2, 0, 9, [(byt 97), (byt 98)]⟩ : Frame)).1)).1).Seq)), r9]) Try.isAgg25 Try.sizeOf25 rfl (Pt.of (hst.cell 3 rfl) rfl) rfl ?_)
  refine s_yes 43 rfl (congrArg Value.bool (show (decide (((decF ((encF (⟨1, 2, 0, 9, [(byt 97), (byt 98)]⟩ : Frame)).1)).2) = 0)) = true from (by decide +kernel))) (op_loadN (cs := [(.int .i64 1), (.int .i64 2), (.int .i64 0), (.int .i64 9), v1]) Try.isAgg25 Try.sizeOf25 rfl (Pt.of (hst.cell 6 rfl) rfl) rfl ?_)
  refine s_yes 43 rfl (congrArg Value.bool (show (decide (((decF ((encF (⟨1, 2, 0, 9, [(byt 97), (byt 98)]⟩ : Frame)).1)).2) = 0)) = true from (by decide +kernel))) (op_call Try.call11 (evs_cons (v := (.agg #[(.int .i64 (((decF ((encF (⟨1, 2, 0, 9, [(byt 97), (byt 98)]⟩ : Frame)).1)).1).Kind)), (.int .i64 (((decF ((encF (⟨1, 2, 0, 9, [(byt 97), (byt 98)]⟩ : Frame)).1)).1).View)), (.int .i64 (((decF ((encF (⟨1, 2, 0, 9, [(byt 97), (byt 98)]⟩ : Frame)).1)).1).Site)), (.int .i64 (((decF ((encF (⟨1, 2, 0, 9, [(byt 97), (byt 98)]⟩ : Frame)).1)).1).Seq)), r9])) rfl (evs_cons (v := (.agg #[(.int .i64 1), (.int .i64 2), (.int .i64 0), (.int .i64 9), v1])) rfl evs_nil)) (c_fSame (w0 := w20) (f := ((decF ((encF (⟨1, 2, 0, 9, [(byt 97), (byt 98)]⟩ : Frame)).1)).1)) (v_f_Body := r9) (h_f_Body := (hst.sl 4 rfl)) (g := (⟨1, 2, 0, 9, [(byt 97), (byt 98)]⟩ : Frame)) (v_g_Body := v1) (h_g_Body := (hst.slT 7 rfl))) ?_)
  rintro _ w21 ⟨rfl, hcall⟩
  refine ⟨_, rfl, ?_⟩
  have hst : St w0 w21 [.blk g18 25 #[(.int .i64 (((decF ([])).1).Kind)), (.int .i64 (((decF ([])).1).View)), (.int .i64 (((decF ([])).1).Site)), (.int .i64 (((decF ([])).1).Seq)), r16], rowT 5 u8E r16 ((decF ([])).1.Body), rowT 5 u8E r14 ((encF (⟨2, 0, 0, 0, []⟩ : Frame)).1), .blk g11 25 #[(.int .i64 (((decF ((encF (⟨1, 2, 0, 9, [(byt 97), (byt 98)]⟩ : Frame)).1)).1).Kind)), (.int .i64 (((decF ((encF (⟨1, 2, 0, 9, [(byt 97), (byt 98)]⟩ : Frame)).1)).1).View)), (.int .i64 (((decF ((encF (⟨1, 2, 0, 9, [(byt 97), (byt 98)]⟩ : Frame)).1)).1).Site)), (.int .i64 (((decF ((encF (⟨1, 2, 0, 9, [(byt 97), (byt 98)]⟩ : Frame)).1)).1).Seq)), r9], rowT 5 u8E r9 ((decF ((encF (⟨1, 2, 0, 9, [(byt 97), (byt 98)]⟩ : Frame)).1)).1.Body), rowT 5 u8E r7 ((encF (⟨1, 2, 0, 9, [(byt 97), (byt 98)]⟩ : Frame)).1), .blk g4 25 #[(.int .i64 1), (.int .i64 2), (.int .i64 0), (.int .i64 9), v1], txtT 5 u8E v1 ([(byt 97), (byt 98)])] := hst.call hcall
  refine s_cons (op_pick_t (.bool (decide (((decF ((encF (⟨1, 2, 0, 9, [(byt 97), (byt 98)]⟩ : Frame)).1)).1) = (⟨1, 2, 0, 9, [(byt 97), (byt 98)]⟩ : Frame)))) (congrArg Value.bool (show (decide (((decF ((encF (⟨1, 2, 0, 9, [(byt 97), (byt 98)]⟩ : Frame)).1)).2) = 0)) = true from (by decide +kernel))) rfl ?_)
  refine s_cons (op_move (.bool (decide (((decF ((encF (⟨1, 2, 0, 9, [(byt 97), (byt 98)]⟩ : Frame)).1)).1) = (⟨1, 2, 0, 9, [(byt 97), (byt 98)]⟩ : Frame)))) rfl ?_)
  refine s_yes 48 rfl (congrArg Value.bool (show (decide (((decF ((encF (⟨1, 2, 0, 9, [(byt 97), (byt 98)]⟩ : Frame)).1)).1) = (⟨1, 2, 0, 9, [(byt 97), (byt 98)]⟩ : Frame))) = true from (by decide +kernel))) (op_move (.int .i64 ((encF (⟨2, 0, 0, 0, []⟩ : Frame)).2)) rfl ?_)
  refine s_yes 48 rfl (congrArg Value.bool (show (decide (((decF ((encF (⟨1, 2, 0, 9, [(byt 97), (byt 98)]⟩ : Frame)).1)).1) = (⟨1, 2, 0, 9, [(byt 97), (byt 98)]⟩ : Frame))) = true from (by decide +kernel))) (op_eql (k := .i64) (a := (encF (⟨2, 0, 0, 0, []⟩ : Frame)).2) (b := 0) rfl rfl ?_)
  refine s_cons (op_pick_t (.bool (decide (((encF (⟨2, 0, 0, 0, []⟩ : Frame)).2) = 0))) (congrArg Value.bool (show (decide (((decF ((encF (⟨1, 2, 0, 9, [(byt 97), (byt 98)]⟩ : Frame)).1)).1) = (⟨1, 2, 0, 9, [(byt 97), (byt 98)]⟩ : Frame))) = true from (by decide +kernel))) rfl ?_)
  refine s_cons (op_move (.bool (decide (((encF (⟨2, 0, 0, 0, []⟩ : Frame)).2) = 0))) rfl ?_)
  refine s_yes 52 rfl (congrArg Value.bool (show (decide (((encF (⟨2, 0, 0, 0, []⟩ : Frame)).2) = 0)) = true from (by decide +kernel))) (op_move r14 rfl ?_)
  refine s_yes 52 rfl (congrArg Value.bool (show (decide (((encF (⟨2, 0, 0, 0, []⟩ : Frame)).2) = 0)) = true from (by decide +kernel))) (op_len (E := u8E) (xs := (encF (⟨2, 0, 0, 0, []⟩ : Frame)).1) Try.underlying23 rfl (hst.sl 2 rfl) ?_)
  refine s_yes 52 rfl (congrArg Value.bool (show (decide (((encF (⟨2, 0, 0, 0, []⟩ : Frame)).2) = 0)) = true from (by decide +kernel))) (op_eql (k := .i64) (a := (((encF (⟨2, 0, 0, 0, []⟩ : Frame)).1).length : Int)) (b := 7) rfl rfl ?_)
  refine s_cons (op_pick_t (.bool (decide ((((encF (⟨2, 0, 0, 0, []⟩ : Frame)).1).length : Int) = 7))) (congrArg Value.bool (show (decide (((encF (⟨2, 0, 0, 0, []⟩ : Frame)).2) = 0)) = true from (by decide +kernel))) rfl ?_)
  refine s_cons (op_move (.bool (decide ((((encF (⟨2, 0, 0, 0, []⟩ : Frame)).1).length : Int) = 7))) rfl ?_)
  refine s_yes 57 rfl (congrArg Value.bool (show (decide ((((encF (⟨2, 0, 0, 0, []⟩ : Frame)).1).length : Int) = 7)) = true from (by decide +kernel))) (op_move (.int .i64 ((decF ([])).2)) rfl ?_)
  refine s_yes 57 rfl (congrArg Value.bool (show (decide ((((encF (⟨2, 0, 0, 0, []⟩ : Frame)).1).length : Int) = 7)) = true from (by decide +kernel))) (op_eql (k := .i64) (a := (decF ([])).2) (b := 2) rfl rfl ?_)
  refine s_cons (op_pick_t (.bool (decide (((decF ([])).2) = 2))) (congrArg Value.bool (show (decide ((((encF (⟨2, 0, 0, 0, []⟩ : Frame)).1).length : Int) = 7)) = true from (by decide +kernel))) rfl ?_)
  refine s_cons (op_move (.bool (decide (((decF ([])).2) = 2))) rfl ?_)
  refine s_yes 61 rfl (congrArg Value.bool (show (decide (((decF ([])).2) = 2)) = true from (by decide +kernel))) (op_loadN (cs := [(.int .i64 1), (.int .i64 2), (.int .i64 0), (.int .i64 9), v1]) Try.isAgg25 Try.sizeOf25 rfl (Pt.of (hst.cell 6 rfl) rfl) rfl ?_)
  refine s_yes 61 rfl (congrArg Value.bool (show (decide (((decF ([])).2) = 2)) = true from (by decide +kernel))) (op_call Try.call15 (evs_cons (v := (.agg #[(.int .i64 1), (.int .i64 2), (.int .i64 0), (.int .i64 9), v1])) rfl evs_nil) (c_fMay (w0 := w21) (f := (⟨1, 2, 0, 9, [(byt 97), (byt 98)]⟩ : Frame)) (v_f_Body := v1) (h_f_Body := (hst.slT 7 rfl))) ?_)
  rintro _ w22 ⟨rfl, hcall⟩
  refine ⟨_, rfl, ?_⟩
  have hst : St w0 w22 [.blk g18 25 #[(.int .i64 (((decF ([])).1).Kind)), (.int .i64 (((decF ([])).1).View)), (.int .i64 (((decF ([])).1).Site)), (.int .i64 (((decF ([])).1).Seq)), r16], rowT 5 u8E r16 ((decF ([])).1.Body), rowT 5 u8E r14 ((encF (⟨2, 0, 0, 0, []⟩ : Frame)).1), .blk g11 25 #[(.int .i64 (((decF ((encF (⟨1, 2, 0, 9, [(byt 97), (byt 98)]⟩ : Frame)).1)).1).Kind)), (.int .i64 (((decF ((encF (⟨1, 2, 0, 9, [(byt 97), (byt 98)]⟩ : Frame)).1)).1).View)), (.int .i64 (((decF ((encF (⟨1, 2, 0, 9, [(byt 97), (byt 98)]⟩ : Frame)).1)).1).Site)), (.int .i64 (((decF ((encF (⟨1, 2, 0, 9, [(byt 97), (byt 98)]⟩ : Frame)).1)).1).Seq)), r9], rowT 5 u8E r9 ((decF ((encF (⟨1, 2, 0, 9, [(byt 97), (byt 98)]⟩ : Frame)).1)).1.Body), rowT 5 u8E r7 ((encF (⟨1, 2, 0, 9, [(byt 97), (byt 98)]⟩ : Frame)).1), .blk g4 25 #[(.int .i64 1), (.int .i64 2), (.int .i64 0), (.int .i64 9), v1], txtT 5 u8E v1 ([(byt 97), (byt 98)])] := hst.call hcall
  refine s_cons (op_pick_t (.bool (mayF (⟨1, 2, 0, 9, [(byt 97), (byt 98)]⟩ : Frame))) (congrArg Value.bool (show (decide (((decF ([])).2) = 2)) = true from (by decide +kernel))) rfl ?_)
  refine s_cons (op_move (.bool (mayF (⟨1, 2, 0, 9, [(byt 97), (byt 98)]⟩ : Frame))) rfl ?_)
  refine s_yes 65 rfl (congrArg Value.bool (show (mayF (⟨1, 2, 0, 9, [(byt 97), (byt 98)]⟩ : Frame)) = true from (by decide +kernel))) (op_build (r := (.agg #[(.int .i64 0), (.int .i64 0), (.int .i64 0), (.int .i64 0), (.slice none 0 0)])) evp_nil (by simp [Instr.build, Instr.fill, Value.cells, Try.runUnderlying25, Try.zeroValue25]) ?_)
  refine s_yes 65 rfl (congrArg Value.bool (show (mayF (⟨1, 2, 0, 9, [(byt 97), (byt 98)]⟩ : Frame)) = true from (by decide +kernel))) (op_call Try.call15 (evs_cons (v := (.agg #[(.int .i64 0), (.int .i64 0), (.int .i64 0), (.int .i64 0), (.slice none 0 0)])) rfl evs_nil) (c_fMay (w0 := w22) (f := (⟨0, 0, 0, 0, []⟩ : Frame)) (v_f_Body := (.slice none 0 0)) (h_f_Body := (Sl.nil u8E _))) ?_)
  rintro _ w23 ⟨rfl, hcall⟩
  refine ⟨_, rfl, ?_⟩
  have hst : St w0 w23 [.blk g18 25 #[(.int .i64 (((decF ([])).1).Kind)), (.int .i64 (((decF ([])).1).View)), (.int .i64 (((decF ([])).1).Site)), (.int .i64 (((decF ([])).1).Seq)), r16], rowT 5 u8E r16 ((decF ([])).1.Body), rowT 5 u8E r14 ((encF (⟨2, 0, 0, 0, []⟩ : Frame)).1), .blk g11 25 #[(.int .i64 (((decF ((encF (⟨1, 2, 0, 9, [(byt 97), (byt 98)]⟩ : Frame)).1)).1).Kind)), (.int .i64 (((decF ((encF (⟨1, 2, 0, 9, [(byt 97), (byt 98)]⟩ : Frame)).1)).1).View)), (.int .i64 (((decF ((encF (⟨1, 2, 0, 9, [(byt 97), (byt 98)]⟩ : Frame)).1)).1).Site)), (.int .i64 (((decF ((encF (⟨1, 2, 0, 9, [(byt 97), (byt 98)]⟩ : Frame)).1)).1).Seq)), r9], rowT 5 u8E r9 ((decF ((encF (⟨1, 2, 0, 9, [(byt 97), (byt 98)]⟩ : Frame)).1)).1.Body), rowT 5 u8E r7 ((encF (⟨1, 2, 0, 9, [(byt 97), (byt 98)]⟩ : Frame)).1), .blk g4 25 #[(.int .i64 1), (.int .i64 2), (.int .i64 0), (.int .i64 9), v1], txtT 5 u8E v1 ([(byt 97), (byt 98)])] := hst.call hcall
  refine s_yes 65 rfl (congrArg Value.bool (show (mayF (⟨1, 2, 0, 9, [(byt 97), (byt 98)]⟩ : Frame)) = true from (by decide +kernel))) (op_not (b := mayF (⟨0, 0, 0, 0, []⟩ : Frame)) rfl ?_)
  refine s_cons (op_pick_t (.bool (!(mayF (⟨0, 0, 0, 0, []⟩ : Frame)))) (congrArg Value.bool (show (mayF (⟨1, 2, 0, 9, [(byt 97), (byt 98)]⟩ : Frame)) = true from (by decide +kernel))) rfl ?_)
  refine s_cons (op_move (.bool (!(mayF (⟨0, 0, 0, 0, []⟩ : Frame)))) rfl ?_)
  refine s_yes 70 rfl (congrArg Value.bool (congrArg (! ·) (show (mayF (⟨0, 0, 0, 0, []⟩ : Frame)) = false from (by decide +kernel)))) (op_loadN (cs := [(.int .i64 1), (.int .i64 2), (.int .i64 0), (.int .i64 9), v1]) Try.isAgg25 Try.sizeOf25 rfl (Pt.of (hst.cell 6 rfl) rfl) rfl ?_)
  refine s_yes 70 rfl (congrArg Value.bool (congrArg (! ·) (show (mayF (⟨0, 0, 0, 0, []⟩ : Frame)) = false from (by decide +kernel)))) (op_build (r := (.agg #[(.int .i64 0), (.int .i64 0), (.int .i64 0), (.int .i64 0), (.slice none 0 0)])) evp_nil (by simp [Instr.build, Instr.fill, Value.cells, Try.runUnderlying25, Try.zeroValue25]) ?_)
  refine s_yes 70 rfl (congrArg Value.bool (congrArg (! ·) (show (mayF (⟨0, 0, 0, 0, []⟩ : Frame)) = false from (by decide +kernel)))) (op_call Try.call11 (evs_cons (v := (.agg #[(.int .i64 1), (.int .i64 2), (.int .i64 0), (.int .i64 9), v1])) rfl (evs_cons (v := (.agg #[(.int .i64 0), (.int .i64 0), (.int .i64 0), (.int .i64 0), (.slice none 0 0)])) rfl evs_nil)) (c_fSame (w0 := w23) (f := (⟨1, 2, 0, 9, [(byt 97), (byt 98)]⟩ : Frame)) (v_f_Body := v1) (h_f_Body := (hst.slT 7 rfl)) (g := (⟨0, 0, 0, 0, []⟩ : Frame)) (v_g_Body := (.slice none 0 0)) (h_g_Body := (Sl.nil u8E _))) ?_)
  rintro _ w24 ⟨rfl, hcall⟩
  refine ⟨_, rfl, ?_⟩
  have hst : St w0 w24 [.blk g18 25 #[(.int .i64 (((decF ([])).1).Kind)), (.int .i64 (((decF ([])).1).View)), (.int .i64 (((decF ([])).1).Site)), (.int .i64 (((decF ([])).1).Seq)), r16], rowT 5 u8E r16 ((decF ([])).1.Body), rowT 5 u8E r14 ((encF (⟨2, 0, 0, 0, []⟩ : Frame)).1), .blk g11 25 #[(.int .i64 (((decF ((encF (⟨1, 2, 0, 9, [(byt 97), (byt 98)]⟩ : Frame)).1)).1).Kind)), (.int .i64 (((decF ((encF (⟨1, 2, 0, 9, [(byt 97), (byt 98)]⟩ : Frame)).1)).1).View)), (.int .i64 (((decF ((encF (⟨1, 2, 0, 9, [(byt 97), (byt 98)]⟩ : Frame)).1)).1).Site)), (.int .i64 (((decF ((encF (⟨1, 2, 0, 9, [(byt 97), (byt 98)]⟩ : Frame)).1)).1).Seq)), r9], rowT 5 u8E r9 ((decF ((encF (⟨1, 2, 0, 9, [(byt 97), (byt 98)]⟩ : Frame)).1)).1.Body), rowT 5 u8E r7 ((encF (⟨1, 2, 0, 9, [(byt 97), (byt 98)]⟩ : Frame)).1), .blk g4 25 #[(.int .i64 1), (.int .i64 2), (.int .i64 0), (.int .i64 9), v1], txtT 5 u8E v1 ([(byt 97), (byt 98)])] := hst.call hcall
  refine s_yes 70 rfl (congrArg Value.bool (congrArg (! ·) (show (mayF (⟨0, 0, 0, 0, []⟩ : Frame)) = false from (by decide +kernel)))) (op_not (b := decide ((⟨1, 2, 0, 9, [(byt 97), (byt 98)]⟩ : Frame) = (⟨0, 0, 0, 0, []⟩ : Frame))) rfl ?_)
  refine s_cons (op_pick_t (.bool (!(decide ((⟨1, 2, 0, 9, [(byt 97), (byt 98)]⟩ : Frame) = (⟨0, 0, 0, 0, []⟩ : Frame))))) (congrArg Value.bool (congrArg (! ·) (show (mayF (⟨0, 0, 0, 0, []⟩ : Frame)) = false from (by decide +kernel)))) rfl ?_)
  refine s_cons (op_assign (.bool (!(decide ((⟨1, 2, 0, 9, [(byt 97), (byt 98)]⟩ : Frame) = (⟨0, 0, 0, 0, []⟩ : Frame))))) rfl ?_)
  refine s_nil ?_
  refine then_n ?_
  refine cE_ret ?_
  refine post_r _ (res1 (v := (.bool true)) (congrArg Value.bool (congrArg (! ·) (show (decide ((⟨1, 2, 0, 9, [(byt 97), (byt 98)]⟩ : Frame) = (⟨0, 0, 0, 0, []⟩ : Frame))) = false from (by decide +kernel))))) ?_
  exact ⟨rfl, hst.bare⟩

end Go.Proofs.Ytfljkaigfmedeaa
