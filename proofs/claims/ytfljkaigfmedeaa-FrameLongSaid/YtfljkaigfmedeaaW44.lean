/- the law FrameLong -/
import Derived.Test.YtfljkaigfmedeaaW40
import Derived.Test.YtfljkaigfmedeaaW10
import Derived.Test.YtfljkaigfmedeaaW11
import Derived.Test.YtfljkaigfmedeaaW12
import Derived.Test.YtfljkaigfmedeaaW13
import Derived.Test.YtfljkaigfmedeaaW14
import Derived.Test.YtfljkaigfmedeaaW15
import Derived.Test.YtfljkaigfmedeaaW16
import Derived.Test.YtfljkaigfmedeaaW17
import Derived.Test.YtfljkaigfmedeaaW18
import Derived.Test.YtfljkaigfmedeaaW19
import Derived.Test.YtfljkaigfmedeaaW20
import Derived.Test.YtfljkaigfmedeaaW21
import Derived.Test.YtfljkaigfmedeaaW22
import Derived.Test.YtfljkaigfmedeaaW23
namespace Go.Proofs.Ytfljkaigfmedeaa
open Go.RowKit

set_option maxHeartbeats 4000000 in
theorem c_FrameLong (w0 : World) (n : Int) (few : Bool) (n0 : -9223372036854775808 ≤ n) (n1 : n ≤ 9223372036854775807) :
    Calls Try.prog 3 #[(.int .i64 n), (.bool few)] w0 fun e w' => e = .returned (.bool true) ∧ St w0 w' [] := by
  refine calls_E (n := 72) (ts := [4]) Try.func3 rfl rfl rfl (by simp) ?_
  have hst := St.start w0
  refine cE_seq ?_
  refine cE_region rfl ?_
  refine s_cons (op_assign (.bool false) rfl ?_)
  refine s_nil ?_
  refine then_n ?_
  refine cE_seq ?_
  refine cE_region rfl ?_
  refine s_cons (op_move (.int .i64 n) rfl ?_)
  refine s_cons (op_conv (k := .i64) (a := n) (n % 18446744073709551616) Try.underlying22 (by rw [Try.underlying3]; rfl) rfl (IntKind.wrap_u64 _) ?_)
  obtain ⟨r1, hr1, hr1l⟩ := rem_nat (a := (n % 18446744073709551616)) (b := 5) (by omega) (by omega)
  refine s_cons (op_rem (k := .u64) (a := (n % 18446744073709551616)) (b := 5) (r1 : Int) rfl rfl (by omega) hr1 ?_)
  refine s_cons (op_conv (k := .u64) (a := (r1 : Int)) (r1 : Int) Try.underlying3 (by rw [Try.underlying22]; rfl) rfl (xi64 (by omega) (by omega)) ?_)
  refine s_cons (op_add (k := .i64) (a := 4098) (b := (r1 : Int)) (4098 + (r1 : Int)) rfl rfl (xi64 (by omega) (by omega)) ?_)
  refine s_cons (op_assign (.int .i64 (4098 + (r1 : Int))) rfl ?_)
  refine s_nil ?_
  refine then_n ?_
  refine cE_seq ?_
  refine cE_seq ?_
  refine cE_region rfl ?_
  refine s_cons (op_move (.bool few) rfl ?_)
  refine s_nil ?_
  refine then_n ?_
  rcases Bool.eq_false_or_eq_true few with b1 | b1
  · refine cE_cond true (congrArg Value.bool b1) (fun _ => ?_) (fun h => by cases h)
    refine cE_region rfl ?_
    refine s_cons (op_move (.int .i64 n) rfl ?_)
    refine s_cons (op_conv (k := .i64) (a := n) (n % 18446744073709551616) Try.underlying22 (by rw [Try.underlying3]; rfl) rfl (IntKind.wrap_u64 _) ?_)
    obtain ⟨r2, hr2, hr2l⟩ := rem_nat (a := (n % 18446744073709551616)) (b := 200) (by omega) (by omega)
    refine s_cons (op_rem (k := .u64) (a := (n % 18446744073709551616)) (b := 200) (r2 : Int) rfl rfl (by omega) hr2 ?_)
    refine s_cons (op_conv (k := .u64) (a := (r2 : Int)) (r2 : Int) Try.underlying3 (by rw [Try.underlying22]; rfl) rfl (xi64 (by omega) (by omega)) ?_)
    refine s_cons (op_assign (.int .i64 (r2 : Int)) rfl ?_)
    refine s_nil ?_
    refine then_n ?_
    refine cE_seq ?_
    refine cE_region rfl ?_
    refine s_cons (op_move (.int .i64 (r2 : Int)) rfl ?_)
    refine s_cons (op_makeSl (E := u8E) (n := r2) (z := (byt 0)) (zv := (.int .u8 0)) (bytes := 1) hst Try.underlying23 (by kernel_rfl) rfl rfl rfl (by omega) (by omega) (by first | omega | (simp; omega)) (by first | omega | (simp; omega)) (fun v2 w3 hst => ?_))
    replace hst : St w0 w3 [rowT 5 u8E v2 (List.replicate r2 (byt 0))] := hst
    refine s_cons (op_build (r := (.agg #[(.int .i64 1), (.int .i64 0), (.int .i64 0), (.int .i64 1), v2])) (evp_cons (v := (.int .i64 1)) rfl (evp_cons (v := (.int .i64 1)) rfl (evp_cons (v := v2) rfl evp_nil))) (by simp [Instr.build, Instr.fill, cells_int, cells_bool, cells_str, cells_agg, cells_nil, sl_cells (show Sl _ u8E v2 (List.replicate r2 (byt 0)) from (hst.sl 0 rfl)), Try.runUnderlying25, Try.zeroValue25]) ?_)
    refine s_cons (op_alloc (cs := #[(.int .i64 0), (.int .i64 0), (.int .i64 0), (.int .i64 0), (.slice none 0 0)]) hst Try.zeroValue25 rfl (fun g4 w5 hst _ => ?_))
    replace hst : St w0 w5 [.blk g4 25 #[(.int .i64 0), (.int .i64 0), (.int .i64 0), (.int .i64 0), (.slice none 0 0)], rowT 5 u8E v2 (List.replicate r2 (byt 0))] := hst
    refine s_cons0 (op_storeAll hst 0 rfl Try.sizeOf25 rfl rfl rfl rfl (oneL_all (l := [(.int .i64 1), (.int .i64 0), (.int .i64 0), (.int .i64 1), v2]) ⟨rfl, rfl, rfl, rfl, (sl_one (show Sl _ u8E v2 (List.replicate r2 (byt 0)) from (hst.sl 1 rfl))), trivial⟩) (fun w6 hst => ?_))
    replace hst : St w0 w6 [.blk g4 25 #[(.int .i64 1), (.int .i64 0), (.int .i64 0), (.int .i64 1), v2], rowT 5 u8E v2 (List.replicate r2 (byt 0))] := hst
    refine s_nil ?_
    refine then_n ?_
    refine cE_seq ?_
    refine cE_region rfl ?_
    refine s_cons (op_loadN (cs := [(.int .i64 1), (.int .i64 0), (.int .i64 0), (.int .i64 1), v2]) Try.isAgg25 Try.sizeOf25 rfl (Pt.of (hst.cell 0 rfl) rfl) rfl ?_)
    refine s_cons (op_call Try.call8 (evs_cons (v := (.agg #[(.int .i64 1), (.int .i64 0), (.int .i64 0), (.int .i64 1), v2])) rfl evs_nil) (c_fPut (w0 := w6) (f := (⟨1, 0, 0, 1, (List.replicate r2 (byt 0))⟩ : Frame)) (v_f_Body := v2) (h_f_Body := (hst.sl 1 rfl)) (hf := ⟨⟨by first | (simp only []; omega) | simp only [], by first | (simp only []; omega) | simp only []⟩, ⟨by first | (simp only []; omega) | simp only [], by first | (simp only []; omega) | simp only []⟩, ⟨by first | (simp only []; omega) | simp only [], by first | (simp only []; omega) | simp only []⟩, ⟨by first | (simp only []; omega) | simp only [], by first | (simp only []; omega) | simp only []⟩⟩)) ?_)
    rintro _ w8 ⟨r7, rfl, hcall⟩
    refine ⟨_, rfl, ?_⟩
    have hst : St w0 w8 [rowT 5 u8E r7 ((encF (⟨1, 0, 0, 1, (List.replicate r2 (byt 0))⟩ : Frame)).1), .blk g4 25 #[(.int .i64 1), (.int .i64 0), (.int .i64 0), (.int .i64 1), v2], rowT 5 u8E v2 (List.replicate r2 (byt 0))] := hst.call hcall
    refine s_cons (op_move (.tuple #[r7, (.int .i64 ((encF (⟨1, 0, 0, 1, (List.replicate r2 (byt 0))⟩ : Frame)).2))]) rfl ?_)
    refine s_cons (op_extract r7 rfl rfl ?_)
    refine s_cons (op_extract (.int .i64 ((encF (⟨1, 0, 0, 1, (List.replicate r2 (byt 0))⟩ : Frame)).2)) rfl rfl ?_)
    refine s_cons (op_assign r7 rfl ?_)
    refine s_cons (op_assign (.int .i64 ((encF (⟨1, 0, 0, 1, (List.replicate r2 (byt 0))⟩ : Frame)).2)) rfl ?_)
    refine s_nil ?_
    refine then_n ?_
    refine cE_seq ?_
    refine cE_seq ?_
    refine cE_region rfl ?_
    refine s_cons (op_move (.int .i64 (r2 : Int)) rfl ?_)
    refine s_cons (op_gtr (k := .i64) (a := (r2 : Int)) (b := 4100) rfl rfl ?_)
    refine s_nil ?_
    refine then_n ?_
    rcases Bool.eq_false_or_eq_true (decide (4100 < (r2 : Int))) with b9 | b9
    · have c10 : 4100 < (r2 : Int) := of_decide_eq_true b9
      refine cE_cond true (congrArg Value.bool b9) (fun _ => ?_) (fun h => by cases h)
      refine cE_seq ?_
      refine cE_region rfl ?_
      refine s_cons (op_call Try.call9 evs_nil (c_told13 (w0 := w8)) ?_)
      rintro _ w11 ⟨rfl, hcall⟩
      refine ⟨_, rfl, ?_⟩
      have hst : St w0 w11 [rowT 5 u8E r7 ((encF (⟨1, 0, 0, 1, (List.replicate r2 (byt 0))⟩ : Frame)).1), .blk g4 25 #[(.int .i64 1), (.int .i64 0), (.int .i64 0), (.int .i64 1), v2], rowT 5 u8E v2 (List.replicate r2 (byt 0))] := hst.call hcall
      refine s_cons (op_move (.bool true) rfl ?_)
      refine s_yes 33 rfl rfl (op_move (.int .i64 ((encF (⟨1, 0, 0, 1, (List.replicate r2 (byt 0))⟩ : Frame)).2)) rfl ?_)
      refine s_yes 33 rfl rfl (op_eql (k := .i64) (a := (encF (⟨1, 0, 0, 1, (List.replicate r2 (byt 0))⟩ : Frame)).2) (b := 1) rfl rfl ?_)
      refine s_cons (op_pick_t (.bool (decide (((encF (⟨1, 0, 0, 1, (List.replicate r2 (byt 0))⟩ : Frame)).2) = 1))) rfl rfl ?_)
      refine s_cons (op_move (.bool (decide (((encF (⟨1, 0, 0, 1, (List.replicate r2 (byt 0))⟩ : Frame)).2) = 1))) rfl ?_)
      refine s_yes 37 rfl (congrArg Value.bool (show (decide (((encF (⟨1, 0, 0, 1, (List.replicate r2 (byt 0))⟩ : Frame)).2) = 1)) = true from (decide_eq_true (by rw [long_not (by omega)])))) (op_move r7 rfl ?_)
      refine s_yes 37 rfl (congrArg Value.bool (show (decide (((encF (⟨1, 0, 0, 1, (List.replicate r2 (byt 0))⟩ : Frame)).2) = 1)) = true from (decide_eq_true (by rw [long_not (by omega)])))) (op_len (E := u8E) (xs := (encF (⟨1, 0, 0, 1, (List.replicate r2 (byt 0))⟩ : Frame)).1) Try.underlying23 rfl (hst.sl 0 rfl) ?_)
      refine s_yes 37 rfl (congrArg Value.bool (show (decide (((encF (⟨1, 0, 0, 1, (List.replicate r2 (byt 0))⟩ : Frame)).2) = 1)) = true from (decide_eq_true (by rw [long_not (by omega)])))) (op_eql (k := .i64) (a := (((encF (⟨1, 0, 0, 1, (List.replicate r2 (byt 0))⟩ : Frame)).1).length : Int)) (b := 0) rfl rfl ?_)
      refine s_cons (op_pick_t (.bool (decide ((((encF (⟨1, 0, 0, 1, (List.replicate r2 (byt 0))⟩ : Frame)).1).length : Int) = 0))) (congrArg Value.bool (show (decide (((encF (⟨1, 0, 0, 1, (List.replicate r2 (byt 0))⟩ : Frame)).2) = 1)) = true from (decide_eq_true (by rw [long_not (by omega)])))) rfl ?_)
      refine s_cons (op_assign (.bool (decide ((((encF (⟨1, 0, 0, 1, (List.replicate r2 (byt 0))⟩ : Frame)).1).length : Int) = 0))) rfl ?_)
      refine s_nil ?_
      refine then_n ?_
      refine cE_ret ?_
      refine then_r ?_
      refine post_r _ (res1 (v := (.bool true)) (congrArg Value.bool (show (decide ((((encF (⟨1, 0, 0, 1, (List.replicate r2 (byt 0))⟩ : Frame)).1).length : Int) = 0)) = true from (decide_eq_true (by rw [long_not (by omega)]; rfl))))) ?_
      exact ⟨rfl, hst.bare⟩
    · have c12 : ¬ (4100 < (r2 : Int)) := of_decide_eq_false b9
      refine cE_cond false (congrArg Value.bool b9) (fun h => by cases h) (fun _ => ?_)
      refine cE_skip ?_
      refine then_n ?_
      refine cE_seq ?_
      refine cE_region rfl ?_
      refine s_cons (op_move r7 rfl ?_)
      refine s_cons (op_call Try.call10 (evs_cons (v := r7) rfl evs_nil) (c_fGet (w0 := w8) (v_b := r7) (b := (encF (⟨1, 0, 0, 1, (List.replicate r2 (byt 0))⟩ : Frame)).1) (h_b := (hst.sl 0 rfl)) (hl := (Nat.le_trans (enc_max (by simp; omega)) (by decide)))) ?_)
      rintro _ w14 ⟨r13, rfl, hcall⟩
      refine ⟨_, rfl, ?_⟩
      have hst : St w0 w14 [rowT 5 u8E r13 ((decF ((encF (⟨1, 0, 0, 1, (List.replicate r2 (byt 0))⟩ : Frame)).1)).1.Body), rowT 5 u8E r7 ((encF (⟨1, 0, 0, 1, (List.replicate r2 (byt 0))⟩ : Frame)).1), .blk g4 25 #[(.int .i64 1), (.int .i64 0), (.int .i64 0), (.int .i64 1), v2], rowT 5 u8E v2 (List.replicate r2 (byt 0))] := hst.call hcall
      refine s_cons (op_move (.tuple #[(.agg #[(.int .i64 (((decF ((encF (⟨1, 0, 0, 1, (List.replicate r2 (byt 0))⟩ : Frame)).1)).1).Kind)), (.int .i64 (((decF ((encF (⟨1, 0, 0, 1, (List.replicate r2 (byt 0))⟩ : Frame)).1)).1).View)), (.int .i64 (((decF ((encF (⟨1, 0, 0, 1, (List.replicate r2 (byt 0))⟩ : Frame)).1)).1).Site)), (.int .i64 (((decF ((encF (⟨1, 0, 0, 1, (List.replicate r2 (byt 0))⟩ : Frame)).1)).1).Seq)), r13]), (.int .i64 ((decF ((encF (⟨1, 0, 0, 1, (List.replicate r2 (byt 0))⟩ : Frame)).1)).2))]) rfl ?_)
      refine s_cons (op_extract (.agg #[(.int .i64 (((decF ((encF (⟨1, 0, 0, 1, (List.replicate r2 (byt 0))⟩ : Frame)).1)).1).Kind)), (.int .i64 (((decF ((encF (⟨1, 0, 0, 1, (List.replicate r2 (byt 0))⟩ : Frame)).1)).1).View)), (.int .i64 (((decF ((encF (⟨1, 0, 0, 1, (List.replicate r2 (byt 0))⟩ : Frame)).1)).1).Site)), (.int .i64 (((decF ((encF (⟨1, 0, 0, 1, (List.replicate r2 (byt 0))⟩ : Frame)).1)).1).Seq)), r13]) rfl rfl ?_)
      refine s_cons (op_extract (.int .i64 ((decF ((encF (⟨1, 0, 0, 1, (List.replicate r2 (byt 0))⟩ : Frame)).1)).2)) rfl rfl ?_)
      refine s_cons (op_alloc (cs := #[(.int .i64 0), (.int .i64 0), (.int .i64 0), (.int .i64 0), (.slice none 0 0)]) hst Try.zeroValue25 rfl (fun g15 w16 hst _ => ?_))
      replace hst : St w0 w16 [.blk g15 25 #[(.int .i64 0), (.int .i64 0), (.int .i64 0), (.int .i64 0), (.slice none 0 0)], rowT 5 u8E r13 ((decF ((encF (⟨1, 0, 0, 1, (List.replicate r2 (byt 0))⟩ : Frame)).1)).1.Body), rowT 5 u8E r7 ((encF (⟨1, 0, 0, 1, (List.replicate r2 (byt 0))⟩ : Frame)).1), .blk g4 25 #[(.int .i64 1), (.int .i64 0), (.int .i64 0), (.int .i64 1), v2], rowT 5 u8E v2 (List.replicate r2 (byt 0))] := hst
      refine s_cons0 (op_storeAll hst 0 rfl Try.sizeOf25 rfl rfl rfl rfl (oneL_all (l := [(.int .i64 (((decF ((encF (⟨1, 0, 0, 1, (List.replicate r2 (byt 0))⟩ : Frame)).1)).1).Kind)), (.int .i64 (((decF ((encF (⟨1, 0, 0, 1, (List.replicate r2 (byt 0))⟩ : Frame)).1)).1).View)), (.int .i64 (((decF ((encF (⟨1, 0, 0, 1, (List.replicate r2 (byt 0))⟩ : Frame)).1)).1).Site)), (.int .i64 (((decF ((encF (⟨1, 0, 0, 1, (List.replicate r2 (byt 0))⟩ : Frame)).1)).1).Seq)), r13]) ⟨rfl, rfl, rfl, rfl, (sl_one (show Sl _ u8E r13 (((decF ((encF (⟨1, 0, 0, 1, (List.replicate r2 (byt 0))⟩ : Frame)).1)).1).Body) from (hst.sl 1 rfl))), trivial⟩) (fun w17 hst => ?_))
      replace hst : St w0 w17 [.blk g15 25 #[(.int .i64 (((decF ((encF (⟨1, 0, 0, 1, (List.replicate r2 (byt 0))⟩ : Frame)).1)).1).Kind)), (.int .i64 (((decF ((encF (⟨1, 0, 0, 1, (List.replicate r2 (byt 0))⟩ : Frame)).1)).1).View)), (.int .i64 (((decF ((encF (⟨1, 0, 0, 1, (List.replicate r2 (byt 0))⟩ : Frame)).1)).1).Site)), (.int .i64 (((decF ((encF (⟨1, 0, 0, 1, (List.replicate r2 (byt 0))⟩ : Frame)).1)).1).Seq)), r13], rowT 5 u8E r13 ((decF ((encF (⟨1, 0, 0, 1, (List.replicate r2 (byt 0))⟩ : Frame)).1)).1.Body), rowT 5 u8E r7 ((encF (⟨1, 0, 0, 1, (List.replicate r2 (byt 0))⟩ : Frame)).1), .blk g4 25 #[(.int .i64 1), (.int .i64 0), (.int .i64 0), (.int .i64 1), v2], rowT 5 u8E v2 (List.replicate r2 (byt 0))] := hst
      refine s_cons (op_assign (.int .i64 ((decF ((encF (⟨1, 0, 0, 1, (List.replicate r2 (byt 0))⟩ : Frame)).1)).2)) rfl ?_)
      refine s_nil ?_
      refine then_n ?_
      refine cE_seq ?_
      refine cE_region rfl ?_
      refine s_cons (op_assign (.int .i64 1) rfl ?_)
      refine s_nil ?_
      refine then_n ?_
      refine cE_seq ?_
      refine cE_seq ?_
      refine cE_region rfl ?_
      refine s_cons (op_move (.int .i64 (r2 : Int)) rfl ?_)
      refine s_cons (op_gtr (k := .i64) (a := (r2 : Int)) (b := 127) rfl rfl ?_)
      refine s_nil ?_
      refine then_n ?_
      rcases Bool.eq_false_or_eq_true (decide (127 < (r2 : Int))) with b18 | b18
      · have c19 : 127 < (r2 : Int) := of_decide_eq_true b18
        refine cE_cond true (congrArg Value.bool b18) (fun _ => ?_) (fun h => by cases h)
        refine cE_region rfl ?_
        refine s_cons (op_assign (.int .i64 2) rfl ?_)
        refine s_nil ?_
        refine then_n ?_
        refine cE_seq ?_
        refine cE_region rfl ?_
        refine s_cons (op_call Try.call9 evs_nil (c_told13 (w0 := w17)) ?_)
        rintro _ w20 ⟨rfl, hcall⟩
        refine ⟨_, rfl, ?_⟩
        have hst : St w0 w20 [.blk g15 25 #[(.int .i64 (((decF ((encF (⟨1, 0, 0, 1, (List.replicate r2 (byt 0))⟩ : Frame)).1)).1).Kind)), (.int .i64 (((decF ((encF (⟨1, 0, 0, 1, (List.replicate r2 (byt 0))⟩ : Frame)).1)).1).View)), (.int .i64 (((decF ((encF (⟨1, 0, 0, 1, (List.replicate r2 (byt 0))⟩ : Frame)).1)).1).Site)), (.int .i64 (((decF ((encF (⟨1, 0, 0, 1, (List.replicate r2 (byt 0))⟩ : Frame)).1)).1).Seq)), r13], rowT 5 u8E r13 ((decF ((encF (⟨1, 0, 0, 1, (List.replicate r2 (byt 0))⟩ : Frame)).1)).1.Body), rowT 5 u8E r7 ((encF (⟨1, 0, 0, 1, (List.replicate r2 (byt 0))⟩ : Frame)).1), .blk g4 25 #[(.int .i64 1), (.int .i64 0), (.int .i64 0), (.int .i64 1), v2], rowT 5 u8E v2 (List.replicate r2 (byt 0))] := hst.call hcall
        refine s_cons (op_move (.bool true) rfl ?_)
        refine s_yes 50 rfl rfl (op_move (.int .i64 ((encF (⟨1, 0, 0, 1, (List.replicate r2 (byt 0))⟩ : Frame)).2)) rfl ?_)
        refine s_yes 50 rfl rfl (op_eql (k := .i64) (a := (encF (⟨1, 0, 0, 1, (List.replicate r2 (byt 0))⟩ : Frame)).2) (b := 0) rfl rfl ?_)
        refine s_cons (op_pick_t (.bool (decide (((encF (⟨1, 0, 0, 1, (List.replicate r2 (byt 0))⟩ : Frame)).2) = 0))) rfl rfl ?_)
        refine s_cons (op_move (.bool (decide (((encF (⟨1, 0, 0, 1, (List.replicate r2 (byt 0))⟩ : Frame)).2) = 0))) rfl ?_)
        refine s_yes 54 rfl (congrArg Value.bool (show (decide (((encF (⟨1, 0, 0, 1, (List.replicate r2 (byt 0))⟩ : Frame)).2) = 0)) = true from (decide_eq_true (enc_code (long_may (by omega)))))) (op_move (.int .i64 ((decF ((encF (⟨1, 0, 0, 1, (List.replicate r2 (byt 0))⟩ : Frame)).1)).2)) rfl ?_)
        refine s_yes 54 rfl (congrArg Value.bool (show (decide (((encF (⟨1, 0, 0, 1, (List.replicate r2 (byt 0))⟩ : Frame)).2) = 0)) = true from (decide_eq_true (enc_code (long_may (by omega)))))) (op_eql (k := .i64) (a := (decF ((encF (⟨1, 0, 0, 1, (List.replicate r2 (byt 0))⟩ : Frame)).1)).2) (b := 0) rfl rfl ?_)
        refine s_cons (op_pick_t (.bool (decide (((decF ((encF (⟨1, 0, 0, 1, (List.replicate r2 (byt 0))⟩ : Frame)).1)).2) = 0))) (congrArg Value.bool (show (decide (((encF (⟨1, 0, 0, 1, (List.replicate r2 (byt 0))⟩ : Frame)).2) = 0)) = true from (decide_eq_true (enc_code (long_may (by omega)))))) rfl ?_)
        refine s_cons (op_move (.bool (decide (((decF ((encF (⟨1, 0, 0, 1, (List.replicate r2 (byt 0))⟩ : Frame)).1)).2) = 0))) rfl ?_)
        refine s_yes 58 rfl (congrArg Value.bool (show (decide (((decF ((encF (⟨1, 0, 0, 1, (List.replicate r2 (byt 0))⟩ : Frame)).1)).2) = 0)) = true from (decide_eq_true (by rw [dec_enc (long_may (by omega))])))) (op_loadN (cs := [(.int .i64 (((decF ((encF (⟨1, 0, 0, 1, (List.replicate r2 (byt 0))⟩ : Frame)).1)).1).Kind)), (.int .i64 (((decF ((encF (⟨1, 0, 0, 1, (List.replicate r2 (byt 0))⟩ : Frame)).1)).1).View)), (.int .i64 (((decF ((encF (⟨1, 0, 0, 1, (List.replicate r2 (byt 0))⟩ : Frame)).1)).1).Site)), (.int .i64 (((decF ((encF (⟨1, 0, 0, 1, (List.replicate r2 (byt 0))⟩ : Frame)).1)).1).Seq)), r13]) Try.isAgg25 Try.sizeOf25 rfl (Pt.of (hst.cell 0 rfl) rfl) rfl ?_)
        refine s_yes 58 rfl (congrArg Value.bool (show (decide (((decF ((encF (⟨1, 0, 0, 1, (List.replicate r2 (byt 0))⟩ : Frame)).1)).2) = 0)) = true from (decide_eq_true (by rw [dec_enc (long_may (by omega))])))) (op_loadN (cs := [(.int .i64 1), (.int .i64 0), (.int .i64 0), (.int .i64 1), v2]) Try.isAgg25 Try.sizeOf25 rfl (Pt.of (hst.cell 3 rfl) rfl) rfl ?_)
        refine s_yes 58 rfl (congrArg Value.bool (show (decide (((decF ((encF (⟨1, 0, 0, 1, (List.replicate r2 (byt 0))⟩ : Frame)).1)).2) = 0)) = true from (decide_eq_true (by rw [dec_enc (long_may (by omega))])))) (op_call Try.call11 (evs_cons (v := (.agg #[(.int .i64 (((decF ((encF (⟨1, 0, 0, 1, (List.replicate r2 (byt 0))⟩ : Frame)).1)).1).Kind)), (.int .i64 (((decF ((encF (⟨1, 0, 0, 1, (List.replicate r2 (byt 0))⟩ : Frame)).1)).1).View)), (.int .i64 (((decF ((encF (⟨1, 0, 0, 1, (List.replicate r2 (byt 0))⟩ : Frame)).1)).1).Site)), (.int .i64 (((decF ((encF (⟨1, 0, 0, 1, (List.replicate r2 (byt 0))⟩ : Frame)).1)).1).Seq)), r13])) rfl (evs_cons (v := (.agg #[(.int .i64 1), (.int .i64 0), (.int .i64 0), (.int .i64 1), v2])) rfl evs_nil)) (c_fSame (w0 := w20) (f := ((decF ((encF (⟨1, 0, 0, 1, (List.replicate r2 (byt 0))⟩ : Frame)).1)).1)) (v_f_Body := r13) (h_f_Body := (hst.sl 1 rfl)) (g := (⟨1, 0, 0, 1, (List.replicate r2 (byt 0))⟩ : Frame)) (v_g_Body := v2) (h_g_Body := (hst.sl 4 rfl))) ?_)
        rintro _ w21 ⟨rfl, hcall⟩
        refine ⟨_, rfl, ?_⟩
        have hst : St w0 w21 [.blk g15 25 #[(.int .i64 (((decF ((encF (⟨1, 0, 0, 1, (List.replicate r2 (byt 0))⟩ : Frame)).1)).1).Kind)), (.int .i64 (((decF ((encF (⟨1, 0, 0, 1, (List.replicate r2 (byt 0))⟩ : Frame)).1)).1).View)), (.int .i64 (((decF ((encF (⟨1, 0, 0, 1, (List.replicate r2 (byt 0))⟩ : Frame)).1)).1).Site)), (.int .i64 (((decF ((encF (⟨1, 0, 0, 1, (List.replicate r2 (byt 0))⟩ : Frame)).1)).1).Seq)), r13], rowT 5 u8E r13 ((decF ((encF (⟨1, 0, 0, 1, (List.replicate r2 (byt 0))⟩ : Frame)).1)).1.Body), rowT 5 u8E r7 ((encF (⟨1, 0, 0, 1, (List.replicate r2 (byt 0))⟩ : Frame)).1), .blk g4 25 #[(.int .i64 1), (.int .i64 0), (.int .i64 0), (.int .i64 1), v2], rowT 5 u8E v2 (List.replicate r2 (byt 0))] := hst.call hcall
        refine s_cons (op_pick_t (.bool (decide (((decF ((encF (⟨1, 0, 0, 1, (List.replicate r2 (byt 0))⟩ : Frame)).1)).1) = (⟨1, 0, 0, 1, (List.replicate r2 (byt 0))⟩ : Frame)))) (congrArg Value.bool (show (decide (((decF ((encF (⟨1, 0, 0, 1, (List.replicate r2 (byt 0))⟩ : Frame)).1)).2) = 0)) = true from (decide_eq_true (by rw [dec_enc (long_may (by omega))])))) rfl ?_)
        refine s_cons (op_move (.bool (decide (((decF ((encF (⟨1, 0, 0, 1, (List.replicate r2 (byt 0))⟩ : Frame)).1)).1) = (⟨1, 0, 0, 1, (List.replicate r2 (byt 0))⟩ : Frame)))) rfl ?_)
        refine s_yes 63 rfl (congrArg Value.bool (show (decide (((decF ((encF (⟨1, 0, 0, 1, (List.replicate r2 (byt 0))⟩ : Frame)).1)).1) = (⟨1, 0, 0, 1, (List.replicate r2 (byt 0))⟩ : Frame))) = true from (decide_eq_true (by rw [dec_enc (long_may (by omega))])))) (op_move r7 rfl ?_)
        refine s_yes 63 rfl (congrArg Value.bool (show (decide (((decF ((encF (⟨1, 0, 0, 1, (List.replicate r2 (byt 0))⟩ : Frame)).1)).1) = (⟨1, 0, 0, 1, (List.replicate r2 (byt 0))⟩ : Frame))) = true from (decide_eq_true (by rw [dec_enc (long_may (by omega))])))) (op_len (E := u8E) (xs := (encF (⟨1, 0, 0, 1, (List.replicate r2 (byt 0))⟩ : Frame)).1) Try.underlying23 rfl (hst.sl 2 rfl) ?_)
        refine s_yes 63 rfl (congrArg Value.bool (show (decide (((decF ((encF (⟨1, 0, 0, 1, (List.replicate r2 (byt 0))⟩ : Frame)).1)).1) = (⟨1, 0, 0, 1, (List.replicate r2 (byt 0))⟩ : Frame))) = true from (decide_eq_true (by rw [dec_enc (long_may (by omega))])))) (op_move (.int .i64 2) rfl ?_)
        refine s_yes 63 rfl (congrArg Value.bool (show (decide (((decF ((encF (⟨1, 0, 0, 1, (List.replicate r2 (byt 0))⟩ : Frame)).1)).1) = (⟨1, 0, 0, 1, (List.replicate r2 (byt 0))⟩ : Frame))) = true from (decide_eq_true (by rw [dec_enc (long_may (by omega))])))) (op_add (k := .i64) (a := 7) (b := 2) (7 + 2) rfl rfl (xi64 (by omega) (by omega)) ?_)
        refine s_yes 63 rfl (congrArg Value.bool (show (decide (((decF ((encF (⟨1, 0, 0, 1, (List.replicate r2 (byt 0))⟩ : Frame)).1)).1) = (⟨1, 0, 0, 1, (List.replicate r2 (byt 0))⟩ : Frame))) = true from (decide_eq_true (by rw [dec_enc (long_may (by omega))])))) (op_move (.int .i64 (r2 : Int)) rfl ?_)
        refine s_yes 63 rfl (congrArg Value.bool (show (decide (((decF ((encF (⟨1, 0, 0, 1, (List.replicate r2 (byt 0))⟩ : Frame)).1)).1) = (⟨1, 0, 0, 1, (List.replicate r2 (byt 0))⟩ : Frame))) = true from (decide_eq_true (by rw [dec_enc (long_may (by omega))])))) (op_add (k := .i64) (a := (7 + 2)) (b := (r2 : Int)) ((7 + 2) + (r2 : Int)) rfl rfl (xi64 (by omega) (by omega)) ?_)
        refine s_yes 63 rfl (congrArg Value.bool (show (decide (((decF ((encF (⟨1, 0, 0, 1, (List.replicate r2 (byt 0))⟩ : Frame)).1)).1) = (⟨1, 0, 0, 1, (List.replicate r2 (byt 0))⟩ : Frame))) = true from (decide_eq_true (by rw [dec_enc (long_may (by omega))])))) (op_eql (k := .i64) (a := (((encF (⟨1, 0, 0, 1, (List.replicate r2 (byt 0))⟩ : Frame)).1).length : Int)) (b := ((7 + 2) + (r2 : Int))) rfl rfl ?_)
        refine s_cons (op_pick_t (.bool (decide ((((encF (⟨1, 0, 0, 1, (List.replicate r2 (byt 0))⟩ : Frame)).1).length : Int) = ((7 + 2) + (r2 : Int))))) (congrArg Value.bool (show (decide (((decF ((encF (⟨1, 0, 0, 1, (List.replicate r2 (byt 0))⟩ : Frame)).1)).1) = (⟨1, 0, 0, 1, (List.replicate r2 (byt 0))⟩ : Frame))) = true from (decide_eq_true (by rw [dec_enc (long_may (by omega))])))) rfl ?_)
        refine s_cons (op_assign (.bool (decide ((((encF (⟨1, 0, 0, 1, (List.replicate r2 (byt 0))⟩ : Frame)).1).length : Int) = ((7 + 2) + (r2 : Int))))) rfl ?_)
        refine s_nil ?_
        refine then_n ?_
        refine cE_ret ?_
        refine post_r _ (res1 (v := (.bool true)) (congrArg Value.bool (show (decide ((((encF (⟨1, 0, 0, 1, (List.replicate r2 (byt 0))⟩ : Frame)).1).length : Int) = ((7 + 2) + (r2 : Int)))) = true from (decide_eq_true (by rw [long_len (by omega), put_len_two (by omega) (by omega)]; omega))))) ?_
        exact ⟨rfl, hst.bare⟩
      · have c22 : ¬ (127 < (r2 : Int)) := of_decide_eq_false b18
        refine cE_cond false (congrArg Value.bool b18) (fun h => by cases h) (fun _ => ?_)
        refine cE_skip ?_
        refine then_n ?_
        refine cE_seq ?_
        refine cE_region rfl ?_
        refine s_cons (op_call Try.call9 evs_nil (c_told13 (w0 := w17)) ?_)
        rintro _ w23 ⟨rfl, hcall⟩
        refine ⟨_, rfl, ?_⟩
        have hst : St w0 w23 [.blk g15 25 #[(.int .i64 (((decF ((encF (⟨1, 0, 0, 1, (List.replicate r2 (byt 0))⟩ : Frame)).1)).1).Kind)), (.int .i64 (((decF ((encF (⟨1, 0, 0, 1, (List.replicate r2 (byt 0))⟩ : Frame)).1)).1).View)), (.int .i64 (((decF ((encF (⟨1, 0, 0, 1, (List.replicate r2 (byt 0))⟩ : Frame)).1)).1).Site)), (.int .i64 (((decF ((encF (⟨1, 0, 0, 1, (List.replicate r2 (byt 0))⟩ : Frame)).1)).1).Seq)), r13], rowT 5 u8E r13 ((decF ((encF (⟨1, 0, 0, 1, (List.replicate r2 (byt 0))⟩ : Frame)).1)).1.Body), rowT 5 u8E r7 ((encF (⟨1, 0, 0, 1, (List.replicate r2 (byt 0))⟩ : Frame)).1), .blk g4 25 #[(.int .i64 1), (.int .i64 0), (.int .i64 0), (.int .i64 1), v2], rowT 5 u8E v2 (List.replicate r2 (byt 0))] := hst.call hcall
        refine s_cons (op_move (.bool true) rfl ?_)
        refine s_yes 50 rfl rfl (op_move (.int .i64 ((encF (⟨1, 0, 0, 1, (List.replicate r2 (byt 0))⟩ : Frame)).2)) rfl ?_)
        refine s_yes 50 rfl rfl (op_eql (k := .i64) (a := (encF (⟨1, 0, 0, 1, (List.replicate r2 (byt 0))⟩ : Frame)).2) (b := 0) rfl rfl ?_)
        refine s_cons (op_pick_t (.bool (decide (((encF (⟨1, 0, 0, 1, (List.replicate r2 (byt 0))⟩ : Frame)).2) = 0))) rfl rfl ?_)
        refine s_cons (op_move (.bool (decide (((encF (⟨1, 0, 0, 1, (List.replicate r2 (byt 0))⟩ : Frame)).2) = 0))) rfl ?_)
        refine s_yes 54 rfl (congrArg Value.bool (show (decide (((encF (⟨1, 0, 0, 1, (List.replicate r2 (byt 0))⟩ : Frame)).2) = 0)) = true from (decide_eq_true (enc_code (long_may (by omega)))))) (op_move (.int .i64 ((decF ((encF (⟨1, 0, 0, 1, (List.replicate r2 (byt 0))⟩ : Frame)).1)).2)) rfl ?_)
        refine s_yes 54 rfl (congrArg Value.bool (show (decide (((encF (⟨1, 0, 0, 1, (List.replicate r2 (byt 0))⟩ : Frame)).2) = 0)) = true from (decide_eq_true (enc_code (long_may (by omega)))))) (op_eql (k := .i64) (a := (decF ((encF (⟨1, 0, 0, 1, (List.replicate r2 (byt 0))⟩ : Frame)).1)).2) (b := 0) rfl rfl ?_)
        refine s_cons (op_pick_t (.bool (decide (((decF ((encF (⟨1, 0, 0, 1, (List.replicate r2 (byt 0))⟩ : Frame)).1)).2) = 0))) (congrArg Value.bool (show (decide (((encF (⟨1, 0, 0, 1, (List.replicate r2 (byt 0))⟩ : Frame)).2) = 0)) = true from (decide_eq_true (enc_code (long_may (by omega)))))) rfl ?_)
        refine s_cons (op_move (.bool (decide (((decF ((encF (⟨1, 0, 0, 1, (List.replicate r2 (byt 0))⟩ : Frame)).1)).2) = 0))) rfl ?_)
        refine s_yes 58 rfl (congrArg Value.bool (show (decide (((decF ((encF (⟨1, 0, 0, 1, (List.replicate r2 (byt 0))⟩ : Frame)).1)).2) = 0)) = true from (decide_eq_true (by rw [dec_enc (long_may (by omega))])))) (op_loadN (cs := [(.int .i64 (((decF ((encF (⟨1, 0, 0, 1, (List.replicate r2 (byt 0))⟩ : Frame)).1)).1).Kind)), (.int .i64 (((decF ((encF (⟨1, 0, 0, 1, (List.replicate r2 (byt 0))⟩ : Frame)).1)).1).View)), (.int .i64 (((decF ((encF (⟨1, 0, 0, 1, (List.replicate r2 (byt 0))⟩ : Frame)).1)).1).Site)), (.int .i64 (((decF ((encF (⟨1, 0, 0, 1, (List.replicate r2 (byt 0))⟩ : Frame)).1)).1).Seq)), r13]) Try.isAgg25 Try.sizeOf25 rfl (Pt.of (hst.cell 0 rfl) rfl) rfl ?_)
        refine s_yes 58 rfl (congrArg Value.bool (show (decide (((decF ((encF (⟨1, 0, 0, 1, (List.replicate r2 (byt 0))⟩ : Frame)).1)).2) = 0)) = true from (decide_eq_true (by rw [dec_enc (long_may (by omega))])))) (op_loadN (cs := [(.int .i64 1), (.int .i64 0), (.int .i64 0), (.int .i64 1), v2]) Try.isAgg25 Try.sizeOf25 rfl (Pt.of (hst.cell 3 rfl) rfl) rfl ?_)
        refine s_yes 58 rfl (congrArg Value.bool (show (decide (((decF ((encF (⟨1, 0, 0, 1, (List.replicate r2 (byt 0))⟩ : Frame)).1)).2) = 0)) = true from (decide_eq_true (by rw [dec_enc (long_may (by omega))])))) (op_call Try.call11 (evs_cons (v := (.agg #[(.int .i64 (((decF ((encF (⟨1, 0, 0, 1, (List.replicate r2 (byt 0))⟩ : Frame)).1)).1).Kind)), (.int .i64 (((decF ((encF (⟨1, 0, 0, 1, (List.replicate r2 (byt 0))⟩ : Frame)).1)).1).View)), (.int .i64 (((decF ((encF (⟨1, 0, 0, 1, (List.replicate r2 (byt 0))⟩ : Frame)).1)).1).Site)), (.int .i64 (((decF ((encF (⟨1, 0, 0, 1, (List.replicate r2 (byt 0))⟩ : Frame)).1)).1).Seq)), r13])) rfl (evs_cons (v := (.agg #[(.int .i64 1), (.int .i64 0), (.int .i64 0), (.int .i64 1), v2])) rfl evs_nil)) (c_fSame (w0 := w23) (f := ((decF ((encF (⟨1, 0, 0, 1, (List.replicate r2 (byt 0))⟩ : Frame)).1)).1)) (v_f_Body := r13) (h_f_Body := (hst.sl 1 rfl)) (g := (⟨1, 0, 0, 1, (List.replicate r2 (byt 0))⟩ : Frame)) (v_g_Body := v2) (h_g_Body := (hst.sl 4 rfl))) ?_)
        rintro _ w24 ⟨rfl, hcall⟩
        refine ⟨_, rfl, ?_⟩
        have hst : St w0 w24 [.blk g15 25 #[(.int .i64 (((decF ((encF (⟨1, 0, 0, 1, (List.replicate r2 (byt 0))⟩ : Frame)).1)).1).Kind)), (.int .i64 (((decF ((encF (⟨1, 0, 0, 1, (List.replicate r2 (byt 0))⟩ : Frame)).1)).1).View)), (.int .i64 (((decF ((encF (⟨1, 0, 0, 1, (List.replicate r2 (byt 0))⟩ : Frame)).1)).1).Site)), (.int .i64 (((decF ((encF (⟨1, 0, 0, 1, (List.replicate r2 (byt 0))⟩ : Frame)).1)).1).Seq)), r13], rowT 5 u8E r13 ((decF ((encF (⟨1, 0, 0, 1, (List.replicate r2 (byt 0))⟩ : Frame)).1)).1.Body), rowT 5 u8E r7 ((encF (⟨1, 0, 0, 1, (List.replicate r2 (byt 0))⟩ : Frame)).1), .blk g4 25 #[(.int .i64 1), (.int .i64 0), (.int .i64 0), (.int .i64 1), v2], rowT 5 u8E v2 (List.replicate r2 (byt 0))] := hst.call hcall
        refine s_cons (op_pick_t (.bool (decide (((decF ((encF (⟨1, 0, 0, 1, (List.replicate r2 (byt 0))⟩ : Frame)).1)).1) = (⟨1, 0, 0, 1, (List.replicate r2 (byt 0))⟩ : Frame)))) (congrArg Value.bool (show (decide (((decF ((encF (⟨1, 0, 0, 1, (List.replicate r2 (byt 0))⟩ : Frame)).1)).2) = 0)) = true from (decide_eq_true (by rw [dec_enc (long_may (by omega))])))) rfl ?_)
        refine s_cons (op_move (.bool (decide (((decF ((encF (⟨1, 0, 0, 1, (List.replicate r2 (byt 0))⟩ : Frame)).1)).1) = (⟨1, 0, 0, 1, (List.replicate r2 (byt 0))⟩ : Frame)))) rfl ?_)
        refine s_yes 63 rfl (congrArg Value.bool (show (decide (((decF ((encF (⟨1, 0, 0, 1, (List.replicate r2 (byt 0))⟩ : Frame)).1)).1) = (⟨1, 0, 0, 1, (List.replicate r2 (byt 0))⟩ : Frame))) = true from (decide_eq_true (by rw [dec_enc (long_may (by omega))])))) (op_move r7 rfl ?_)
        refine s_yes 63 rfl (congrArg Value.bool (show (decide (((decF ((encF (⟨1, 0, 0, 1, (List.replicate r2 (byt 0))⟩ : Frame)).1)).1) = (⟨1, 0, 0, 1, (List.replicate r2 (byt 0))⟩ : Frame))) = true from (decide_eq_true (by rw [dec_enc (long_may (by omega))])))) (op_len (E := u8E) (xs := (encF (⟨1, 0, 0, 1, (List.replicate r2 (byt 0))⟩ : Frame)).1) Try.underlying23 rfl (hst.sl 2 rfl) ?_)
        refine s_yes 63 rfl (congrArg Value.bool (show (decide (((decF ((encF (⟨1, 0, 0, 1, (List.replicate r2 (byt 0))⟩ : Frame)).1)).1) = (⟨1, 0, 0, 1, (List.replicate r2 (byt 0))⟩ : Frame))) = true from (decide_eq_true (by rw [dec_enc (long_may (by omega))])))) (op_move (.int .i64 1) rfl ?_)
        refine s_yes 63 rfl (congrArg Value.bool (show (decide (((decF ((encF (⟨1, 0, 0, 1, (List.replicate r2 (byt 0))⟩ : Frame)).1)).1) = (⟨1, 0, 0, 1, (List.replicate r2 (byt 0))⟩ : Frame))) = true from (decide_eq_true (by rw [dec_enc (long_may (by omega))])))) (op_add (k := .i64) (a := 7) (b := 1) (7 + 1) rfl rfl (xi64 (by omega) (by omega)) ?_)
        refine s_yes 63 rfl (congrArg Value.bool (show (decide (((decF ((encF (⟨1, 0, 0, 1, (List.replicate r2 (byt 0))⟩ : Frame)).1)).1) = (⟨1, 0, 0, 1, (List.replicate r2 (byt 0))⟩ : Frame))) = true from (decide_eq_true (by rw [dec_enc (long_may (by omega))])))) (op_move (.int .i64 (r2 : Int)) rfl ?_)
        refine s_yes 63 rfl (congrArg Value.bool (show (decide (((decF ((encF (⟨1, 0, 0, 1, (List.replicate r2 (byt 0))⟩ : Frame)).1)).1) = (⟨1, 0, 0, 1, (List.replicate r2 (byt 0))⟩ : Frame))) = true from (decide_eq_true (by rw [dec_enc (long_may (by omega))])))) (op_add (k := .i64) (a := (7 + 1)) (b := (r2 : Int)) ((7 + 1) + (r2 : Int)) rfl rfl (xi64 (by omega) (by omega)) ?_)
        refine s_yes 63 rfl (congrArg Value.bool (show (decide (((decF ((encF (⟨1, 0, 0, 1, (List.replicate r2 (byt 0))⟩ : Frame)).1)).1) = (⟨1, 0, 0, 1, (List.replicate r2 (byt 0))⟩ : Frame))) = true from (decide_eq_true (by rw [dec_enc (long_may (by omega))])))) (op_eql (k := .i64) (a := (((encF (⟨1, 0, 0, 1, (List.replicate r2 (byt 0))⟩ : Frame)).1).length : Int)) (b := ((7 + 1) + (r2 : Int))) rfl rfl ?_)
        refine s_cons (op_pick_t (.bool (decide ((((encF (⟨1, 0, 0, 1, (List.replicate r2 (byt 0))⟩ : Frame)).1).length : Int) = ((7 + 1) + (r2 : Int))))) (congrArg Value.bool (show (decide (((decF ((encF (⟨1, 0, 0, 1, (List.replicate r2 (byt 0))⟩ : Frame)).1)).1) = (⟨1, 0, 0, 1, (List.replicate r2 (byt 0))⟩ : Frame))) = true from (decide_eq_true (by rw [dec_enc (long_may (by omega))])))) rfl ?_)
        refine s_cons (op_assign (.bool (decide ((((encF (⟨1, 0, 0, 1, (List.replicate r2 (byt 0))⟩ : Frame)).1).length : Int) = ((7 + 1) + (r2 : Int))))) rfl ?_)
        refine s_nil ?_
        refine then_n ?_
        refine cE_ret ?_
        refine post_r _ (res1 (v := (.bool true)) (congrArg Value.bool (show (decide ((((encF (⟨1, 0, 0, 1, (List.replicate r2 (byt 0))⟩ : Frame)).1).length : Int) = ((7 + 1) + (r2 : Int)))) = true from (decide_eq_true (by rw [long_len (by omega), put_len_le (by omega)]; omega))))) ?_
        exact ⟨rfl, hst.bare⟩
  · refine cE_cond false (congrArg Value.bool b1) (fun h => by cases h) (fun _ => ?_)
    refine cE_skip ?_
    refine then_n ?_
    refine cE_seq ?_
    refine cE_region rfl ?_
    refine s_cons (op_move (.int .i64 (4098 + (r1 : Int))) rfl ?_)
    refine s_cons (op_makeSl (E := u8E) (n := (Int.toNat (4098 + (r1 : Int)))) (z := (byt 0)) (zv := (.int .u8 0)) (bytes := 1) hst Try.underlying23 (by kernel_rfl) rfl rfl rfl (by omega) (by omega) (by first | omega | (simp; omega)) (by first | omega | (simp; omega)) (fun v25 w26 hst => ?_))
    replace hst : St w0 w26 [rowT 5 u8E v25 (List.replicate (Int.toNat (4098 + (r1 : Int))) (byt 0))] := hst
    refine s_cons (op_build (r := (.agg #[(.int .i64 1), (.int .i64 0), (.int .i64 0), (.int .i64 1), v25])) (evp_cons (v := (.int .i64 1)) rfl (evp_cons (v := (.int .i64 1)) rfl (evp_cons (v := v25) rfl evp_nil))) (by simp [Instr.build, Instr.fill, cells_int, cells_bool, cells_str, cells_agg, cells_nil, sl_cells (show Sl _ u8E v25 (List.replicate (Int.toNat (4098 + (r1 : Int))) (byt 0)) from (hst.sl 0 rfl)), Try.runUnderlying25, Try.zeroValue25]) ?_)
    refine s_cons (op_alloc (cs := #[(.int .i64 0), (.int .i64 0), (.int .i64 0), (.int .i64 0), (.slice none 0 0)]) hst Try.zeroValue25 rfl (fun g27 w28 hst _ => ?_))
    replace hst : St w0 w28 [.blk g27 25 #[(.int .i64 0), (.int .i64 0), (.int .i64 0), (.int .i64 0), (.slice none 0 0)], rowT 5 u8E v25 (List.replicate (Int.toNat (4098 + (r1 : Int))) (byt 0))] := hst
    refine s_cons0 (op_storeAll hst 0 rfl Try.sizeOf25 rfl rfl rfl rfl (oneL_all (l := [(.int .i64 1), (.int .i64 0), (.int .i64 0), (.int .i64 1), v25]) ⟨rfl, rfl, rfl, rfl, (sl_one (show Sl _ u8E v25 (List.replicate (Int.toNat (4098 + (r1 : Int))) (byt 0)) from (hst.sl 1 rfl))), trivial⟩) (fun w29 hst => ?_))
    replace hst : St w0 w29 [.blk g27 25 #[(.int .i64 1), (.int .i64 0), (.int .i64 0), (.int .i64 1), v25], rowT 5 u8E v25 (List.replicate (Int.toNat (4098 + (r1 : Int))) (byt 0))] := hst
    refine s_nil ?_
    refine then_n ?_
    refine cE_seq ?_
    refine cE_region rfl ?_
    refine s_cons (op_loadN (cs := [(.int .i64 1), (.int .i64 0), (.int .i64 0), (.int .i64 1), v25]) Try.isAgg25 Try.sizeOf25 rfl (Pt.of (hst.cell 0 rfl) rfl) rfl ?_)
    refine s_cons (op_call Try.call8 (evs_cons (v := (.agg #[(.int .i64 1), (.int .i64 0), (.int .i64 0), (.int .i64 1), v25])) rfl evs_nil) (c_fPut (w0 := w29) (f := (⟨1, 0, 0, 1, (List.replicate (Int.toNat (4098 + (r1 : Int))) (byt 0))⟩ : Frame)) (v_f_Body := v25) (h_f_Body := (hst.sl 1 rfl)) (hf := ⟨⟨by first | (simp only []; omega) | simp only [], by first | (simp only []; omega) | simp only []⟩, ⟨by first | (simp only []; omega) | simp only [], by first | (simp only []; omega) | simp only []⟩, ⟨by first | (simp only []; omega) | simp only [], by first | (simp only []; omega) | simp only []⟩, ⟨by first | (simp only []; omega) | simp only [], by first | (simp only []; omega) | simp only []⟩⟩)) ?_)
    rintro _ w31 ⟨r30, rfl, hcall⟩
    refine ⟨_, rfl, ?_⟩
    have hst : St w0 w31 [rowT 5 u8E r30 ((encF (⟨1, 0, 0, 1, (List.replicate (Int.toNat (4098 + (r1 : Int))) (byt 0))⟩ : Frame)).1), .blk g27 25 #[(.int .i64 1), (.int .i64 0), (.int .i64 0), (.int .i64 1), v25], rowT 5 u8E v25 (List.replicate (Int.toNat (4098 + (r1 : Int))) (byt 0))] := hst.call hcall
    refine s_cons (op_move (.tuple #[r30, (.int .i64 ((encF (⟨1, 0, 0, 1, (List.replicate (Int.toNat (4098 + (r1 : Int))) (byt 0))⟩ : Frame)).2))]) rfl ?_)
    refine s_cons (op_extract r30 rfl rfl ?_)
    refine s_cons (op_extract (.int .i64 ((encF (⟨1, 0, 0, 1, (List.replicate (Int.toNat (4098 + (r1 : Int))) (byt 0))⟩ : Frame)).2)) rfl rfl ?_)
    refine s_cons (op_assign r30 rfl ?_)
    refine s_cons (op_assign (.int .i64 ((encF (⟨1, 0, 0, 1, (List.replicate (Int.toNat (4098 + (r1 : Int))) (byt 0))⟩ : Frame)).2)) rfl ?_)
    refine s_nil ?_
    refine then_n ?_
    refine cE_seq ?_
    refine cE_seq ?_
    refine cE_region rfl ?_
    refine s_cons (op_move (.int .i64 (4098 + (r1 : Int))) rfl ?_)
    refine s_cons (op_gtr (k := .i64) (a := (4098 + (r1 : Int))) (b := 4100) rfl rfl ?_)
    refine s_nil ?_
    refine then_n ?_
    rcases Bool.eq_false_or_eq_true (decide (4100 < (4098 + (r1 : Int)))) with b32 | b32
    · have c33 : 4100 < (4098 + (r1 : Int)) := of_decide_eq_true b32
      refine cE_cond true (congrArg Value.bool b32) (fun _ => ?_) (fun h => by cases h)
      refine cE_seq ?_
      refine cE_region rfl ?_
      refine s_cons (op_call Try.call9 evs_nil (c_told13 (w0 := w31)) ?_)
      rintro _ w34 ⟨rfl, hcall⟩
      refine ⟨_, rfl, ?_⟩
      have hst : St w0 w34 [rowT 5 u8E r30 ((encF (⟨1, 0, 0, 1, (List.replicate (Int.toNat (4098 + (r1 : Int))) (byt 0))⟩ : Frame)).1), .blk g27 25 #[(.int .i64 1), (.int .i64 0), (.int .i64 0), (.int .i64 1), v25], rowT 5 u8E v25 (List.replicate (Int.toNat (4098 + (r1 : Int))) (byt 0))] := hst.call hcall
      refine s_cons (op_move (.bool true) rfl ?_)
      refine s_yes 33 rfl rfl (op_move (.int .i64 ((encF (⟨1, 0, 0, 1, (List.replicate (Int.toNat (4098 + (r1 : Int))) (byt 0))⟩ : Frame)).2)) rfl ?_)
      refine s_yes 33 rfl rfl (op_eql (k := .i64) (a := (encF (⟨1, 0, 0, 1, (List.replicate (Int.toNat (4098 + (r1 : Int))) (byt 0))⟩ : Frame)).2) (b := 1) rfl rfl ?_)
      refine s_cons (op_pick_t (.bool (decide (((encF (⟨1, 0, 0, 1, (List.replicate (Int.toNat (4098 + (r1 : Int))) (byt 0))⟩ : Frame)).2) = 1))) rfl rfl ?_)
      refine s_cons (op_move (.bool (decide (((encF (⟨1, 0, 0, 1, (List.replicate (Int.toNat (4098 + (r1 : Int))) (byt 0))⟩ : Frame)).2) = 1))) rfl ?_)
      refine s_yes 37 rfl (congrArg Value.bool (show (decide (((encF (⟨1, 0, 0, 1, (List.replicate (Int.toNat (4098 + (r1 : Int))) (byt 0))⟩ : Frame)).2) = 1)) = true from (decide_eq_true (by rw [long_not (by omega)])))) (op_move r30 rfl ?_)
      refine s_yes 37 rfl (congrArg Value.bool (show (decide (((encF (⟨1, 0, 0, 1, (List.replicate (Int.toNat (4098 + (r1 : Int))) (byt 0))⟩ : Frame)).2) = 1)) = true from (decide_eq_true (by rw [long_not (by omega)])))) (op_len (E := u8E) (xs := (encF (⟨1, 0, 0, 1, (List.replicate (Int.toNat (4098 + (r1 : Int))) (byt 0))⟩ : Frame)).1) Try.underlying23 rfl (hst.sl 0 rfl) ?_)
      refine s_yes 37 rfl (congrArg Value.bool (show (decide (((encF (⟨1, 0, 0, 1, (List.replicate (Int.toNat (4098 + (r1 : Int))) (byt 0))⟩ : Frame)).2) = 1)) = true from (decide_eq_true (by rw [long_not (by omega)])))) (op_eql (k := .i64) (a := (((encF (⟨1, 0, 0, 1, (List.replicate (Int.toNat (4098 + (r1 : Int))) (byt 0))⟩ : Frame)).1).length : Int)) (b := 0) rfl rfl ?_)
      refine s_cons (op_pick_t (.bool (decide ((((encF (⟨1, 0, 0, 1, (List.replicate (Int.toNat (4098 + (r1 : Int))) (byt 0))⟩ : Frame)).1).length : Int) = 0))) (congrArg Value.bool (show (decide (((encF (⟨1, 0, 0, 1, (List.replicate (Int.toNat (4098 + (r1 : Int))) (byt 0))⟩ : Frame)).2) = 1)) = true from (decide_eq_true (by rw [long_not (by omega)])))) rfl ?_)
      refine s_cons (op_assign (.bool (decide ((((encF (⟨1, 0, 0, 1, (List.replicate (Int.toNat (4098 + (r1 : Int))) (byt 0))⟩ : Frame)).1).length : Int) = 0))) rfl ?_)
      refine s_nil ?_
      refine then_n ?_
      refine cE_ret ?_
      refine then_r ?_
      refine post_r _ (res1 (v := (.bool true)) (congrArg Value.bool (show (decide ((((encF (⟨1, 0, 0, 1, (List.replicate (Int.toNat (4098 + (r1 : Int))) (byt 0))⟩ : Frame)).1).length : Int) = 0)) = true from (decide_eq_true (by rw [long_not (by omega)]; rfl))))) ?_
      exact ⟨rfl, hst.bare⟩
    · have c35 : ¬ (4100 < (4098 + (r1 : Int))) := of_decide_eq_false b32
      refine cE_cond false (congrArg Value.bool b32) (fun h => by cases h) (fun _ => ?_)
      refine cE_skip ?_
      refine then_n ?_
      refine cE_seq ?_
      refine cE_region rfl ?_
      refine s_cons (op_move r30 rfl ?_)
      refine s_cons (op_call Try.call10 (evs_cons (v := r30) rfl evs_nil) (c_fGet (w0 := w31) (v_b := r30) (b := (encF (⟨1, 0, 0, 1, (List.replicate (Int.toNat (4098 + (r1 : Int))) (byt 0))⟩ : Frame)).1) (h_b := (hst.sl 0 rfl)) (hl := (Nat.le_trans (enc_max (by simp; omega)) (by decide)))) ?_)
      rintro _ w37 ⟨r36, rfl, hcall⟩
      refine ⟨_, rfl, ?_⟩
      have hst : St w0 w37 [rowT 5 u8E r36 ((decF ((encF (⟨1, 0, 0, 1, (List.replicate (Int.toNat (4098 + (r1 : Int))) (byt 0))⟩ : Frame)).1)).1.Body), rowT 5 u8E r30 ((encF (⟨1, 0, 0, 1, (List.replicate (Int.toNat (4098 + (r1 : Int))) (byt 0))⟩ : Frame)).1), .blk g27 25 #[(.int .i64 1), (.int .i64 0), (.int .i64 0), (.int .i64 1), v25], rowT 5 u8E v25 (List.replicate (Int.toNat (4098 + (r1 : Int))) (byt 0))] := hst.call hcall
      refine s_cons (op_move (.tuple #[(.agg #[(.int .i64 (((decF ((encF (⟨1, 0, 0, 1, (List.replicate (Int.toNat (4098 + (r1 : Int))) (byt 0))⟩ : Frame)).1)).1).Kind)), (.int .i64 (((decF ((encF (⟨1, 0, 0, 1, (List.replicate (Int.toNat (4098 + (r1 : Int))) (byt 0))⟩ : Frame)).1)).1).View)), (.int .i64 (((decF ((encF (⟨1, 0, 0, 1, (List.replicate (Int.toNat (4098 + (r1 : Int))) (byt 0))⟩ : Frame)).1)).1).Site)), (.int .i64 (((decF ((encF (⟨1, 0, 0, 1, (List.replicate (Int.toNat (4098 + (r1 : Int))) (byt 0))⟩ : Frame)).1)).1).Seq)), r36]), (.int .i64 ((decF ((encF (⟨1, 0, 0, 1, (List.replicate (Int.toNat (4098 + (r1 : Int))) (byt 0))⟩ : Frame)).1)).2))]) rfl ?_)
      refine s_cons (op_extract (.agg #[(.int .i64 (((decF ((encF (⟨1, 0, 0, 1, (List.replicate (Int.toNat (4098 + (r1 : Int))) (byt 0))⟩ : Frame)).1)).1).Kind)), (.int .i64 (((decF ((encF (⟨1, 0, 0, 1, (List.replicate (Int.toNat (4098 + (r1 : Int))) (byt 0))⟩ : Frame)).1)).1).View)), (.int .i64 (((decF ((encF (⟨1, 0, 0, 1, (List.replicate (Int.toNat (4098 + (r1 : Int))) (byt 0))⟩ : Frame)).1)).1).Site)), (.int .i64 (((decF ((encF (⟨1, 0, 0, 1, (List.replicate (Int.toNat (4098 + (r1 : Int))) (byt 0))⟩ : Frame)).1)).1).Seq)), r36]) rfl rfl ?_)
      refine s_cons (op_extract (.int .i64 ((decF ((encF (⟨1, 0, 0, 1, (List.replicate (Int.toNat (4098 + (r1 : Int))) (byt 0))⟩ : Frame)).1)).2)) rfl rfl ?_)
      refine s_cons (op_alloc (cs := #[(.int .i64 0), (.int .i64 0), (.int .i64 0), (.int .i64 0), (.slice none 0 0)]) hst Try.zeroValue25 rfl (fun g38 w39 hst _ => ?_))
      replace hst : St w0 w39 [.blk g38 25 #[(.int .i64 0), (.int .i64 0), (.int .i64 0), (.int .i64 0), (.slice none 0 0)], rowT 5 u8E r36 ((decF ((encF (⟨1, 0, 0, 1, (List.replicate (Int.toNat (4098 + (r1 : Int))) (byt 0))⟩ : Frame)).1)).1.Body), rowT 5 u8E r30 ((encF (⟨1, 0, 0, 1, (List.replicate (Int.toNat (4098 + (r1 : Int))) (byt 0))⟩ : Frame)).1), .blk g27 25 #[(.int .i64 1), (.int .i64 0), (.int .i64 0), (.int .i64 1), v25], rowT 5 u8E v25 (List.replicate (Int.toNat (4098 + (r1 : Int))) (byt 0))] := hst
      refine s_cons0 (op_storeAll hst 0 rfl Try.sizeOf25 rfl rfl rfl rfl (oneL_all (l := [(.int .i64 (((decF ((encF (⟨1, 0, 0, 1, (List.replicate (Int.toNat (4098 + (r1 : Int))) (byt 0))⟩ : Frame)).1)).1).Kind)), (.int .i64 (((decF ((encF (⟨1, 0, 0, 1, (List.replicate (Int.toNat (4098 + (r1 : Int))) (byt 0))⟩ : Frame)).1)).1).View)), (.int .i64 (((decF ((encF (⟨1, 0, 0, 1, (List.replicate (Int.toNat (4098 + (r1 : Int))) (byt 0))⟩ : Frame)).1)).1).Site)), (.int .i64 (((decF ((encF (⟨1, 0, 0, 1, (List.replicate (Int.toNat (4098 + (r1 : Int))) (byt 0))⟩ : Frame)).1)).1).Seq)), r36]) ⟨rfl, rfl, rfl, rfl, (sl_one (show Sl _ u8E r36 (((decF ((encF (⟨1, 0, 0, 1, (List.replicate (Int.toNat (4098 + (r1 : Int))) (byt 0))⟩ : Frame)).1)).1).Body) from (hst.sl 1 rfl))), trivial⟩) (fun w40 hst => ?_))
      replace hst : St w0 w40 [.blk g38 25 #[(.int .i64 (((decF ((encF (⟨1, 0, 0, 1, (List.replicate (Int.toNat (4098 + (r1 : Int))) (byt 0))⟩ : Frame)).1)).1).Kind)), (.int .i64 (((decF ((encF (⟨1, 0, 0, 1, (List.replicate (Int.toNat (4098 + (r1 : Int))) (byt 0))⟩ : Frame)).1)).1).View)), (.int .i64 (((decF ((encF (⟨1, 0, 0, 1, (List.replicate (Int.toNat (4098 + (r1 : Int))) (byt 0))⟩ : Frame)).1)).1).Site)), (.int .i64 (((decF ((encF (⟨1, 0, 0, 1, (List.replicate (Int.toNat (4098 + (r1 : Int))) (byt 0))⟩ : Frame)).1)).1).Seq)), r36], rowT 5 u8E r36 ((decF ((encF (⟨1, 0, 0, 1, (List.replicate (Int.toNat (4098 + (r1 : Int))) (byt 0))⟩ : Frame)).1)).1.Body), rowT 5 u8E r30 ((encF (⟨1, 0, 0, 1, (List.replicate (Int.toNat (4098 + (r1 : Int))) (byt 0))⟩ : Frame)).1), .blk g27 25 #[(.int .i64 1), (.int .i64 0), (.int .i64 0), (.int .i64 1), v25], rowT 5 u8E v25 (List.replicate (Int.toNat (4098 + (r1 : Int))) (byt 0))] := hst
      refine s_cons (op_assign (.int .i64 ((decF ((encF (⟨1, 0, 0, 1, (List.replicate (Int.toNat (4098 + (r1 : Int))) (byt 0))⟩ : Frame)).1)).2)) rfl ?_)
      refine s_nil ?_
      refine then_n ?_
      refine cE_seq ?_
      refine cE_region rfl ?_
      refine s_cons (op_assign (.int .i64 1) rfl ?_)
      refine s_nil ?_
      refine then_n ?_
      refine cE_seq ?_
      refine cE_seq ?_
      refine cE_region rfl ?_
      refine s_cons (op_move (.int .i64 (4098 + (r1 : Int))) rfl ?_)
      refine s_cons (op_gtr (k := .i64) (a := (4098 + (r1 : Int))) (b := 127) rfl rfl ?_)
      refine s_nil ?_
      refine then_n ?_
      rcases Bool.eq_false_or_eq_true (decide (127 < (4098 + (r1 : Int)))) with b41 | b41
      · have c42 : 127 < (4098 + (r1 : Int)) := of_decide_eq_true b41
        refine cE_cond true (congrArg Value.bool b41) (fun _ => ?_) (fun h => by cases h)
        refine cE_region rfl ?_
        refine s_cons (op_assign (.int .i64 2) rfl ?_)
        refine s_nil ?_
        refine then_n ?_
        refine cE_seq ?_
        refine cE_region rfl ?_
        refine s_cons (op_call Try.call9 evs_nil (c_told13 (w0 := w40)) ?_)
        rintro _ w43 ⟨rfl, hcall⟩
        refine ⟨_, rfl, ?_⟩
        have hst : St w0 w43 [.blk g38 25 #[(.int .i64 (((decF ((encF (⟨1, 0, 0, 1, (List.replicate (Int.toNat (4098 + (r1 : Int))) (byt 0))⟩ : Frame)).1)).1).Kind)), (.int .i64 (((decF ((encF (⟨1, 0, 0, 1, (List.replicate (Int.toNat (4098 + (r1 : Int))) (byt 0))⟩ : Frame)).1)).1).View)), (.int .i64 (((decF ((encF (⟨1, 0, 0, 1, (List.replicate (Int.toNat (4098 + (r1 : Int))) (byt 0))⟩ : Frame)).1)).1).Site)), (.int .i64 (((decF ((encF (⟨1, 0, 0, 1, (List.replicate (Int.toNat (4098 + (r1 : Int))) (byt 0))⟩ : Frame)).1)).1).Seq)), r36], rowT 5 u8E r36 ((decF ((encF (⟨1, 0, 0, 1, (List.replicate (Int.toNat (4098 + (r1 : Int))) (byt 0))⟩ : Frame)).1)).1.Body), rowT 5 u8E r30 ((encF (⟨1, 0, 0, 1, (List.replicate (Int.toNat (4098 + (r1 : Int))) (byt 0))⟩ : Frame)).1), .blk g27 25 #[(.int .i64 1), (.int .i64 0), (.int .i64 0), (.int .i64 1), v25], rowT 5 u8E v25 (List.replicate (Int.toNat (4098 + (r1 : Int))) (byt 0))] := hst.call hcall
        refine s_cons (op_move (.bool true) rfl ?_)
        refine s_yes 50 rfl rfl (op_move (.int .i64 ((encF (⟨1, 0, 0, 1, (List.replicate (Int.toNat (4098 + (r1 : Int))) (byt 0))⟩ : Frame)).2)) rfl ?_)
        refine s_yes 50 rfl rfl (op_eql (k := .i64) (a := (encF (⟨1, 0, 0, 1, (List.replicate (Int.toNat (4098 + (r1 : Int))) (byt 0))⟩ : Frame)).2) (b := 0) rfl rfl ?_)
        refine s_cons (op_pick_t (.bool (decide (((encF (⟨1, 0, 0, 1, (List.replicate (Int.toNat (4098 + (r1 : Int))) (byt 0))⟩ : Frame)).2) = 0))) rfl rfl ?_)
        refine s_cons (op_move (.bool (decide (((encF (⟨1, 0, 0, 1, (List.replicate (Int.toNat (4098 + (r1 : Int))) (byt 0))⟩ : Frame)).2) = 0))) rfl ?_)
        refine s_yes 54 rfl (congrArg Value.bool (show (decide (((encF (⟨1, 0, 0, 1, (List.replicate (Int.toNat (4098 + (r1 : Int))) (byt 0))⟩ : Frame)).2) = 0)) = true from (decide_eq_true (enc_code (long_may (by omega)))))) (op_move (.int .i64 ((decF ((encF (⟨1, 0, 0, 1, (List.replicate (Int.toNat (4098 + (r1 : Int))) (byt 0))⟩ : Frame)).1)).2)) rfl ?_)
        refine s_yes 54 rfl (congrArg Value.bool (show (decide (((encF (⟨1, 0, 0, 1, (List.replicate (Int.toNat (4098 + (r1 : Int))) (byt 0))⟩ : Frame)).2) = 0)) = true from (decide_eq_true (enc_code (long_may (by omega)))))) (op_eql (k := .i64) (a := (decF ((encF (⟨1, 0, 0, 1, (List.replicate (Int.toNat (4098 + (r1 : Int))) (byt 0))⟩ : Frame)).1)).2) (b := 0) rfl rfl ?_)
        refine s_cons (op_pick_t (.bool (decide (((decF ((encF (⟨1, 0, 0, 1, (List.replicate (Int.toNat (4098 + (r1 : Int))) (byt 0))⟩ : Frame)).1)).2) = 0))) (congrArg Value.bool (show (decide (((encF (⟨1, 0, 0, 1, (List.replicate (Int.toNat (4098 + (r1 : Int))) (byt 0))⟩ : Frame)).2) = 0)) = true from (decide_eq_true (enc_code (long_may (by omega)))))) rfl ?_)
        refine s_cons (op_move (.bool (decide (((decF ((encF (⟨1, 0, 0, 1, (List.replicate (Int.toNat (4098 + (r1 : Int))) (byt 0))⟩ : Frame)).1)).2) = 0))) rfl ?_)
        refine s_yes 58 rfl (congrArg Value.bool (show (decide (((decF ((encF (⟨1, 0, 0, 1, (List.replicate (Int.toNat (4098 + (r1 : Int))) (byt 0))⟩ : Frame)).1)).2) = 0)) = true from (decide_eq_true (by rw [dec_enc (long_may (by omega))])))) (op_loadN (cs := [(.int .i64 (((decF ((encF (⟨1, 0, 0, 1, (List.replicate (Int.toNat (4098 + (r1 : Int))) (byt 0))⟩ : Frame)).1)).1).Kind)), (.int .i64 (((decF ((encF (⟨1, 0, 0, 1, (List.replicate (Int.toNat (4098 + (r1 : Int))) (byt 0))⟩ : Frame)).1)).1).View)), (.int .i64 (((decF ((encF (⟨1, 0, 0, 1, (List.replicate (Int.toNat (4098 + (r1 : Int))) (byt 0))⟩ : Frame)).1)).1).Site)), (.int .i64 (((decF ((encF (⟨1, 0, 0, 1, (List.replicate (Int.toNat (4098 + (r1 : Int))) (byt 0))⟩ : Frame)).1)).1).Seq)), r36]) Try.isAgg25 Try.sizeOf25 rfl (Pt.of (hst.cell 0 rfl) rfl) rfl ?_)
        refine s_yes 58 rfl (congrArg Value.bool (show (decide (((decF ((encF (⟨1, 0, 0, 1, (List.replicate (Int.toNat (4098 + (r1 : Int))) (byt 0))⟩ : Frame)).1)).2) = 0)) = true from (decide_eq_true (by rw [dec_enc (long_may (by omega))])))) (op_loadN (cs := [(.int .i64 1), (.int .i64 0), (.int .i64 0), (.int .i64 1), v25]) Try.isAgg25 Try.sizeOf25 rfl (Pt.of (hst.cell 3 rfl) rfl) rfl ?_)
        refine s_yes 58 rfl (congrArg Value.bool (show (decide (((decF ((encF (⟨1, 0, 0, 1, (List.replicate (Int.toNat (4098 + (r1 : Int))) (byt 0))⟩ : Frame)).1)).2) = 0)) = true from (decide_eq_true (by rw [dec_enc (long_may (by omega))])))) (op_call Try.call11 (evs_cons (v := (.agg #[(.int .i64 (((decF ((encF (⟨1, 0, 0, 1, (List.replicate (Int.toNat (4098 + (r1 : Int))) (byt 0))⟩ : Frame)).1)).1).Kind)), (.int .i64 (((decF ((encF (⟨1, 0, 0, 1, (List.replicate (Int.toNat (4098 + (r1 : Int))) (byt 0))⟩ : Frame)).1)).1).View)), (.int .i64 (((decF ((encF (⟨1, 0, 0, 1, (List.replicate (Int.toNat (4098 + (r1 : Int))) (byt 0))⟩ : Frame)).1)).1).Site)), (.int .i64 (((decF ((encF (⟨1, 0, 0, 1, (List.replicate (Int.toNat (4098 + (r1 : Int))) (byt 0))⟩ : Frame)).1)).1).Seq)), r36])) rfl (evs_cons (v := (.agg #[(.int .i64 1), (.int .i64 0), (.int .i64 0), (.int .i64 1), v25])) rfl evs_nil)) (c_fSame (w0 := w43) (f := ((decF ((encF (⟨1, 0, 0, 1, (List.replicate (Int.toNat (4098 + (r1 : Int))) (byt 0))⟩ : Frame)).1)).1)) (v_f_Body := r36) (h_f_Body := (hst.sl 1 rfl)) (g := (⟨1, 0, 0, 1, (List.replicate (Int.toNat (4098 + (r1 : Int))) (byt 0))⟩ : Frame)) (v_g_Body := v25) (h_g_Body := (hst.sl 4 rfl))) ?_)
        rintro _ w44 ⟨rfl, hcall⟩
        refine ⟨_, rfl, ?_⟩
        have hst : St w0 w44 [.blk g38 25 #[(.int .i64 (((decF ((encF (⟨1, 0, 0, 1, (List.replicate (Int.toNat (4098 + (r1 : Int))) (byt 0))⟩ : Frame)).1)).1).Kind)), (.int .i64 (((decF ((encF (⟨1, 0, 0, 1, (List.replicate (Int.toNat (4098 + (r1 : Int))) (byt 0))⟩ : Frame)).1)).1).View)), (.int .i64 (((decF ((encF (⟨1, 0, 0, 1, (List.replicate (Int.toNat (4098 + (r1 : Int))) (byt 0))⟩ : Frame)).1)).1).Site)), (.int .i64 (((decF ((encF (⟨1, 0, 0, 1, (List.replicate (Int.toNat (4098 + (r1 : Int))) (byt 0))⟩ : Frame)).1)).1).Seq)), r36], rowT 5 u8E r36 ((decF ((encF (⟨1, 0, 0, 1, (List.replicate (Int.toNat (4098 + (r1 : Int))) (byt 0))⟩ : Frame)).1)).1.Body), rowT 5 u8E r30 ((encF (⟨1, 0, 0, 1, (List.replicate (Int.toNat (4098 + (r1 : Int))) (byt 0))⟩ : Frame)).1), .blk g27 25 #[(.int .i64 1), (.int .i64 0), (.int .i64 0), (.int .i64 1), v25], rowT 5 u8E v25 (List.replicate (Int.toNat (4098 + (r1 : Int))) (byt 0))] := hst.call hcall
        refine s_cons (op_pick_t (.bool (decide (((decF ((encF (⟨1, 0, 0, 1, (List.replicate (Int.toNat (4098 + (r1 : Int))) (byt 0))⟩ : Frame)).1)).1) = (⟨1, 0, 0, 1, (List.replicate (Int.toNat (4098 + (r1 : Int))) (byt 0))⟩ : Frame)))) (congrArg Value.bool (show (decide (((decF ((encF (⟨1, 0, 0, 1, (List.replicate (Int.toNat (4098 + (r1 : Int))) (byt 0))⟩ : Frame)).1)).2) = 0)) = true from (decide_eq_true (by rw [dec_enc (long_may (by omega))])))) rfl ?_)
        refine s_cons (op_move (.bool (decide (((decF ((encF (⟨1, 0, 0, 1, (List.replicate (Int.toNat (4098 + (r1 : Int))) (byt 0))⟩ : Frame)).1)).1) = (⟨1, 0, 0, 1, (List.replicate (Int.toNat (4098 + (r1 : Int))) (byt 0))⟩ : Frame)))) rfl ?_)
        refine s_yes 63 rfl (congrArg Value.bool (show (decide (((decF ((encF (⟨1, 0, 0, 1, (List.replicate (Int.toNat (4098 + (r1 : Int))) (byt 0))⟩ : Frame)).1)).1) = (⟨1, 0, 0, 1, (List.replicate (Int.toNat (4098 + (r1 : Int))) (byt 0))⟩ : Frame))) = true from (decide_eq_true (by rw [dec_enc (long_may (by omega))])))) (op_move r30 rfl ?_)
        refine s_yes 63 rfl (congrArg Value.bool (show (decide (((decF ((encF (⟨1, 0, 0, 1, (List.replicate (Int.toNat (4098 + (r1 : Int))) (byt 0))⟩ : Frame)).1)).1) = (⟨1, 0, 0, 1, (List.replicate (Int.toNat (4098 + (r1 : Int))) (byt 0))⟩ : Frame))) = true from (decide_eq_true (by rw [dec_enc (long_may (by omega))])))) (op_len (E := u8E) (xs := (encF (⟨1, 0, 0, 1, (List.replicate (Int.toNat (4098 + (r1 : Int))) (byt 0))⟩ : Frame)).1) Try.underlying23 rfl (hst.sl 2 rfl) ?_)
        refine s_yes 63 rfl (congrArg Value.bool (show (decide (((decF ((encF (⟨1, 0, 0, 1, (List.replicate (Int.toNat (4098 + (r1 : Int))) (byt 0))⟩ : Frame)).1)).1) = (⟨1, 0, 0, 1, (List.replicate (Int.toNat (4098 + (r1 : Int))) (byt 0))⟩ : Frame))) = true from (decide_eq_true (by rw [dec_enc (long_may (by omega))])))) (op_move (.int .i64 2) rfl ?_)
        refine s_yes 63 rfl (congrArg Value.bool (show (decide (((decF ((encF (⟨1, 0, 0, 1, (List.replicate (Int.toNat (4098 + (r1 : Int))) (byt 0))⟩ : Frame)).1)).1) = (⟨1, 0, 0, 1, (List.replicate (Int.toNat (4098 + (r1 : Int))) (byt 0))⟩ : Frame))) = true from (decide_eq_true (by rw [dec_enc (long_may (by omega))])))) (op_add (k := .i64) (a := 7) (b := 2) (7 + 2) rfl rfl (xi64 (by omega) (by omega)) ?_)
        refine s_yes 63 rfl (congrArg Value.bool (show (decide (((decF ((encF (⟨1, 0, 0, 1, (List.replicate (Int.toNat (4098 + (r1 : Int))) (byt 0))⟩ : Frame)).1)).1) = (⟨1, 0, 0, 1, (List.replicate (Int.toNat (4098 + (r1 : Int))) (byt 0))⟩ : Frame))) = true from (decide_eq_true (by rw [dec_enc (long_may (by omega))])))) (op_move (.int .i64 (4098 + (r1 : Int))) rfl ?_)
        refine s_yes 63 rfl (congrArg Value.bool (show (decide (((decF ((encF (⟨1, 0, 0, 1, (List.replicate (Int.toNat (4098 + (r1 : Int))) (byt 0))⟩ : Frame)).1)).1) = (⟨1, 0, 0, 1, (List.replicate (Int.toNat (4098 + (r1 : Int))) (byt 0))⟩ : Frame))) = true from (decide_eq_true (by rw [dec_enc (long_may (by omega))])))) (op_add (k := .i64) (a := (7 + 2)) (b := (4098 + (r1 : Int))) ((7 + 2) + (4098 + (r1 : Int))) rfl rfl (xi64 (by omega) (by omega)) ?_)
        refine s_yes 63 rfl (congrArg Value.bool (show (decide (((decF ((encF (⟨1, 0, 0, 1, (List.replicate (Int.toNat (4098 + (r1 : Int))) (byt 0))⟩ : Frame)).1)).1) = (⟨1, 0, 0, 1, (List.replicate (Int.toNat (4098 + (r1 : Int))) (byt 0))⟩ : Frame))) = true from (decide_eq_true (by rw [dec_enc (long_may (by omega))])))) (op_eql (k := .i64) (a := (((encF (⟨1, 0, 0, 1, (List.replicate (Int.toNat (4098 + (r1 : Int))) (byt 0))⟩ : Frame)).1).length : Int)) (b := ((7 + 2) + (4098 + (r1 : Int)))) rfl rfl ?_)
        refine s_cons (op_pick_t (.bool (decide ((((encF (⟨1, 0, 0, 1, (List.replicate (Int.toNat (4098 + (r1 : Int))) (byt 0))⟩ : Frame)).1).length : Int) = ((7 + 2) + (4098 + (r1 : Int)))))) (congrArg Value.bool (show (decide (((decF ((encF (⟨1, 0, 0, 1, (List.replicate (Int.toNat (4098 + (r1 : Int))) (byt 0))⟩ : Frame)).1)).1) = (⟨1, 0, 0, 1, (List.replicate (Int.toNat (4098 + (r1 : Int))) (byt 0))⟩ : Frame))) = true from (decide_eq_true (by rw [dec_enc (long_may (by omega))])))) rfl ?_)
        refine s_cons (op_assign (.bool (decide ((((encF (⟨1, 0, 0, 1, (List.replicate (Int.toNat (4098 + (r1 : Int))) (byt 0))⟩ : Frame)).1).length : Int) = ((7 + 2) + (4098 + (r1 : Int)))))) rfl ?_)
        refine s_nil ?_
        refine then_n ?_
        refine cE_ret ?_
        refine post_r _ (res1 (v := (.bool true)) (congrArg Value.bool (show (decide ((((encF (⟨1, 0, 0, 1, (List.replicate (Int.toNat (4098 + (r1 : Int))) (byt 0))⟩ : Frame)).1).length : Int) = ((7 + 2) + (4098 + (r1 : Int))))) = true from (decide_eq_true (by rw [long_len (by omega), put_len_two (by omega) (by omega)]; omega))))) ?_
        exact ⟨rfl, hst.bare⟩
      · have c45 : ¬ (127 < (4098 + (r1 : Int))) := of_decide_eq_false b41
        refine cE_cond false (congrArg Value.bool b41) (fun h => by cases h) (fun _ => ?_)
        refine cE_skip ?_
        refine then_n ?_
        refine cE_seq ?_
        refine cE_region rfl ?_
        refine s_cons (op_call Try.call9 evs_nil (c_told13 (w0 := w40)) ?_)
        rintro _ w46 ⟨rfl, hcall⟩
        refine ⟨_, rfl, ?_⟩
        have hst : St w0 w46 [.blk g38 25 #[(.int .i64 (((decF ((encF (⟨1, 0, 0, 1, (List.replicate (Int.toNat (4098 + (r1 : Int))) (byt 0))⟩ : Frame)).1)).1).Kind)), (.int .i64 (((decF ((encF (⟨1, 0, 0, 1, (List.replicate (Int.toNat (4098 + (r1 : Int))) (byt 0))⟩ : Frame)).1)).1).View)), (.int .i64 (((decF ((encF (⟨1, 0, 0, 1, (List.replicate (Int.toNat (4098 + (r1 : Int))) (byt 0))⟩ : Frame)).1)).1).Site)), (.int .i64 (((decF ((encF (⟨1, 0, 0, 1, (List.replicate (Int.toNat (4098 + (r1 : Int))) (byt 0))⟩ : Frame)).1)).1).Seq)), r36], rowT 5 u8E r36 ((decF ((encF (⟨1, 0, 0, 1, (List.replicate (Int.toNat (4098 + (r1 : Int))) (byt 0))⟩ : Frame)).1)).1.Body), rowT 5 u8E r30 ((encF (⟨1, 0, 0, 1, (List.replicate (Int.toNat (4098 + (r1 : Int))) (byt 0))⟩ : Frame)).1), .blk g27 25 #[(.int .i64 1), (.int .i64 0), (.int .i64 0), (.int .i64 1), v25], rowT 5 u8E v25 (List.replicate (Int.toNat (4098 + (r1 : Int))) (byt 0))] := hst.call hcall
        refine s_cons (op_move (.bool true) rfl ?_)
        refine s_yes 50 rfl rfl (op_move (.int .i64 ((encF (⟨1, 0, 0, 1, (List.replicate (Int.toNat (4098 + (r1 : Int))) (byt 0))⟩ : Frame)).2)) rfl ?_)
        refine s_yes 50 rfl rfl (op_eql (k := .i64) (a := (encF (⟨1, 0, 0, 1, (List.replicate (Int.toNat (4098 + (r1 : Int))) (byt 0))⟩ : Frame)).2) (b := 0) rfl rfl ?_)
        refine s_cons (op_pick_t (.bool (decide (((encF (⟨1, 0, 0, 1, (List.replicate (Int.toNat (4098 + (r1 : Int))) (byt 0))⟩ : Frame)).2) = 0))) rfl rfl ?_)
        refine s_cons (op_move (.bool (decide (((encF (⟨1, 0, 0, 1, (List.replicate (Int.toNat (4098 + (r1 : Int))) (byt 0))⟩ : Frame)).2) = 0))) rfl ?_)
        refine s_yes 54 rfl (congrArg Value.bool (show (decide (((encF (⟨1, 0, 0, 1, (List.replicate (Int.toNat (4098 + (r1 : Int))) (byt 0))⟩ : Frame)).2) = 0)) = true from (decide_eq_true (enc_code (long_may (by omega)))))) (op_move (.int .i64 ((decF ((encF (⟨1, 0, 0, 1, (List.replicate (Int.toNat (4098 + (r1 : Int))) (byt 0))⟩ : Frame)).1)).2)) rfl ?_)
        refine s_yes 54 rfl (congrArg Value.bool (show (decide (((encF (⟨1, 0, 0, 1, (List.replicate (Int.toNat (4098 + (r1 : Int))) (byt 0))⟩ : Frame)).2) = 0)) = true from (decide_eq_true (enc_code (long_may (by omega)))))) (op_eql (k := .i64) (a := (decF ((encF (⟨1, 0, 0, 1, (List.replicate (Int.toNat (4098 + (r1 : Int))) (byt 0))⟩ : Frame)).1)).2) (b := 0) rfl rfl ?_)
        refine s_cons (op_pick_t (.bool (decide (((decF ((encF (⟨1, 0, 0, 1, (List.replicate (Int.toNat (4098 + (r1 : Int))) (byt 0))⟩ : Frame)).1)).2) = 0))) (congrArg Value.bool (show (decide (((encF (⟨1, 0, 0, 1, (List.replicate (Int.toNat (4098 + (r1 : Int))) (byt 0))⟩ : Frame)).2) = 0)) = true from (decide_eq_true (enc_code (long_may (by omega)))))) rfl ?_)
        refine s_cons (op_move (.bool (decide (((decF ((encF (⟨1, 0, 0, 1, (List.replicate (Int.toNat (4098 + (r1 : Int))) (byt 0))⟩ : Frame)).1)).2) = 0))) rfl ?_)
        refine s_yes 58 rfl (congrArg Value.bool (show (decide (((decF ((encF (⟨1, 0, 0, 1, (List.replicate (Int.toNat (4098 + (r1 : Int))) (byt 0))⟩ : Frame)).1)).2) = 0)) = true from (decide_eq_true (by rw [dec_enc (long_may (by omega))])))) (op_loadN (cs := [(.int .i64 (((decF ((encF (⟨1, 0, 0, 1, (List.replicate (Int.toNat (4098 + (r1 : Int))) (byt 0))⟩ : Frame)).1)).1).Kind)), (.int .i64 (((decF ((encF (⟨1, 0, 0, 1, (List.replicate (Int.toNat (4098 + (r1 : Int))) (byt 0))⟩ : Frame)).1)).1).View)), (.int .i64 (((decF ((encF (⟨1, 0, 0, 1, (List.replicate (Int.toNat (4098 + (r1 : Int))) (byt 0))⟩ : Frame)).1)).1).Site)), (.int .i64 (((decF ((encF (⟨1, 0, 0, 1, (List.replicate (Int.toNat (4098 + (r1 : Int))) (byt 0))⟩ : Frame)).1)).1).Seq)), r36]) Try.isAgg25 Try.sizeOf25 rfl (Pt.of (hst.cell 0 rfl) rfl) rfl ?_)
        refine s_yes 58 rfl (congrArg Value.bool (show (decide (((decF ((encF (⟨1, 0, 0, 1, (List.replicate (Int.toNat (4098 + (r1 : Int))) (byt 0))⟩ : Frame)).1)).2) = 0)) = true from (decide_eq_true (by rw [dec_enc (long_may (by omega))])))) (op_loadN (cs := [(.int .i64 1), (.int .i64 0), (.int .i64 0), (.int .i64 1), v25]) Try.isAgg25 Try.sizeOf25 rfl (Pt.of (hst.cell 3 rfl) rfl) rfl ?_)
        refine s_yes 58 rfl (congrArg Value.bool (show (decide (((decF ((encF (⟨1, 0, 0, 1, (List.replicate (Int.toNat (4098 + (r1 : Int))) (byt 0))⟩ : Frame)).1)).2) = 0)) = true from (decide_eq_true (by rw [dec_enc (long_may (by omega))])))) (op_call Try.call11 (evs_cons (v := (.agg #[(.int .i64 (((decF ((encF (⟨1, 0, 0, 1, (List.replicate (Int.toNat (4098 + (r1 : Int))) (byt 0))⟩ : Frame)).1)).1).Kind)), (.int .i64 (((decF ((encF (⟨1, 0, 0, 1, (List.replicate (Int.toNat (4098 + (r1 : Int))) (byt 0))⟩ : Frame)).1)).1).View)), (.int .i64 (((decF ((encF (⟨1, 0, 0, 1, (List.replicate (Int.toNat (4098 + (r1 : Int))) (byt 0))⟩ : Frame)).1)).1).Site)), (.int .i64 (((decF ((encF (⟨1, 0, 0, 1, (List.replicate (Int.toNat (4098 + (r1 : Int))) (byt 0))⟩ : Frame)).1)).1).Seq)), r36])) rfl (evs_cons (v := (.agg #[(.int .i64 1), (.int .i64 0), (.int .i64 0), (.int .i64 1), v25])) rfl evs_nil)) (c_fSame (w0 := w46) (f := ((decF ((encF (⟨1, 0, 0, 1, (List.replicate (Int.toNat (4098 + (r1 : Int))) (byt 0))⟩ : Frame)).1)).1)) (v_f_Body := r36) (h_f_Body := (hst.sl 1 rfl)) (g := (⟨1, 0, 0, 1, (List.replicate (Int.toNat (4098 + (r1 : Int))) (byt 0))⟩ : Frame)) (v_g_Body := v25) (h_g_Body := (hst.sl 4 rfl))) ?_)
        rintro _ w47 ⟨rfl, hcall⟩
        refine ⟨_, rfl, ?_⟩
        have hst : St w0 w47 [.blk g38 25 #[(.int .i64 (((decF ((encF (⟨1, 0, 0, 1, (List.replicate (Int.toNat (4098 + (r1 : Int))) (byt 0))⟩ : Frame)).1)).1).Kind)), (.int .i64 (((decF ((encF (⟨1, 0, 0, 1, (List.replicate (Int.toNat (4098 + (r1 : Int))) (byt 0))⟩ : Frame)).1)).1).View)), (.int .i64 (((decF ((encF (⟨1, 0, 0, 1, (List.replicate (Int.toNat (4098 + (r1 : Int))) (byt 0))⟩ : Frame)).1)).1).Site)), (.int .i64 (((decF ((encF (⟨1, 0, 0, 1, (List.replicate (Int.toNat (4098 + (r1 : Int))) (byt 0))⟩ : Frame)).1)).1).Seq)), r36], rowT 5 u8E r36 ((decF ((encF (⟨1, 0, 0, 1, (List.replicate (Int.toNat (4098 + (r1 : Int))) (byt 0))⟩ : Frame)).1)).1.Body), rowT 5 u8E r30 ((encF (⟨1, 0, 0, 1, (List.replicate (Int.toNat (4098 + (r1 : Int))) (byt 0))⟩ : Frame)).1), .blk g27 25 #[(.int .i64 1), (.int .i64 0), (.int .i64 0), (.int .i64 1), v25], rowT 5 u8E v25 (List.replicate (Int.toNat (4098 + (r1 : Int))) (byt 0))] := hst.call hcall
        refine s_cons (op_pick_t (.bool (decide (((decF ((encF (⟨1, 0, 0, 1, (List.replicate (Int.toNat (4098 + (r1 : Int))) (byt 0))⟩ : Frame)).1)).1) = (⟨1, 0, 0, 1, (List.replicate (Int.toNat (4098 + (r1 : Int))) (byt 0))⟩ : Frame)))) (congrArg Value.bool (show (decide (((decF ((encF (⟨1, 0, 0, 1, (List.replicate (Int.toNat (4098 + (r1 : Int))) (byt 0))⟩ : Frame)).1)).2) = 0)) = true from (decide_eq_true (by rw [dec_enc (long_may (by omega))])))) rfl ?_)
        refine s_cons (op_move (.bool (decide (((decF ((encF (⟨1, 0, 0, 1, (List.replicate (Int.toNat (4098 + (r1 : Int))) (byt 0))⟩ : Frame)).1)).1) = (⟨1, 0, 0, 1, (List.replicate (Int.toNat (4098 + (r1 : Int))) (byt 0))⟩ : Frame)))) rfl ?_)
        refine s_yes 63 rfl (congrArg Value.bool (show (decide (((decF ((encF (⟨1, 0, 0, 1, (List.replicate (Int.toNat (4098 + (r1 : Int))) (byt 0))⟩ : Frame)).1)).1) = (⟨1, 0, 0, 1, (List.replicate (Int.toNat (4098 + (r1 : Int))) (byt 0))⟩ : Frame))) = true from (decide_eq_true (by rw [dec_enc (long_may (by omega))])))) (op_move r30 rfl ?_)
        refine s_yes 63 rfl (congrArg Value.bool (show (decide (((decF ((encF (⟨1, 0, 0, 1, (List.replicate (Int.toNat (4098 + (r1 : Int))) (byt 0))⟩ : Frame)).1)).1) = (⟨1, 0, 0, 1, (List.replicate (Int.toNat (4098 + (r1 : Int))) (byt 0))⟩ : Frame))) = true from (decide_eq_true (by rw [dec_enc (long_may (by omega))])))) (op_len (E := u8E) (xs := (encF (⟨1, 0, 0, 1, (List.replicate (Int.toNat (4098 + (r1 : Int))) (byt 0))⟩ : Frame)).1) Try.underlying23 rfl (hst.sl 2 rfl) ?_)
        refine s_yes 63 rfl (congrArg Value.bool (show (decide (((decF ((encF (⟨1, 0, 0, 1, (List.replicate (Int.toNat (4098 + (r1 : Int))) (byt 0))⟩ : Frame)).1)).1) = (⟨1, 0, 0, 1, (List.replicate (Int.toNat (4098 + (r1 : Int))) (byt 0))⟩ : Frame))) = true from (decide_eq_true (by rw [dec_enc (long_may (by omega))])))) (op_move (.int .i64 1) rfl ?_)
        refine s_yes 63 rfl (congrArg Value.bool (show (decide (((decF ((encF (⟨1, 0, 0, 1, (List.replicate (Int.toNat (4098 + (r1 : Int))) (byt 0))⟩ : Frame)).1)).1) = (⟨1, 0, 0, 1, (List.replicate (Int.toNat (4098 + (r1 : Int))) (byt 0))⟩ : Frame))) = true from (decide_eq_true (by rw [dec_enc (long_may (by omega))])))) (op_add (k := .i64) (a := 7) (b := 1) (7 + 1) rfl rfl (xi64 (by omega) (by omega)) ?_)
        refine s_yes 63 rfl (congrArg Value.bool (show (decide (((decF ((encF (⟨1, 0, 0, 1, (List.replicate (Int.toNat (4098 + (r1 : Int))) (byt 0))⟩ : Frame)).1)).1) = (⟨1, 0, 0, 1, (List.replicate (Int.toNat (4098 + (r1 : Int))) (byt 0))⟩ : Frame))) = true from (decide_eq_true (by rw [dec_enc (long_may (by omega))])))) (op_move (.int .i64 (4098 + (r1 : Int))) rfl ?_)
        refine s_yes 63 rfl (congrArg Value.bool (show (decide (((decF ((encF (⟨1, 0, 0, 1, (List.replicate (Int.toNat (4098 + (r1 : Int))) (byt 0))⟩ : Frame)).1)).1) = (⟨1, 0, 0, 1, (List.replicate (Int.toNat (4098 + (r1 : Int))) (byt 0))⟩ : Frame))) = true from (decide_eq_true (by rw [dec_enc (long_may (by omega))])))) (op_add (k := .i64) (a := (7 + 1)) (b := (4098 + (r1 : Int))) ((7 + 1) + (4098 + (r1 : Int))) rfl rfl (xi64 (by omega) (by omega)) ?_)
        refine s_yes 63 rfl (congrArg Value.bool (show (decide (((decF ((encF (⟨1, 0, 0, 1, (List.replicate (Int.toNat (4098 + (r1 : Int))) (byt 0))⟩ : Frame)).1)).1) = (⟨1, 0, 0, 1, (List.replicate (Int.toNat (4098 + (r1 : Int))) (byt 0))⟩ : Frame))) = true from (decide_eq_true (by rw [dec_enc (long_may (by omega))])))) (op_eql (k := .i64) (a := (((encF (⟨1, 0, 0, 1, (List.replicate (Int.toNat (4098 + (r1 : Int))) (byt 0))⟩ : Frame)).1).length : Int)) (b := ((7 + 1) + (4098 + (r1 : Int)))) rfl rfl ?_)
        refine s_cons (op_pick_t (.bool (decide ((((encF (⟨1, 0, 0, 1, (List.replicate (Int.toNat (4098 + (r1 : Int))) (byt 0))⟩ : Frame)).1).length : Int) = ((7 + 1) + (4098 + (r1 : Int)))))) (congrArg Value.bool (show (decide (((decF ((encF (⟨1, 0, 0, 1, (List.replicate (Int.toNat (4098 + (r1 : Int))) (byt 0))⟩ : Frame)).1)).1) = (⟨1, 0, 0, 1, (List.replicate (Int.toNat (4098 + (r1 : Int))) (byt 0))⟩ : Frame))) = true from (decide_eq_true (by rw [dec_enc (long_may (by omega))])))) rfl ?_)
        refine s_cons (op_assign (.bool (decide ((((encF (⟨1, 0, 0, 1, (List.replicate (Int.toNat (4098 + (r1 : Int))) (byt 0))⟩ : Frame)).1).length : Int) = ((7 + 1) + (4098 + (r1 : Int)))))) rfl ?_)
        refine s_nil ?_
        refine then_n ?_
        refine cE_ret ?_
        refine post_r _ (res1 (v := (.bool true)) (congrArg Value.bool (show (decide ((((encF (⟨1, 0, 0, 1, (List.replicate (Int.toNat (4098 + (r1 : Int))) (byt 0))⟩ : Frame)).1).length : Int) = ((7 + 1) + (4098 + (r1 : Int))))) = true from (decide_eq_true (by rw [long_len (by omega), put_len_le (by omega)]; omega))))) ?_
        exact ⟨rfl, hst.bare⟩

end Go.Proofs.Ytfljkaigfmedeaa
