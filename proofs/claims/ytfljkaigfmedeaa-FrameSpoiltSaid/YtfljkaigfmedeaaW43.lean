/- the law FrameSpoilt -/
import Derived.Test.YtfljkaigfmedeaaW40
import Derived.Test.YtfljkaigfmedeaaW10
import Derived.Test.YtfljkaigfmedeaaW11
import Derived.Test.YtfljkaigfmedeaaW12
import Derived.Test.YtfljkaigfmedeaaW13
import Derived.Test.YtfljkaigfmedeaaW14
import Derived.Test.YtfljkaigfmedeaaW15
import Derived.Test.YtfljkaigfmedeaaW16
import Derived.Test.YtfljkaigfmedeaaW17
import Derived.Test.YtfljkaigfmedeaaW18
import Derived.Test.YtfljkaigfmedeaaW19
import Derived.Test.YtfljkaigfmedeaaW20
import Derived.Test.YtfljkaigfmedeaaW21
import Derived.Test.YtfljkaigfmedeaaW22
import Derived.Test.YtfljkaigfmedeaaW23
namespace Go.Proofs.Ytfljkaigfmedeaa
open Go.RowKit

set_option maxHeartbeats 4000000 in
theorem c_FrameSpoilt (w0 : World) (f : Frame) (v_f_Body : Value) (h_f_Body : Sl w0 u8E v_f_Body f.Body) (at_ : Int) (turn : UInt8) (hf : f.ok) (at_0 : -9223372036854775808 ≤ at_) (at_1 : at_ ≤ 9223372036854775807) :
    Calls Try.prog 5 #[(.agg #[(.int .i64 f.Kind), (.int .i64 f.View), (.int .i64 f.Site), (.int .i64 f.Seq), v_f_Body]), (.int .i64 at_), (.int .u8 (turn.toNat : Int))] w0 fun e w' => e = .returned (.bool true) ∧ St w0 w' [] := by
  refine calls_E (n := 113) (ts := [6]) Try.func5 rfl rfl rfl (by simp) ?_
  have hst := St.start w0
  refine cE_seq ?_
  refine cE_region rfl ?_
  refine s_cons (op_box (v := (.agg #[(.int .i64 f.Kind), (.int .i64 f.View), (.int .i64 f.Site), (.int .i64 f.Seq), v_f_Body])) (cs := #[(.int .i64 f.Kind), (.int .i64 f.View), (.int .i64 f.Site), (.int .i64 f.Seq), v_f_Body]) hst rfl rfl (fun g1 w2 hst _ => ?_))
  replace hst : St w0 w2 [.blk g1 25 #[(.int .i64 f.Kind), (.int .i64 f.View), (.int .i64 f.Site), (.int .i64 f.Seq), v_f_Body]] := hst
  refine s_cons (op_assign (.bool false) rfl ?_)
  refine s_nil ?_
  refine then_n ?_
  refine cE_seq ?_
  refine cE_seq ?_
  refine cE_region rfl ?_
  refine s_cons (op_fieldAddr (s := 0) Try.underlying25 rfl rfl Try.sizeOf23 rfl ?_)
  refine s_cons (op_load1 (u := v_f_Body) Try.isAgg23 rfl ((hst.cell 0 rfl).drop 4) ?_)
  refine s_cons (op_len (E := u8E) (xs := f.Body) Try.underlying23 rfl h_f_Body ?_)
  refine s_cons (op_gtr (k := .i64) (a := (f.Body.length : Int)) (b := 100) rfl rfl ?_)
  refine s_cons (op_move (.bool (decide (100 < (f.Body.length : Int)))) rfl ?_)
  rcases Bool.eq_false_or_eq_true (decide (100 < (f.Body.length : Int))) with b3 | b3
  · have c4 : 100 < (f.Body.length : Int) := of_decide_eq_true b3
    refine s_no 23 rfl (congrArg Value.bool b3) ?_
    refine s_no 23 rfl (congrArg Value.bool b3) ?_
    refine s_no 23 rfl (congrArg Value.bool b3) ?_
    refine s_cons (op_pick_t (.bool true) (congrArg Value.bool b3) rfl ?_)
    refine s_nil ?_
    refine then_n ?_
    refine cE_cond true rfl (fun _ => ?_) (fun h => by cases h)
    refine cE_seq ?_
    refine cE_region rfl ?_
    refine s_cons (op_call Try.call9 evs_nil (c_told13 (w0 := w2)) ?_)
    rintro _ w5 ⟨rfl, hcall⟩
    refine ⟨_, rfl, ?_⟩
    have hst : St w0 w5 [.blk g1 25 #[(.int .i64 f.Kind), (.int .i64 f.View), (.int .i64 f.Site), (.int .i64 f.Seq), v_f_Body]] := hst.call hcall
    refine s_cons (op_assign (.bool true) rfl ?_)
    refine s_nil ?_
    refine then_n ?_
    refine cE_ret ?_
    refine then_r ?_
    refine post_r _ (res1 (v := (.bool true)) rfl) ?_
    exact ⟨rfl, hst.bare⟩
  · have c6 : ¬ (100 < (f.Body.length : Int)) := of_decide_eq_false b3
    refine s_yes 23 rfl (congrArg Value.bool b3) (op_loadN (cs := [(.int .i64 f.Kind), (.int .i64 f.View), (.int .i64 f.Site), (.int .i64 f.Seq), v_f_Body]) Try.isAgg25 Try.sizeOf25 rfl (Pt.of (hst.cell 0 rfl) rfl) rfl ?_)
    refine s_yes 23 rfl (congrArg Value.bool b3) (op_call Try.call15 (evs_cons (v := (.agg #[(.int .i64 f.Kind), (.int .i64 f.View), (.int .i64 f.Site), (.int .i64 f.Seq), v_f_Body])) rfl evs_nil) (c_fMay (w0 := w2) (f := f) (v_f_Body := v_f_Body) (h_f_Body := (h_f_Body.below hst.below))) ?_)
    rintro _ w7 ⟨rfl, hcall⟩
    refine ⟨_, rfl, ?_⟩
    have hst : St w0 w7 [.blk g1 25 #[(.int .i64 f.Kind), (.int .i64 f.View), (.int .i64 f.Site), (.int .i64 f.Seq), v_f_Body]] := hst.call hcall
    refine s_yes 23 rfl (congrArg Value.bool b3) (op_not (b := mayF f) rfl ?_)
    refine s_cons (op_pick_f (.bool (!(mayF f))) (congrArg Value.bool b3) rfl ?_)
    refine s_nil ?_
    refine then_n ?_
    rcases Bool.eq_false_or_eq_true (mayF f) with b8 | b8
    · have hmf := b8
      have hel := enc_len hmf
      have hem := enc_max (f := f) (by omega)
      have htu := u8_lt turn
      refine cE_cond false (congrArg Value.bool (congrArg (! ·) b8)) (fun h => by cases h) (fun _ => ?_)
      refine cE_skip ?_
      refine then_n ?_
      refine cE_seq ?_
      refine cE_region rfl ?_
      refine s_cons (op_loadN (cs := [(.int .i64 f.Kind), (.int .i64 f.View), (.int .i64 f.Site), (.int .i64 f.Seq), v_f_Body]) Try.isAgg25 Try.sizeOf25 rfl (Pt.of (hst.cell 0 rfl) rfl) rfl ?_)
      refine s_cons (op_call Try.call8 (evs_cons (v := (.agg #[(.int .i64 f.Kind), (.int .i64 f.View), (.int .i64 f.Site), (.int .i64 f.Seq), v_f_Body])) rfl evs_nil) (c_fPut (w0 := w7) (f := f) (v_f_Body := v_f_Body) (h_f_Body := (h_f_Body.below hst.below)) (hf := hf)) ?_)
      rintro _ w10 ⟨r9, rfl, hcall⟩
      refine ⟨_, rfl, ?_⟩
      have hst : St w0 w10 [rowT 5 u8E r9 ((encF f).1), .blk g1 25 #[(.int .i64 f.Kind), (.int .i64 f.View), (.int .i64 f.Site), (.int .i64 f.Seq), v_f_Body]] := hst.call hcall
      refine s_cons (op_move (.tuple #[r9, (.int .i64 ((encF f).2))]) rfl ?_)
      refine s_cons (op_extract r9 rfl rfl ?_)
      refine s_cons (op_extract (.int .i64 ((encF f).2)) rfl rfl ?_)
      refine s_cons (op_assign r9 rfl ?_)
      refine s_cons (op_assign (.int .i64 ((encF f).2)) rfl ?_)
      refine s_nil ?_
      refine then_n ?_
      refine cE_seq ?_
      refine cE_region rfl ?_
      refine s_cons (op_move r9 rfl ?_)
      refine s_cons (op_call Try.call10 (evs_cons (v := r9) rfl evs_nil) (c_fGet (w0 := w10) (v_b := r9) (b := (encF f).1) (h_b := (hst.sl 0 rfl)) (hl := (by first | omega | (simp; omega)))) ?_)
      rintro _ w12 ⟨r11, rfl, hcall⟩
      refine ⟨_, rfl, ?_⟩
      have hst : St w0 w12 [rowT 5 u8E r11 ((decF ((encF f).1)).1.Body), rowT 5 u8E r9 ((encF f).1), .blk g1 25 #[(.int .i64 f.Kind), (.int .i64 f.View), (.int .i64 f.Site), (.int .i64 f.Seq), v_f_Body]] := hst.call hcall
      refine s_cons (op_move (.tuple #[(.agg #[(.int .i64 (((decF ((encF f).1)).1).Kind)), (.int .i64 (((decF ((encF f).1)).1).View)), (.int .i64 (((decF ((encF f).1)).1).Site)), (.int .i64 (((decF ((encF f).1)).1).Seq)), r11]), (.int .i64 ((decF ((encF f).1)).2))]) rfl ?_)
      refine s_cons (op_extract (.agg #[(.int .i64 (((decF ((encF f).1)).1).Kind)), (.int .i64 (((decF ((encF f).1)).1).View)), (.int .i64 (((decF ((encF f).1)).1).Site)), (.int .i64 (((decF ((encF f).1)).1).Seq)), r11]) rfl rfl ?_)
      refine s_cons (op_extract (.int .i64 ((decF ((encF f).1)).2)) rfl rfl ?_)
      refine s_cons (op_alloc (cs := #[(.int .i64 0), (.int .i64 0), (.int .i64 0), (.int .i64 0), (.slice none 0 0)]) hst Try.zeroValue25 rfl (fun g13 w14 hst _ => ?_))
      replace hst : St w0 w14 [.blk g13 25 #[(.int .i64 0), (.int .i64 0), (.int .i64 0), (.int .i64 0), (.slice none 0 0)], rowT 5 u8E r11 ((decF ((encF f).1)).1.Body), rowT 5 u8E r9 ((encF f).1), .blk g1 25 #[(.int .i64 f.Kind), (.int .i64 f.View), (.int .i64 f.Site), (.int .i64 f.Seq), v_f_Body]] := hst
      refine s_cons0 (op_storeAll hst 0 rfl Try.sizeOf25 rfl rfl rfl rfl (oneL_all (l := [(.int .i64 (((decF ((encF f).1)).1).Kind)), (.int .i64 (((decF ((encF f).1)).1).View)), (.int .i64 (((decF ((encF f).1)).1).Site)), (.int .i64 (((decF ((encF f).1)).1).Seq)), r11]) ⟨rfl, rfl, rfl, rfl, (sl_one (show Sl _ u8E r11 (((decF ((encF f).1)).1).Body) from (hst.sl 1 rfl))), trivial⟩) (fun w15 hst => ?_))
      replace hst : St w0 w15 [.blk g13 25 #[(.int .i64 (((decF ((encF f).1)).1).Kind)), (.int .i64 (((decF ((encF f).1)).1).View)), (.int .i64 (((decF ((encF f).1)).1).Site)), (.int .i64 (((decF ((encF f).1)).1).Seq)), r11], rowT 5 u8E r11 ((decF ((encF f).1)).1.Body), rowT 5 u8E r9 ((encF f).1), .blk g1 25 #[(.int .i64 f.Kind), (.int .i64 f.View), (.int .i64 f.Site), (.int .i64 f.Seq), v_f_Body]] := hst
      refine s_cons (op_assign (.int .i64 ((decF ((encF f).1)).2)) rfl ?_)
      refine s_nil ?_
      refine then_n ?_
      refine cE_seq ?_
      refine cE_seq ?_
      refine cE_region rfl ?_
      refine s_cons (op_move (.int .i64 ((encF f).2)) rfl ?_)
      refine s_cons (op_neq (k := .i64) (a := (encF f).2) (b := 0) rfl rfl ?_)
      refine s_cons (op_move (.bool (!decide (((encF f).2) = 0))) rfl ?_)
      refine s_yes 41 rfl (congrArg Value.bool (congrArg (! ·) (show (decide (((encF f).2) = 0)) = true from (decide_eq_true (enc_code hmf))))) (op_move (.int .i64 ((decF ((encF f).1)).2)) rfl ?_)
      refine s_yes 41 rfl (congrArg Value.bool (congrArg (! ·) (show (decide (((encF f).2) = 0)) = true from (decide_eq_true (enc_code hmf))))) (op_neq (k := .i64) (a := (decF ((encF f).1)).2) (b := 0) rfl rfl ?_)
      refine s_cons (op_pick_f (.bool (!decide (((decF ((encF f).1)).2) = 0))) (congrArg Value.bool (congrArg (! ·) (show (decide (((encF f).2) = 0)) = true from (decide_eq_true (enc_code hmf))))) rfl ?_)
      refine s_cons (op_move (.bool (!decide (((decF ((encF f).1)).2) = 0))) rfl ?_)
      refine s_yes 45 rfl (congrArg Value.bool (congrArg (! ·) (show (decide (((decF ((encF f).1)).2) = 0)) = true from (decide_eq_true (by rw [dec_enc hmf]))))) (op_loadN (cs := [(.int .i64 (((decF ((encF f).1)).1).Kind)), (.int .i64 (((decF ((encF f).1)).1).View)), (.int .i64 (((decF ((encF f).1)).1).Site)), (.int .i64 (((decF ((encF f).1)).1).Seq)), r11]) Try.isAgg25 Try.sizeOf25 rfl (Pt.of (hst.cell 0 rfl) rfl) rfl ?_)
      refine s_yes 45 rfl (congrArg Value.bool (congrArg (! ·) (show (decide (((decF ((encF f).1)).2) = 0)) = true from (decide_eq_true (by rw [dec_enc hmf]))))) (op_loadN (cs := [(.int .i64 f.Kind), (.int .i64 f.View), (.int .i64 f.Site), (.int .i64 f.Seq), v_f_Body]) Try.isAgg25 Try.sizeOf25 rfl (Pt.of (hst.cell 3 rfl) rfl) rfl ?_)
      refine s_yes 45 rfl (congrArg Value.bool (congrArg (! ·) (show (decide (((decF ((encF f).1)).2) = 0)) = true from (decide_eq_true (by rw [dec_enc hmf]))))) (op_call Try.call11 (evs_cons (v := (.agg #[(.int .i64 (((decF ((encF f).1)).1).Kind)), (.int .i64 (((decF ((encF f).1)).1).View)), (.int .i64 (((decF ((encF f).1)).1).Site)), (.int .i64 (((decF ((encF f).1)).1).Seq)), r11])) rfl (evs_cons (v := (.agg #[(.int .i64 f.Kind), (.int .i64 f.View), (.int .i64 f.Site), (.int .i64 f.Seq), v_f_Body])) rfl evs_nil)) (c_fSame (w0 := w15) (f := ((decF ((encF f).1)).1)) (v_f_Body := r11) (h_f_Body := (hst.sl 1 rfl)) (g := f) (v_g_Body := v_f_Body) (h_g_Body := (h_f_Body.below hst.below))) ?_)
      rintro _ w16 ⟨rfl, hcall⟩
      refine ⟨_, rfl, ?_⟩
      have hst : St w0 w16 [.blk g13 25 #[(.int .i64 (((decF ((encF f).1)).1).Kind)), (.int .i64 (((decF ((encF f).1)).1).View)), (.int .i64 (((decF ((encF f).1)).1).Site)), (.int .i64 (((decF ((encF f).1)).1).Seq)), r11], rowT 5 u8E r11 ((decF ((encF f).1)).1.Body), rowT 5 u8E r9 ((encF f).1), .blk g1 25 #[(.int .i64 f.Kind), (.int .i64 f.View), (.int .i64 f.Site), (.int .i64 f.Seq), v_f_Body]] := hst.call hcall
      refine s_yes 45 rfl (congrArg Value.bool (congrArg (! ·) (show (decide (((decF ((encF f).1)).2) = 0)) = true from (decide_eq_true (by rw [dec_enc hmf]))))) (op_not (b := decide (((decF ((encF f).1)).1) = f)) rfl ?_)
      refine s_cons (op_pick_f (.bool (!(decide (((decF ((encF f).1)).1) = f)))) (congrArg Value.bool (congrArg (! ·) (show (decide (((decF ((encF f).1)).2) = 0)) = true from (decide_eq_true (by rw [dec_enc hmf]))))) rfl ?_)
      refine s_cons (op_move (.bool (!(decide (((decF ((encF f).1)).1) = f)))) rfl ?_)
      refine s_yes 51 rfl (congrArg Value.bool (congrArg (! ·) (show (decide (((decF ((encF f).1)).1) = f)) = true from (decide_eq_true (by rw [dec_enc hmf]))))) (op_move r9 rfl ?_)
      refine s_yes 51 rfl (congrArg Value.bool (congrArg (! ·) (show (decide (((decF ((encF f).1)).1) = f)) = true from (decide_eq_true (by rw [dec_enc hmf]))))) (op_len (E := u8E) (xs := (encF f).1) Try.underlying23 rfl (hst.sl 2 rfl) ?_)
      refine s_yes 51 rfl (congrArg Value.bool (congrArg (! ·) (show (decide (((decF ((encF f).1)).1) = f)) = true from (decide_eq_true (by rw [dec_enc hmf]))))) (op_lss (k := .i64) (a := (((encF f).1).length : Int)) (b := 7) rfl rfl ?_)
      refine s_cons (op_pick_f (.bool (decide ((((encF f).1).length : Int) < 7))) (congrArg Value.bool (congrArg (! ·) (show (decide (((decF ((encF f).1)).1) = f)) = true from (decide_eq_true (by rw [dec_enc hmf]))))) rfl ?_)
      refine s_nil ?_
      refine then_n ?_
      refine cE_cond false (congrArg Value.bool (show (decide ((((encF f).1).length : Int) < 7)) = false from (decide_eq_false (by omega)))) (fun h => by cases h) (fun _ => ?_)
      refine cE_skip ?_
      refine then_n ?_
      refine cE_seq ?_
      refine cE_region rfl ?_
      refine s_cons (op_move (.int .i64 at_) rfl ?_)
      refine s_cons (op_conv (k := .i64) (a := at_) (at_ % 18446744073709551616) Try.underlying22 (by rw [Try.underlying3]; rfl) rfl (IntKind.wrap_u64 _) ?_)
      refine s_cons (op_move r9 rfl ?_)
      refine s_cons (op_len (E := u8E) (xs := (encF f).1) Try.underlying23 rfl (hst.sl 2 rfl) ?_)
      refine s_cons (op_conv (k := .i64) (a := (((encF f).1).length : Int)) (((encF f).1).length : Int) Try.underlying22 (by rw [Try.underlying3]; rfl) rfl (xu64 (by omega) (by omega)) ?_)
      obtain ⟨k, hk, hkl⟩ := rem_nat (a := (at_ % 18446744073709551616)) (b := (((encF f).1).length : Int)) (by omega) (by omega)
      refine s_cons (op_rem (k := .u64) (a := (at_ % 18446744073709551616)) (b := (((encF f).1).length : Int)) (k : Int) rfl rfl (by omega) hk ?_)
      refine s_cons (op_conv (k := .u64) (a := (k : Int)) (k : Int) Try.underlying3 (by rw [Try.underlying22]; rfl) rfl (xi64 (by omega) (by omega)) ?_)
      refine s_cons (op_assign (.int .i64 (k : Int)) rfl ?_)
      refine s_nil ?_
      refine then_n ?_
      refine cE_seq ?_
      refine cE_region rfl ?_
      refine s_cons (op_move r9 rfl ?_)
      refine s_cons (op_move (.int .i64 (k : Int)) rfl ?_)
      refine s_cons (op_slice_toN k (E := u8E) (xs := (encF f).1) Try.underlying23 Try.sizeOf5 rfl (hst.sl 2 rfl) rfl (by omega) (by first | omega | (simp; omega)) (fun v17 hs18 => ?_))
      refine s_cons (op_call Try.call10 (evs_cons (v := v17) rfl evs_nil) (c_fGet (w0 := w16) (v_b := v17) (b := (((encF f).1).take k)) (h_b := hs18) (hl := (by first | omega | (simp; omega)))) ?_)
      rintro _ w20 ⟨r19, rfl, hcall⟩
      refine ⟨_, rfl, ?_⟩
      have hst : St w0 w20 [rowT 5 u8E r19 ((decF (((encF f).1).take k)).1.Body), .blk g13 25 #[(.int .i64 (((decF ((encF f).1)).1).Kind)), (.int .i64 (((decF ((encF f).1)).1).View)), (.int .i64 (((decF ((encF f).1)).1).Site)), (.int .i64 (((decF ((encF f).1)).1).Seq)), r11], rowT 5 u8E r11 ((decF ((encF f).1)).1.Body), rowT 5 u8E r9 ((encF f).1), .blk g1 25 #[(.int .i64 f.Kind), (.int .i64 f.View), (.int .i64 f.Site), (.int .i64 f.Seq), v_f_Body]] := hst.call hcall
      refine s_cons (op_move (.tuple #[(.agg #[(.int .i64 (((decF (((encF f).1).take k)).1).Kind)), (.int .i64 (((decF (((encF f).1).take k)).1).View)), (.int .i64 (((decF (((encF f).1).take k)).1).Site)), (.int .i64 (((decF (((encF f).1).take k)).1).Seq)), r19]), (.int .i64 ((decF (((encF f).1).take k)).2))]) rfl ?_)
      refine s_cons (op_extract (.agg #[(.int .i64 (((decF (((encF f).1).take k)).1).Kind)), (.int .i64 (((decF (((encF f).1).take k)).1).View)), (.int .i64 (((decF (((encF f).1).take k)).1).Site)), (.int .i64 (((decF (((encF f).1).take k)).1).Seq)), r19]) rfl rfl ?_)
      refine s_cons (op_extract (.int .i64 ((decF (((encF f).1).take k)).2)) rfl rfl ?_)
      refine s_cons (op_alloc (cs := #[(.int .i64 0), (.int .i64 0), (.int .i64 0), (.int .i64 0), (.slice none 0 0)]) hst Try.zeroValue25 rfl (fun g21 w22 hst _ => ?_))
      replace hst : St w0 w22 [.blk g21 25 #[(.int .i64 0), (.int .i64 0), (.int .i64 0), (.int .i64 0), (.slice none 0 0)], rowT 5 u8E r19 ((decF (((encF f).1).take k)).1.Body), .blk g13 25 #[(.int .i64 (((decF ((encF f).1)).1).Kind)), (.int .i64 (((decF ((encF f).1)).1).View)), (.int .i64 (((decF ((encF f).1)).1).Site)), (.int .i64 (((decF ((encF f).1)).1).Seq)), r11], rowT 5 u8E r11 ((decF ((encF f).1)).1.Body), rowT 5 u8E r9 ((encF f).1), .blk g1 25 #[(.int .i64 f.Kind), (.int .i64 f.View), (.int .i64 f.Site), (.int .i64 f.Seq), v_f_Body]] := hst
      refine s_cons0 (op_storeAll hst 0 rfl Try.sizeOf25 rfl rfl rfl rfl (oneL_all (l := [(.int .i64 (((decF (((encF f).1).take k)).1).Kind)), (.int .i64 (((decF (((encF f).1).take k)).1).View)), (.int .i64 (((decF (((encF f).1).take k)).1).Site)), (.int .i64 (((decF (((encF f).1).take k)).1).Seq)), r19]) ⟨rfl, rfl, rfl, rfl, (sl_one (show Sl _ u8E r19 (((decF (((encF f).1).take k)).1).Body) from (hst.sl 1 rfl))), trivial⟩) (fun w23 hst => ?_))
      replace hst : St w0 w23 [.blk g21 25 #[(.int .i64 (((decF (((encF f).1).take k)).1).Kind)), (.int .i64 (((decF (((encF f).1).take k)).1).View)), (.int .i64 (((decF (((encF f).1).take k)).1).Site)), (.int .i64 (((decF (((encF f).1).take k)).1).Seq)), r19], rowT 5 u8E r19 ((decF (((encF f).1).take k)).1.Body), .blk g13 25 #[(.int .i64 (((decF ((encF f).1)).1).Kind)), (.int .i64 (((decF ((encF f).1)).1).View)), (.int .i64 (((decF ((encF f).1)).1).Site)), (.int .i64 (((decF ((encF f).1)).1).Seq)), r11], rowT 5 u8E r11 ((decF ((encF f).1)).1.Body), rowT 5 u8E r9 ((encF f).1), .blk g1 25 #[(.int .i64 f.Kind), (.int .i64 f.View), (.int .i64 f.Site), (.int .i64 f.Seq), v_f_Body]] := hst
      refine s_cons (op_assign (.int .i64 ((decF (((encF f).1).take k)).2)) rfl ?_)
      refine s_nil ?_
      refine then_n ?_
      refine cE_seq ?_
      refine cE_region rfl ?_
      refine s_cons (op_buildSlice (E := u8E) [] hst Try.underlying23 Try.sizeOf5 Try.zeroValue5 evp_nil parts_nil rfl (by decide) (fun v24 w25 hst => ?_))
      replace hst : St w0 w25 [rowT 5 u8E v24 ([]), .blk g21 25 #[(.int .i64 (((decF (((encF f).1).take k)).1).Kind)), (.int .i64 (((decF (((encF f).1).take k)).1).View)), (.int .i64 (((decF (((encF f).1).take k)).1).Site)), (.int .i64 (((decF (((encF f).1).take k)).1).Seq)), r19], rowT 5 u8E r19 ((decF (((encF f).1).take k)).1.Body), .blk g13 25 #[(.int .i64 (((decF ((encF f).1)).1).Kind)), (.int .i64 (((decF ((encF f).1)).1).View)), (.int .i64 (((decF ((encF f).1)).1).Site)), (.int .i64 (((decF ((encF f).1)).1).Seq)), r11], rowT 5 u8E r11 ((decF ((encF f).1)).1.Body), rowT 5 u8E r9 ((encF f).1), .blk g1 25 #[(.int .i64 f.Kind), (.int .i64 f.View), (.int .i64 f.Site), (.int .i64 f.Seq), v_f_Body]] := hst
      refine s_cons (op_move r9 rfl ?_)
      refine s_cons (op_append (E := u8E) (xs := []) (ys := (encF f).1) (z := (.int .u8 0)) (bytes := 1) hst 0 rfl Try.underlying23 (by kernel_rfl) rfl rfl rfl (hst.sl 5 rfl) (by first | omega | (simp; omega)) (by first | omega | (simp; omega)) (fun v26 w27 hst => ?_))
      replace hst : St w0 w27 [rowT 5 u8E v26 ((encF f).1), .blk g21 25 #[(.int .i64 (((decF (((encF f).1).take k)).1).Kind)), (.int .i64 (((decF (((encF f).1).take k)).1).View)), (.int .i64 (((decF (((encF f).1).take k)).1).Site)), (.int .i64 (((decF (((encF f).1).take k)).1).Seq)), r19], rowT 5 u8E r19 ((decF (((encF f).1).take k)).1.Body), .blk g13 25 #[(.int .i64 (((decF ((encF f).1)).1).Kind)), (.int .i64 (((decF ((encF f).1)).1).View)), (.int .i64 (((decF ((encF f).1)).1).Site)), (.int .i64 (((decF ((encF f).1)).1).Seq)), r11], rowT 5 u8E r11 ((decF ((encF f).1)).1.Body), rowT 5 u8E r9 ((encF f).1), .blk g1 25 #[(.int .i64 f.Kind), (.int .i64 f.View), (.int .i64 f.Site), (.int .i64 f.Seq), v_f_Body]] := hst
      refine s_cons (op_move (.int .u8 (turn.toNat : Int)) rfl ?_)
      refine s_cons (op_buildSlice (E := u8E) [turn] hst Try.underlying23 Try.sizeOf5 Try.zeroValue5 (evp_cons (v := (.int .u8 (turn.toNat : Int))) rfl evp_nil) (parts_cons rfl parts_nil) rfl (by decide) (fun v28 w29 hst => ?_))
      replace hst : St w0 w29 [rowT 5 u8E v28 ([turn]), rowT 5 u8E v26 ((encF f).1), .blk g21 25 #[(.int .i64 (((decF (((encF f).1).take k)).1).Kind)), (.int .i64 (((decF (((encF f).1).take k)).1).View)), (.int .i64 (((decF (((encF f).1).take k)).1).Site)), (.int .i64 (((decF (((encF f).1).take k)).1).Seq)), r19], rowT 5 u8E r19 ((decF (((encF f).1).take k)).1.Body), .blk g13 25 #[(.int .i64 (((decF ((encF f).1)).1).Kind)), (.int .i64 (((decF ((encF f).1)).1).View)), (.int .i64 (((decF ((encF f).1)).1).Site)), (.int .i64 (((decF ((encF f).1)).1).Seq)), r11], rowT 5 u8E r11 ((decF ((encF f).1)).1.Body), rowT 5 u8E r9 ((encF f).1), .blk g1 25 #[(.int .i64 f.Kind), (.int .i64 f.View), (.int .i64 f.Site), (.int .i64 f.Seq), v_f_Body]] := hst
      refine s_cons (op_append (E := u8E) (xs := (encF f).1) (ys := [turn]) (z := (.int .u8 0)) (bytes := 1) hst 1 rfl Try.underlying23 (by kernel_rfl) rfl rfl rfl (hst.sl 0 rfl) (by first | omega | (simp; omega)) (by first | omega | (simp; omega)) (fun v30 w31 hst => ?_))
      replace hst : St w0 w31 [rowT 5 u8E v28 ([turn]), rowT 5 u8E v30 (((encF f).1) ++ ([turn])), .blk g21 25 #[(.int .i64 (((decF (((encF f).1).take k)).1).Kind)), (.int .i64 (((decF (((encF f).1).take k)).1).View)), (.int .i64 (((decF (((encF f).1).take k)).1).Site)), (.int .i64 (((decF (((encF f).1).take k)).1).Seq)), r19], rowT 5 u8E r19 ((decF (((encF f).1).take k)).1.Body), .blk g13 25 #[(.int .i64 (((decF ((encF f).1)).1).Kind)), (.int .i64 (((decF ((encF f).1)).1).View)), (.int .i64 (((decF ((encF f).1)).1).Site)), (.int .i64 (((decF ((encF f).1)).1).Seq)), r11], rowT 5 u8E r11 ((decF ((encF f).1)).1.Body), rowT 5 u8E r9 ((encF f).1), .blk g1 25 #[(.int .i64 f.Kind), (.int .i64 f.View), (.int .i64 f.Site), (.int .i64 f.Seq), v_f_Body]] := hst
      refine s_cons (op_call Try.call10 (evs_cons (v := v30) rfl evs_nil) (c_fGet (w0 := w31) (v_b := v30) (b := (((encF f).1) ++ ([turn]))) (h_b := (hst.sl 1 rfl)) (hl := (by first | omega | (simp; omega)))) ?_)
      rintro _ w33 ⟨r32, rfl, hcall⟩
      refine ⟨_, rfl, ?_⟩
      have hst : St w0 w33 [rowT 5 u8E r32 ((decF (((encF f).1) ++ ([turn]))).1.Body), rowT 5 u8E v28 ([turn]), rowT 5 u8E v30 (((encF f).1) ++ ([turn])), .blk g21 25 #[(.int .i64 (((decF (((encF f).1).take k)).1).Kind)), (.int .i64 (((decF (((encF f).1).take k)).1).View)), (.int .i64 (((decF (((encF f).1).take k)).1).Site)), (.int .i64 (((decF (((encF f).1).take k)).1).Seq)), r19], rowT 5 u8E r19 ((decF (((encF f).1).take k)).1.Body), .blk g13 25 #[(.int .i64 (((decF ((encF f).1)).1).Kind)), (.int .i64 (((decF ((encF f).1)).1).View)), (.int .i64 (((decF ((encF f).1)).1).Site)), (.int .i64 (((decF ((encF f).1)).1).Seq)), r11], rowT 5 u8E r11 ((decF ((encF f).1)).1.Body), rowT 5 u8E r9 ((encF f).1), .blk g1 25 #[(.int .i64 f.Kind), (.int .i64 f.View), (.int .i64 f.Site), (.int .i64 f.Seq), v_f_Body]] := hst.call hcall
      refine s_cons (op_move (.tuple #[(.agg #[(.int .i64 (((decF (((encF f).1) ++ ([turn]))).1).Kind)), (.int .i64 (((decF (((encF f).1) ++ ([turn]))).1).View)), (.int .i64 (((decF (((encF f).1) ++ ([turn]))).1).Site)), (.int .i64 (((decF (((encF f).1) ++ ([turn]))).1).Seq)), r32]), (.int .i64 ((decF (((encF f).1) ++ ([turn]))).2))]) rfl ?_)
      refine s_cons (op_extract (.agg #[(.int .i64 (((decF (((encF f).1) ++ ([turn]))).1).Kind)), (.int .i64 (((decF (((encF f).1) ++ ([turn]))).1).View)), (.int .i64 (((decF (((encF f).1) ++ ([turn]))).1).Site)), (.int .i64 (((decF (((encF f).1) ++ ([turn]))).1).Seq)), r32]) rfl rfl ?_)
      refine s_cons (op_extract (.int .i64 ((decF (((encF f).1) ++ ([turn]))).2)) rfl rfl ?_)
      refine s_cons (op_alloc (cs := #[(.int .i64 0), (.int .i64 0), (.int .i64 0), (.int .i64 0), (.slice none 0 0)]) hst Try.zeroValue25 rfl (fun g34 w35 hst _ => ?_))
      replace hst : St w0 w35 [.blk g34 25 #[(.int .i64 0), (.int .i64 0), (.int .i64 0), (.int .i64 0), (.slice none 0 0)], rowT 5 u8E r32 ((decF (((encF f).1) ++ ([turn]))).1.Body), rowT 5 u8E v28 ([turn]), rowT 5 u8E v30 (((encF f).1) ++ ([turn])), .blk g21 25 #[(.int .i64 (((decF (((encF f).1).take k)).1).Kind)), (.int .i64 (((decF (((encF f).1).take k)).1).View)), (.int .i64 (((decF (((encF f).1).take k)).1).Site)), (.int .i64 (((decF (((encF f).1).take k)).1).Seq)), r19], rowT 5 u8E r19 ((decF (((encF f).1).take k)).1.Body), .blk g13 25 #[(.int .i64 (((decF ((encF f).1)).1).Kind)), (.int .i64 (((decF ((encF f).1)).1).View)), (.int .i64 (((decF ((encF f).1)).1).Site)), (.int .i64 (((decF ((encF f).1)).1).Seq)), r11], rowT 5 u8E r11 ((decF ((encF f).1)).1.Body), rowT 5 u8E r9 ((encF f).1), .blk g1 25 #[(.int .i64 f.Kind), (.int .i64 f.View), (.int .i64 f.Site), (.int .i64 f.Seq), v_f_Body]] := hst
      refine s_cons0 (op_storeAll hst 0 rfl Try.sizeOf25 rfl rfl rfl rfl (oneL_all (l := [(.int .i64 (((decF (((encF f).1) ++ ([turn]))).1).Kind)), (.int .i64 (((decF (((encF f).1) ++ ([turn]))).1).View)), (.int .i64 (((decF (((encF f).1) ++ ([turn]))).1).Site)), (.int .i64 (((decF (((encF f).1) ++ ([turn]))).1).Seq)), r32]) ⟨rfl, rfl, rfl, rfl, (sl_one (show Sl _ u8E r32 (((decF (((encF f).1) ++ ([turn]))).1).Body) from (hst.sl 1 rfl))), trivial⟩) (fun w36 hst => ?_))
      replace hst : St w0 w36 [.blk g34 25 #[(.int .i64 (((decF (((encF f).1) ++ ([turn]))).1).Kind)), (.int .i64 (((decF (((encF f).1) ++ ([turn]))).1).View)), (.int .i64 (((decF (((encF f).1) ++ ([turn]))).1).Site)), (.int .i64 (((decF (((encF f).1) ++ ([turn]))).1).Seq)), r32], rowT 5 u8E r32 ((decF (((encF f).1) ++ ([turn]))).1.Body), rowT 5 u8E v28 ([turn]), rowT 5 u8E v30 (((encF f).1) ++ ([turn])), .blk g21 25 #[(.int .i64 (((decF (((encF f).1).take k)).1).Kind)), (.int .i64 (((decF (((encF f).1).take k)).1).View)), (.int .i64 (((decF (((encF f).1).take k)).1).Site)), (.int .i64 (((decF (((encF f).1).take k)).1).Seq)), r19], rowT 5 u8E r19 ((decF (((encF f).1).take k)).1.Body), .blk g13 25 #[(.int .i64 (((decF ((encF f).1)).1).Kind)), (.int .i64 (((decF ((encF f).1)).1).View)), (.int .i64 (((decF ((encF f).1)).1).Site)), (.int .i64 (((decF ((encF f).1)).1).Seq)), r11], rowT 5 u8E r11 ((decF ((encF f).1)).1.Body), rowT 5 u8E r9 ((encF f).1), .blk g1 25 #[(.int .i64 f.Kind), (.int .i64 f.View), (.int .i64 f.Site), (.int .i64 f.Seq), v_f_Body]] := hst
      refine s_cons (op_assign (.int .i64 ((decF (((encF f).1) ++ ([turn]))).2)) rfl ?_)
      refine s_nil ?_
      refine then_n ?_
      refine cE_seq ?_
      refine cE_region rfl ?_
      refine s_cons (op_buildSlice (E := u8E) [] hst Try.underlying23 Try.sizeOf5 Try.zeroValue5 evp_nil parts_nil rfl (by decide) (fun v37 w38 hst => ?_))
      replace hst : St w0 w38 [rowT 5 u8E v37 ([]), .blk g34 25 #[(.int .i64 (((decF (((encF f).1) ++ ([turn]))).1).Kind)), (.int .i64 (((decF (((encF f).1) ++ ([turn]))).1).View)), (.int .i64 (((decF (((encF f).1) ++ ([turn]))).1).Site)), (.int .i64 (((decF (((encF f).1) ++ ([turn]))).1).Seq)), r32], rowT 5 u8E r32 ((decF (((encF f).1) ++ ([turn]))).1.Body), rowT 5 u8E v28 ([turn]), rowT 5 u8E v30 (((encF f).1) ++ ([turn])), .blk g21 25 #[(.int .i64 (((decF (((encF f).1).take k)).1).Kind)), (.int .i64 (((decF (((encF f).1).take k)).1).View)), (.int .i64 (((decF (((encF f).1).take k)).1).Site)), (.int .i64 (((decF (((encF f).1).take k)).1).Seq)), r19], rowT 5 u8E r19 ((decF (((encF f).1).take k)).1.Body), .blk g13 25 #[(.int .i64 (((decF ((encF f).1)).1).Kind)), (.int .i64 (((decF ((encF f).1)).1).View)), (.int .i64 (((decF ((encF f).1)).1).Site)), (.int .i64 (((decF ((encF f).1)).1).Seq)), r11], rowT 5 u8E r11 ((decF ((encF f).1)).1.Body), rowT 5 u8E r9 ((encF f).1), .blk g1 25 #[(.int .i64 f.Kind), (.int .i64 f.View), (.int .i64 f.Site), (.int .i64 f.Seq), v_f_Body]] := hst
      refine s_cons (op_move r9 rfl ?_)
      refine s_cons (op_append (E := u8E) (xs := []) (ys := (encF f).1) (z := (.int .u8 0)) (bytes := 1) hst 0 rfl Try.underlying23 (by kernel_rfl) rfl rfl rfl (hst.sl 9 rfl) (by first | omega | (simp; omega)) (by first | omega | (simp; omega)) (fun v39 w40 hst => ?_))
      replace hst : St w0 w40 [rowT 5 u8E v39 ((encF f).1), .blk g34 25 #[(.int .i64 (((decF (((encF f).1) ++ ([turn]))).1).Kind)), (.int .i64 (((decF (((encF f).1) ++ ([turn]))).1).View)), (.int .i64 (((decF (((encF f).1) ++ ([turn]))).1).Site)), (.int .i64 (((decF (((encF f).1) ++ ([turn]))).1).Seq)), r32], rowT 5 u8E r32 ((decF (((encF f).1) ++ ([turn]))).1.Body), rowT 5 u8E v28 ([turn]), rowT 5 u8E v30 (((encF f).1) ++ ([turn])), .blk g21 25 #[(.int .i64 (((decF (((encF f).1).take k)).1).Kind)), (.int .i64 (((decF (((encF f).1).take k)).1).View)), (.int .i64 (((decF (((encF f).1).take k)).1).Site)), (.int .i64 (((decF (((encF f).1).take k)).1).Seq)), r19], rowT 5 u8E r19 ((decF (((encF f).1).take k)).1.Body), .blk g13 25 #[(.int .i64 (((decF ((encF f).1)).1).Kind)), (.int .i64 (((decF ((encF f).1)).1).View)), (.int .i64 (((decF ((encF f).1)).1).Site)), (.int .i64 (((decF ((encF f).1)).1).Seq)), r11], rowT 5 u8E r11 ((decF ((encF f).1)).1.Body), rowT 5 u8E r9 ((encF f).1), .blk g1 25 #[(.int .i64 f.Kind), (.int .i64 f.View), (.int .i64 f.Site), (.int .i64 f.Seq), v_f_Body]] := hst
      refine s_cons (op_assign v39 rfl ?_)
      refine s_nil ?_
      refine then_n ?_
      refine cE_seq ?_
      refine cE_region rfl ?_
      refine s_cons (op_move v39 rfl ?_)
      refine s_cons (op_move (.int .i64 (k : Int)) rfl ?_)
      refine s_cons (op_move v39 rfl ?_)
      refine s_cons (op_move (.int .i64 (k : Int)) rfl ?_)
      refine s_cons (op_indexAddrN (E := u8E) (xs := (encF f).1) k Try.underlying23 Try.sizeOf5 rfl (hst.sl 0 rfl) rfl (by omega) (by first | omega | (simp; omega)) (fun a41 o42 p43 => ?_))
      refine s_cons (op_load1 (u := (.int .u8 ((((encF f).1)[k]'(by first | omega | (simp; omega))).toNat : Int))) Try.isAgg5 rfl p43 ?_)
      have hu44 := u8_lt (((encF f).1)[k]'(by first | omega | (simp; omega)))
      refine s_cons (op_move (.int .u8 (turn.toNat : Int)) rfl ?_)
      obtain ⟨cc, hcc, hcx⟩ := xor_u8 (a := ((((encF f).1)[k]'(by first | omega | (simp; omega))).toNat : Int)) (b := (turn.toNat : Int)) (by omega) (by omega)
      refine s_cons (op_xor (k := .u8) (a := ((((encF f).1)[k]'(by first | omega | (simp; omega))).toNat : Int)) (b := (turn.toNat : Int)) (cc.toNat : Int) rfl rfl hcc ?_)
      refine s_cons (op_indexRowN hst 0 rfl k Try.underlying23 Try.sizeOf5 rfl rfl (by omega) (by first | omega | (simp; omega)) (fun g49 hb48 p47 => ?_))
      refine s_cons0 (op_storeRow1 (y := cc) hst 0 rfl hb48 Try.sizeOf5 rfl rfl rfl (k) 0 rfl (by first | omega | (simp; omega)) (by decide) rfl (fun w50 hst => ?_))
      replace hst : St w0 w50 [rowT 5 u8E v39 (((encF f).1).set (k) cc), .blk g34 25 #[(.int .i64 (((decF (((encF f).1) ++ ([turn]))).1).Kind)), (.int .i64 (((decF (((encF f).1) ++ ([turn]))).1).View)), (.int .i64 (((decF (((encF f).1) ++ ([turn]))).1).Site)), (.int .i64 (((decF (((encF f).1) ++ ([turn]))).1).Seq)), r32], rowT 5 u8E r32 ((decF (((encF f).1) ++ ([turn]))).1.Body), rowT 5 u8E v28 ([turn]), rowT 5 u8E v30 (((encF f).1) ++ ([turn])), .blk g21 25 #[(.int .i64 (((decF (((encF f).1).take k)).1).Kind)), (.int .i64 (((decF (((encF f).1).take k)).1).View)), (.int .i64 (((decF (((encF f).1).take k)).1).Site)), (.int .i64 (((decF (((encF f).1).take k)).1).Seq)), r19], rowT 5 u8E r19 ((decF (((encF f).1).take k)).1.Body), .blk g13 25 #[(.int .i64 (((decF ((encF f).1)).1).Kind)), (.int .i64 (((decF ((encF f).1)).1).View)), (.int .i64 (((decF ((encF f).1)).1).Site)), (.int .i64 (((decF ((encF f).1)).1).Seq)), r11], rowT 5 u8E r11 ((decF ((encF f).1)).1.Body), rowT 5 u8E r9 ((encF f).1), .blk g1 25 #[(.int .i64 f.Kind), (.int .i64 f.View), (.int .i64 f.Site), (.int .i64 f.Seq), v_f_Body]] := hst
      refine s_nil ?_
      refine then_n ?_
      refine cE_seq ?_
      refine cE_region rfl ?_
      refine s_cons (op_move v39 rfl ?_)
      refine s_cons (op_call Try.call10 (evs_cons (v := v39) rfl evs_nil) (c_fGet (w0 := w50) (v_b := v39) (b := (((encF f).1).set (k) cc)) (h_b := (hst.sl 0 rfl)) (hl := (by first | omega | (simp; omega)))) ?_)
      rintro _ w52 ⟨r51, rfl, hcall⟩
      refine ⟨_, rfl, ?_⟩
      have hst : St w0 w52 [rowT 5 u8E r51 ((decF (((encF f).1).set (k) cc)).1.Body), rowT 5 u8E v39 (((encF f).1).set (k) cc), .blk g34 25 #[(.int .i64 (((decF (((encF f).1) ++ ([turn]))).1).Kind)), (.int .i64 (((decF (((encF f).1) ++ ([turn]))).1).View)), (.int .i64 (((decF (((encF f).1) ++ ([turn]))).1).Site)), (.int .i64 (((decF (((encF f).1) ++ ([turn]))).1).Seq)), r32], rowT 5 u8E r32 ((decF (((encF f).1) ++ ([turn]))).1.Body), rowT 5 u8E v28 ([turn]), rowT 5 u8E v30 (((encF f).1) ++ ([turn])), .blk g21 25 #[(.int .i64 (((decF (((encF f).1).take k)).1).Kind)), (.int .i64 (((decF (((encF f).1).take k)).1).View)), (.int .i64 (((decF (((encF f).1).take k)).1).Site)), (.int .i64 (((decF (((encF f).1).take k)).1).Seq)), r19], rowT 5 u8E r19 ((decF (((encF f).1).take k)).1.Body), .blk g13 25 #[(.int .i64 (((decF ((encF f).1)).1).Kind)), (.int .i64 (((decF ((encF f).1)).1).View)), (.int .i64 (((decF ((encF f).1)).1).Site)), (.int .i64 (((decF ((encF f).1)).1).Seq)), r11], rowT 5 u8E r11 ((decF ((encF f).1)).1.Body), rowT 5 u8E r9 ((encF f).1), .blk g1 25 #[(.int .i64 f.Kind), (.int .i64 f.View), (.int .i64 f.Site), (.int .i64 f.Seq), v_f_Body]] := hst.call hcall
      refine s_cons (op_move (.tuple #[(.agg #[(.int .i64 (((decF (((encF f).1).set (k) cc)).1).Kind)), (.int .i64 (((decF (((encF f).1).set (k) cc)).1).View)), (.int .i64 (((decF (((encF f).1).set (k) cc)).1).Site)), (.int .i64 (((decF (((encF f).1).set (k) cc)).1).Seq)), r51]), (.int .i64 ((decF (((encF f).1).set (k) cc)).2))]) rfl ?_)
      refine s_cons (op_extract (.agg #[(.int .i64 (((decF (((encF f).1).set (k) cc)).1).Kind)), (.int .i64 (((decF (((encF f).1).set (k) cc)).1).View)), (.int .i64 (((decF (((encF f).1).set (k) cc)).1).Site)), (.int .i64 (((decF (((encF f).1).set (k) cc)).1).Seq)), r51]) rfl rfl ?_)
      refine s_cons (op_extract (.int .i64 ((decF (((encF f).1).set (k) cc)).2)) rfl rfl ?_)
      refine s_cons (op_alloc (cs := #[(.int .i64 0), (.int .i64 0), (.int .i64 0), (.int .i64 0), (.slice none 0 0)]) hst Try.zeroValue25 rfl (fun g53 w54 hst _ => ?_))
      replace hst : St w0 w54 [.blk g53 25 #[(.int .i64 0), (.int .i64 0), (.int .i64 0), (.int .i64 0), (.slice none 0 0)], rowT 5 u8E r51 ((decF (((encF f).1).set (k) cc)).1.Body), rowT 5 u8E v39 (((encF f).1).set (k) cc), .blk g34 25 #[(.int .i64 (((decF (((encF f).1) ++ ([turn]))).1).Kind)), (.int .i64 (((decF (((encF f).1) ++ ([turn]))).1).View)), (.int .i64 (((decF (((encF f).1) ++ ([turn]))).1).Site)), (.int .i64 (((decF (((encF f).1) ++ ([turn]))).1).Seq)), r32], rowT 5 u8E r32 ((decF (((encF f).1) ++ ([turn]))).1.Body), rowT 5 u8E v28 ([turn]), rowT 5 u8E v30 (((encF f).1) ++ ([turn])), .blk g21 25 #[(.int .i64 (((decF (((encF f).1).take k)).1).Kind)), (.int .i64 (((decF (((encF f).1).take k)).1).View)), (.int .i64 (((decF (((encF f).1).take k)).1).Site)), (.int .i64 (((decF (((encF f).1).take k)).1).Seq)), r19], rowT 5 u8E r19 ((decF (((encF f).1).take k)).1.Body), .blk g13 25 #[(.int .i64 (((decF ((encF f).1)).1).Kind)), (.int .i64 (((decF ((encF f).1)).1).View)), (.int .i64 (((decF ((encF f).1)).1).Site)), (.int .i64 (((decF ((encF f).1)).1).Seq)), r11], rowT 5 u8E r11 ((decF ((encF f).1)).1.Body), rowT 5 u8E r9 ((encF f).1), .blk g1 25 #[(.int .i64 f.Kind), (.int .i64 f.View), (.int .i64 f.Site), (.int .i64 f.Seq), v_f_Body]] := hst
      refine s_cons0 (op_storeAll hst 0 rfl Try.sizeOf25 rfl rfl rfl rfl (oneL_all (l := [(.int .i64 (((decF (((encF f).1).set (k) cc)).1).Kind)), (.int .i64 (((decF (((encF f).1).set (k) cc)).1).View)), (.int .i64 (((decF (((encF f).1).set (k) cc)).1).Site)), (.int .i64 (((decF (((encF f).1).set (k) cc)).1).Seq)), r51]) ⟨rfl, rfl, rfl, rfl, (sl_one (show Sl _ u8E r51 (((decF (((encF f).1).set (k) cc)).1).Body) from (hst.sl 1 rfl))), trivial⟩) (fun w55 hst => ?_))
      replace hst : St w0 w55 [.blk g53 25 #[(.int .i64 (((decF (((encF f).1).set (k) cc)).1).Kind)), (.int .i64 (((decF (((encF f).1).set (k) cc)).1).View)), (.int .i64 (((decF (((encF f).1).set (k) cc)).1).Site)), (.int .i64 (((decF (((encF f).1).set (k) cc)).1).Seq)), r51], rowT 5 u8E r51 ((decF (((encF f).1).set (k) cc)).1.Body), rowT 5 u8E v39 (((encF f).1).set (k) cc), .blk g34 25 #[(.int .i64 (((decF (((encF f).1) ++ ([turn]))).1).Kind)), (.int .i64 (((decF (((encF f).1) ++ ([turn]))).1).View)), (.int .i64 (((decF (((encF f).1) ++ ([turn]))).1).Site)), (.int .i64 (((decF (((encF f).1) ++ ([turn]))).1).Seq)), r32], rowT 5 u8E r32 ((decF (((encF f).1) ++ ([turn]))).1.Body), rowT 5 u8E v28 ([turn]), rowT 5 u8E v30 (((encF f).1) ++ ([turn])), .blk g21 25 #[(.int .i64 (((decF (((encF f).1).take k)).1).Kind)), (.int .i64 (((decF (((encF f).1).take k)).1).View)), (.int .i64 (((decF (((encF f).1).take k)).1).Site)), (.int .i64 (((decF (((encF f).1).take k)).1).Seq)), r19], rowT 5 u8E r19 ((decF (((encF f).1).take k)).1.Body), .blk g13 25 #[(.int .i64 (((decF ((encF f).1)).1).Kind)), (.int .i64 (((decF ((encF f).1)).1).View)), (.int .i64 (((decF ((encF f).1)).1).Site)), (.int .i64 (((decF ((encF f).1)).1).Seq)), r11], rowT 5 u8E r11 ((decF ((encF f).1)).1.Body), rowT 5 u8E r9 ((encF f).1), .blk g1 25 #[(.int .i64 f.Kind), (.int .i64 f.View), (.int .i64 f.Site), (.int .i64 f.Seq), v_f_Body]] := hst
      refine s_cons (op_assign (.int .i64 ((decF (((encF f).1).set (k) cc)).2)) rfl ?_)
      refine s_nil ?_
      refine then_n ?_
      refine cE_seq ?_
      refine cE_region rfl ?_
      refine s_cons (op_call Try.call9 evs_nil (c_told13 (w0 := w55)) ?_)
      rintro _ w56 ⟨rfl, hcall⟩
      refine ⟨_, rfl, ?_⟩
      have hst : St w0 w56 [.blk g53 25 #[(.int .i64 (((decF (((encF f).1).set (k) cc)).1).Kind)), (.int .i64 (((decF (((encF f).1).set (k) cc)).1).View)), (.int .i64 (((decF (((encF f).1).set (k) cc)).1).Site)), (.int .i64 (((decF (((encF f).1).set (k) cc)).1).Seq)), r51], rowT 5 u8E r51 ((decF (((encF f).1).set (k) cc)).1.Body), rowT 5 u8E v39 (((encF f).1).set (k) cc), .blk g34 25 #[(.int .i64 (((decF (((encF f).1) ++ ([turn]))).1).Kind)), (.int .i64 (((decF (((encF f).1) ++ ([turn]))).1).View)), (.int .i64 (((decF (((encF f).1) ++ ([turn]))).1).Site)), (.int .i64 (((decF (((encF f).1) ++ ([turn]))).1).Seq)), r32], rowT 5 u8E r32 ((decF (((encF f).1) ++ ([turn]))).1.Body), rowT 5 u8E v28 ([turn]), rowT 5 u8E v30 (((encF f).1) ++ ([turn])), .blk g21 25 #[(.int .i64 (((decF (((encF f).1).take k)).1).Kind)), (.int .i64 (((decF (((encF f).1).take k)).1).View)), (.int .i64 (((decF (((encF f).1).take k)).1).Site)), (.int .i64 (((decF (((encF f).1).take k)).1).Seq)), r19], rowT 5 u8E r19 ((decF (((encF f).1).take k)).1.Body), .blk g13 25 #[(.int .i64 (((decF ((encF f).1)).1).Kind)), (.int .i64 (((decF ((encF f).1)).1).View)), (.int .i64 (((decF ((encF f).1)).1).Site)), (.int .i64 (((decF ((encF f).1)).1).Seq)), r11], rowT 5 u8E r11 ((decF ((encF f).1)).1.Body), rowT 5 u8E r9 ((encF f).1), .blk g1 25 #[(.int .i64 f.Kind), (.int .i64 f.View), (.int .i64 f.Site), (.int .i64 f.Seq), v_f_Body]] := hst.call hcall
      refine s_cons (op_move (.bool true) rfl ?_)
      refine s_yes 98 rfl rfl (op_move (.int .i64 ((decF (((encF f).1).set (k) cc)).2)) rfl ?_)
      refine s_yes 98 rfl rfl (op_eql (k := .i64) (a := (decF (((encF f).1).set (k) cc)).2) (b := 2) rfl rfl ?_)
      refine s_yes 98 rfl rfl (op_move (.int .u8 (turn.toNat : Int)) rfl ?_)
      refine s_yes 98 rfl rfl (op_neq (k := .u8) (a := (turn.toNat : Int)) (b := 0) rfl rfl ?_)
      refine s_yes 98 rfl rfl (op_eqlb (a := decide (((decF (((encF f).1).set (k) cc)).2) = 2)) (b := !decide ((turn.toNat : Int) = 0)) Try.underlying4 rfl rfl ?_)
      refine s_cons (op_pick_t (.bool ((decide (((decF (((encF f).1).set (k) cc)).2) = 2)) == (!decide ((turn.toNat : Int) = 0)))) rfl rfl ?_)
      refine s_cons (op_move (.bool ((decide (((decF (((encF f).1).set (k) cc)).2) = 2)) == (!decide ((turn.toNat : Int) = 0)))) rfl ?_)
      refine s_yes 105 rfl (congrArg Value.bool (show ((decide (((decF (((encF f).1).set (k) cc)).2) = 2)) == (!decide ((turn.toNat : Int) = 0))) = true from (dec_turn hmf (by omega) (by first | exact hcx | simpa using hcx)))) (op_move (.int .i64 ((decF (((encF f).1).take k)).2)) rfl ?_)
      refine s_yes 105 rfl (congrArg Value.bool (show ((decide (((decF (((encF f).1).set (k) cc)).2) = 2)) == (!decide ((turn.toNat : Int) = 0))) = true from (dec_turn hmf (by omega) (by first | exact hcx | simpa using hcx)))) (op_eql (k := .i64) (a := (decF (((encF f).1).take k)).2) (b := 2) rfl rfl ?_)
      refine s_cons (op_pick_t (.bool (decide (((decF (((encF f).1).take k)).2) = 2))) (congrArg Value.bool (show ((decide (((decF (((encF f).1).set (k) cc)).2) = 2)) == (!decide ((turn.toNat : Int) = 0))) = true from (dec_turn hmf (by omega) (by first | exact hcx | simpa using hcx)))) rfl ?_)
      refine s_cons (op_move (.bool (decide (((decF (((encF f).1).take k)).2) = 2))) rfl ?_)
      refine s_yes 109 rfl (congrArg Value.bool (show (decide (((decF (((encF f).1).take k)).2) = 2)) = true from (decide_eq_true (by rw [dec_cut hmf (by omega)])))) (op_move (.int .i64 ((decF (((encF f).1) ++ ([turn]))).2)) rfl ?_)
      refine s_yes 109 rfl (congrArg Value.bool (show (decide (((decF (((encF f).1).take k)).2) = 2)) = true from (decide_eq_true (by rw [dec_cut hmf (by omega)])))) (op_eql (k := .i64) (a := (decF (((encF f).1) ++ ([turn]))).2) (b := 2) rfl rfl ?_)
      refine s_cons (op_pick_t (.bool (decide (((decF (((encF f).1) ++ ([turn]))).2) = 2))) (congrArg Value.bool (show (decide (((decF (((encF f).1).take k)).2) = 2)) = true from (decide_eq_true (by rw [dec_cut hmf (by omega)])))) rfl ?_)
      refine s_cons (op_assign (.bool (decide (((decF (((encF f).1) ++ ([turn]))).2) = 2))) rfl ?_)
      refine s_nil ?_
      refine then_n ?_
      refine cE_ret ?_
      refine post_r _ (res1 (v := (.bool true)) (congrArg Value.bool (show (decide (((decF (((encF f).1) ++ ([turn]))).2) = 2)) = true from (decide_eq_true (by rw [dec_more hmf]))))) ?_
      exact ⟨rfl, hst.bare⟩
    · refine cE_cond true (congrArg Value.bool (congrArg (! ·) b8)) (fun _ => ?_) (fun h => by cases h)
      refine cE_seq ?_
      refine cE_region rfl ?_
      refine s_cons (op_call Try.call9 evs_nil (c_told13 (w0 := w7)) ?_)
      rintro _ w57 ⟨rfl, hcall⟩
      refine ⟨_, rfl, ?_⟩
      have hst : St w0 w57 [.blk g1 25 #[(.int .i64 f.Kind), (.int .i64 f.View), (.int .i64 f.Site), (.int .i64 f.Seq), v_f_Body]] := hst.call hcall
      refine s_cons (op_assign (.bool true) rfl ?_)
      refine s_nil ?_
      refine then_n ?_
      refine cE_ret ?_
      refine then_r ?_
      refine post_r _ (res1 (v := (.bool true)) rfl) ?_
      exact ⟨rfl, hst.bare⟩

end Go.Proofs.Ytfljkaigfmedeaa
