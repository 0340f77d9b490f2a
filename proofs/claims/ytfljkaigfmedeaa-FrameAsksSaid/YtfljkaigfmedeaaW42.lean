/- the law FrameAsks -/
import Derived.Test.YtfljkaigfmedeaaW40
import Derived.Test.YtfljkaigfmedeaaW10
import Derived.Test.YtfljkaigfmedeaaW11
import Derived.Test.YtfljkaigfmedeaaW12
import Derived.Test.YtfljkaigfmedeaaW13
import Derived.Test.YtfljkaigfmedeaaW14
import Derived.Test.YtfljkaigfmedeaaW15
import Derived.Test.YtfljkaigfmedeaaW16
import Derived.Test.YtfljkaigfmedeaaW17
import Derived.Test.YtfljkaigfmedeaaW18
import Derived.Test.YtfljkaigfmedeaaW19
import Derived.Test.YtfljkaigfmedeaaW20
import Derived.Test.YtfljkaigfmedeaaW21
import Derived.Test.YtfljkaigfmedeaaW22
import Derived.Test.YtfljkaigfmedeaaW23
namespace Go.Proofs.Ytfljkaigfmedeaa
open Go.RowKit

set_option maxHeartbeats 4000000 in
theorem c_FrameAsks (w0 : World) (f : Frame) (v_f_Body : Value) (h_f_Body : Sl w0 u8E v_f_Body f.Body) (g : Frame) (v_g_Body : Value) (h_g_Body : Sl w0 u8E v_g_Body g.Body) (v_b : Value) (b : List UInt8) (h_b : Sl w0 u8E v_b b) (hf : f.ok) (hg : g.ok) :
    Calls Try.prog 4 #[(.agg #[(.int .i64 f.Kind), (.int .i64 f.View), (.int .i64 f.Site), (.int .i64 f.Seq), v_f_Body]), (.agg #[(.int .i64 g.Kind), (.int .i64 g.View), (.int .i64 g.Site), (.int .i64 g.Seq), v_g_Body]), v_b] w0 fun e w' => e = .returned (.bool true) ∧ St w0 w' [] := by
  refine calls_E (n := 90) (ts := [6]) Try.func4 rfl rfl rfl (by simp) ?_
  have hst := St.start w0
  refine cE_seq ?_
  refine cE_region rfl ?_
  refine s_cons (op_box (v := (.agg #[(.int .i64 f.Kind), (.int .i64 f.View), (.int .i64 f.Site), (.int .i64 f.Seq), v_f_Body])) (cs := #[(.int .i64 f.Kind), (.int .i64 f.View), (.int .i64 f.Site), (.int .i64 f.Seq), v_f_Body]) hst rfl rfl (fun g1 w2 hst _ => ?_))
  replace hst : St w0 w2 [.blk g1 25 #[(.int .i64 f.Kind), (.int .i64 f.View), (.int .i64 f.Site), (.int .i64 f.Seq), v_f_Body]] := hst
  refine s_cons (op_box (v := (.agg #[(.int .i64 g.Kind), (.int .i64 g.View), (.int .i64 g.Site), (.int .i64 g.Seq), v_g_Body])) (cs := #[(.int .i64 g.Kind), (.int .i64 g.View), (.int .i64 g.Site), (.int .i64 g.Seq), v_g_Body]) hst rfl rfl (fun g3 w4 hst _ => ?_))
  replace hst : St w0 w4 [.blk g3 25 #[(.int .i64 g.Kind), (.int .i64 g.View), (.int .i64 g.Site), (.int .i64 g.Seq), v_g_Body], .blk g1 25 #[(.int .i64 f.Kind), (.int .i64 f.View), (.int .i64 f.Site), (.int .i64 f.Seq), v_f_Body]] := hst
  refine s_cons (op_assign (.bool false) rfl ?_)
  refine s_nil ?_
  refine then_n ?_
  refine cE_seq ?_
  refine cE_seq ?_
  refine cE_region rfl ?_
  refine s_cons (op_fieldAddr (s := 0) Try.underlying25 rfl rfl Try.sizeOf23 rfl ?_)
  refine s_cons (op_load1 (u := v_f_Body) Try.isAgg23 rfl ((hst.cell 1 rfl).drop 4) ?_)
  refine s_cons (op_len (E := u8E) (xs := f.Body) Try.underlying23 rfl h_f_Body ?_)
  refine s_cons (op_gtr (k := .i64) (a := (f.Body.length : Int)) (b := 100) rfl rfl ?_)
  refine s_cons (op_move (.bool (decide (100 < (f.Body.length : Int)))) rfl ?_)
  rcases Bool.eq_false_or_eq_true (decide (100 < (f.Body.length : Int))) with b5 | b5
  · have c6 : 100 < (f.Body.length : Int) := of_decide_eq_true b5
    refine s_no 19 rfl (congrArg Value.bool b5) ?_
    refine s_no 19 rfl (congrArg Value.bool b5) ?_
    refine s_no 19 rfl (congrArg Value.bool b5) ?_
    refine s_no 19 rfl (congrArg Value.bool b5) ?_
    refine s_cons (op_pick_t (.bool true) (congrArg Value.bool b5) rfl ?_)
    refine s_cons (op_move (.bool true) rfl ?_)
    refine s_no 25 rfl rfl ?_
    refine s_no 25 rfl rfl ?_
    refine s_no 25 rfl rfl ?_
    refine s_cons (op_pick_t (.bool true) rfl rfl ?_)
    refine s_nil ?_
    refine then_n ?_
    refine cE_cond true rfl (fun _ => ?_) (fun h => by cases h)
    refine cE_seq ?_
    refine cE_region rfl ?_
    refine s_cons (op_call Try.call9 evs_nil (c_told13 (w0 := w4)) ?_)
    rintro _ w7 ⟨rfl, hcall⟩
    refine ⟨_, rfl, ?_⟩
    have hst : St w0 w7 [.blk g3 25 #[(.int .i64 g.Kind), (.int .i64 g.View), (.int .i64 g.Site), (.int .i64 g.Seq), v_g_Body], .blk g1 25 #[(.int .i64 f.Kind), (.int .i64 f.View), (.int .i64 f.Site), (.int .i64 f.Seq), v_f_Body]] := hst.call hcall
    refine s_cons (op_assign (.bool true) rfl ?_)
    refine s_nil ?_
    refine then_n ?_
    refine cE_ret ?_
    refine then_r ?_
    refine post_r _ (res1 (v := (.bool true)) rfl) ?_
    exact ⟨rfl, hst.bare⟩
  · have c8 : ¬ (100 < (f.Body.length : Int)) := of_decide_eq_false b5
    refine s_yes 19 rfl (congrArg Value.bool b5) (op_fieldAddr (s := 0) Try.underlying25 rfl rfl Try.sizeOf23 rfl ?_)
    refine s_yes 19 rfl (congrArg Value.bool b5) (op_load1 (u := v_g_Body) Try.isAgg23 rfl ((hst.cell 0 rfl).drop 4) ?_)
    refine s_yes 19 rfl (congrArg Value.bool b5) (op_len (E := u8E) (xs := g.Body) Try.underlying23 rfl h_g_Body ?_)
    refine s_yes 19 rfl (congrArg Value.bool b5) (op_gtr (k := .i64) (a := (g.Body.length : Int)) (b := 100) rfl rfl ?_)
    refine s_cons (op_pick_f (.bool (decide (100 < (g.Body.length : Int)))) (congrArg Value.bool b5) rfl ?_)
    refine s_cons (op_move (.bool (decide (100 < (g.Body.length : Int)))) rfl ?_)
    rcases Bool.eq_false_or_eq_true (decide (100 < (g.Body.length : Int))) with b9 | b9
    · have c10 : 100 < (g.Body.length : Int) := of_decide_eq_true b9
      refine s_no 25 rfl (congrArg Value.bool b9) ?_
      refine s_no 25 rfl (congrArg Value.bool b9) ?_
      refine s_no 25 rfl (congrArg Value.bool b9) ?_
      refine s_cons (op_pick_t (.bool true) (congrArg Value.bool b9) rfl ?_)
      refine s_nil ?_
      refine then_n ?_
      refine cE_cond true rfl (fun _ => ?_) (fun h => by cases h)
      refine cE_seq ?_
      refine cE_region rfl ?_
      refine s_cons (op_call Try.call9 evs_nil (c_told13 (w0 := w4)) ?_)
      rintro _ w11 ⟨rfl, hcall⟩
      refine ⟨_, rfl, ?_⟩
      have hst : St w0 w11 [.blk g3 25 #[(.int .i64 g.Kind), (.int .i64 g.View), (.int .i64 g.Site), (.int .i64 g.Seq), v_g_Body], .blk g1 25 #[(.int .i64 f.Kind), (.int .i64 f.View), (.int .i64 f.Site), (.int .i64 f.Seq), v_f_Body]] := hst.call hcall
      refine s_cons (op_assign (.bool true) rfl ?_)
      refine s_nil ?_
      refine then_n ?_
      refine cE_ret ?_
      refine then_r ?_
      refine post_r _ (res1 (v := (.bool true)) rfl) ?_
      exact ⟨rfl, hst.bare⟩
    · have c12 : ¬ (100 < (g.Body.length : Int)) := of_decide_eq_false b9
      refine s_yes 25 rfl (congrArg Value.bool b9) (op_move v_b rfl ?_)
      refine s_yes 25 rfl (congrArg Value.bool b9) (op_len (E := u8E) (xs := b) Try.underlying23 rfl h_b ?_)
      refine s_yes 25 rfl (congrArg Value.bool b9) (op_gtr (k := .i64) (a := (b.length : Int)) (b := 200) rfl rfl ?_)
      refine s_cons (op_pick_f (.bool (decide (200 < (b.length : Int)))) (congrArg Value.bool b9) rfl ?_)
      refine s_nil ?_
      refine then_n ?_
      rcases Bool.eq_false_or_eq_true (decide (200 < (b.length : Int))) with b13 | b13
      · have c14 : 200 < (b.length : Int) := of_decide_eq_true b13
        refine cE_cond true (congrArg Value.bool b13) (fun _ => ?_) (fun h => by cases h)
        refine cE_seq ?_
        refine cE_region rfl ?_
        refine s_cons (op_call Try.call9 evs_nil (c_told13 (w0 := w4)) ?_)
        rintro _ w15 ⟨rfl, hcall⟩
        refine ⟨_, rfl, ?_⟩
        have hst : St w0 w15 [.blk g3 25 #[(.int .i64 g.Kind), (.int .i64 g.View), (.int .i64 g.Site), (.int .i64 g.Seq), v_g_Body], .blk g1 25 #[(.int .i64 f.Kind), (.int .i64 f.View), (.int .i64 f.Site), (.int .i64 f.Seq), v_f_Body]] := hst.call hcall
        refine s_cons (op_assign (.bool true) rfl ?_)
        refine s_nil ?_
        refine then_n ?_
        refine cE_ret ?_
        refine then_r ?_
        refine post_r _ (res1 (v := (.bool true)) rfl) ?_
        exact ⟨rfl, hst.bare⟩
      · have c16 : ¬ (200 < (b.length : Int)) := of_decide_eq_false b13
        refine cE_cond false (congrArg Value.bool b13) (fun h => by cases h) (fun _ => ?_)
        refine cE_skip ?_
        refine then_n ?_
        refine cE_seq ?_
        refine cE_region rfl ?_
        refine s_cons (op_loadN (cs := [(.int .i64 f.Kind), (.int .i64 f.View), (.int .i64 f.Site), (.int .i64 f.Seq), v_f_Body]) Try.isAgg25 Try.sizeOf25 rfl (Pt.of (hst.cell 1 rfl) rfl) rfl ?_)
        refine s_cons (op_call Try.call8 (evs_cons (v := (.agg #[(.int .i64 f.Kind), (.int .i64 f.View), (.int .i64 f.Site), (.int .i64 f.Seq), v_f_Body])) rfl evs_nil) (c_fPut (w0 := w4) (f := f) (v_f_Body := v_f_Body) (h_f_Body := (h_f_Body.below hst.below)) (hf := hf)) ?_)
        rintro _ w18 ⟨r17, rfl, hcall⟩
        refine ⟨_, rfl, ?_⟩
        have hst : St w0 w18 [rowT 5 u8E r17 ((encF f).1), .blk g3 25 #[(.int .i64 g.Kind), (.int .i64 g.View), (.int .i64 g.Site), (.int .i64 g.Seq), v_g_Body], .blk g1 25 #[(.int .i64 f.Kind), (.int .i64 f.View), (.int .i64 f.Site), (.int .i64 f.Seq), v_f_Body]] := hst.call hcall
        refine s_cons (op_move (.tuple #[r17, (.int .i64 ((encF f).2))]) rfl ?_)
        refine s_cons (op_extract r17 rfl rfl ?_)
        refine s_cons (op_extract (.int .i64 ((encF f).2)) rfl rfl ?_)
        refine s_cons (op_assign r17 rfl ?_)
        refine s_cons (op_assign (.int .i64 ((encF f).2)) rfl ?_)
        refine s_nil ?_
        refine then_n ?_
        refine cE_seq ?_
        refine cE_region rfl ?_
        refine s_cons (op_loadN (cs := [(.int .i64 f.Kind), (.int .i64 f.View), (.int .i64 f.Site), (.int .i64 f.Seq), v_f_Body]) Try.isAgg25 Try.sizeOf25 rfl (Pt.of (hst.cell 2 rfl) rfl) rfl ?_)
        refine s_cons (op_call Try.call12 (evs_cons (v := (.agg #[(.int .i64 f.Kind), (.int .i64 f.View), (.int .i64 f.Site), (.int .i64 f.Seq), v_f_Body])) rfl evs_nil) (c_rfPut (w0 := w18) (f := f) (v_f_Body := v_f_Body) (h_f_Body := (h_f_Body.below hst.below)) (hf := hf) (hb := (by omega))) ?_)
        rintro _ w19 ⟨rfl, hcall⟩
        refine ⟨_, rfl, ?_⟩
        have hst : St w0 w19 [rowT 5 u8E r17 ((encF f).1), .blk g3 25 #[(.int .i64 g.Kind), (.int .i64 g.View), (.int .i64 g.Site), (.int .i64 g.Seq), v_g_Body], .blk g1 25 #[(.int .i64 f.Kind), (.int .i64 f.View), (.int .i64 f.Site), (.int .i64 f.Seq), v_f_Body]] := hst.call hcall
        refine s_cons (op_move (.tuple #[(.string (str ((encF f).1))), (.int .i64 ((encF f).2))]) rfl ?_)
        refine s_cons (op_extract (.string (str ((encF f).1))) rfl rfl ?_)
        refine s_cons (op_extract (.int .i64 ((encF f).2)) rfl rfl ?_)
        refine s_cons (op_assign (.string (str ((encF f).1))) rfl ?_)
        refine s_cons (op_assign (.int .i64 ((encF f).2)) rfl ?_)
        refine s_nil ?_
        refine then_n ?_
        refine cE_seq ?_
        refine cE_region rfl ?_
        refine s_cons (op_move v_b rfl ?_)
        refine s_cons (op_call Try.call10 (evs_cons (v := v_b) rfl evs_nil) (c_fGet (w0 := w19) (v_b := v_b) (b := b) (h_b := (h_b.below hst.below)) (hl := (by omega))) ?_)
        rintro _ w21 ⟨r20, rfl, hcall⟩
        refine ⟨_, rfl, ?_⟩
        have hst : St w0 w21 [rowT 5 u8E r20 ((decF b).1.Body), rowT 5 u8E r17 ((encF f).1), .blk g3 25 #[(.int .i64 g.Kind), (.int .i64 g.View), (.int .i64 g.Site), (.int .i64 g.Seq), v_g_Body], .blk g1 25 #[(.int .i64 f.Kind), (.int .i64 f.View), (.int .i64 f.Site), (.int .i64 f.Seq), v_f_Body]] := hst.call hcall
        refine s_cons (op_move (.tuple #[(.agg #[(.int .i64 (((decF b).1).Kind)), (.int .i64 (((decF b).1).View)), (.int .i64 (((decF b).1).Site)), (.int .i64 (((decF b).1).Seq)), r20]), (.int .i64 ((decF b).2))]) rfl ?_)
        refine s_cons (op_extract (.agg #[(.int .i64 (((decF b).1).Kind)), (.int .i64 (((decF b).1).View)), (.int .i64 (((decF b).1).Site)), (.int .i64 (((decF b).1).Seq)), r20]) rfl rfl ?_)
        refine s_cons (op_extract (.int .i64 ((decF b).2)) rfl rfl ?_)
        refine s_cons (op_alloc (cs := #[(.int .i64 0), (.int .i64 0), (.int .i64 0), (.int .i64 0), (.slice none 0 0)]) hst Try.zeroValue25 rfl (fun g22 w23 hst _ => ?_))
        replace hst : St w0 w23 [.blk g22 25 #[(.int .i64 0), (.int .i64 0), (.int .i64 0), (.int .i64 0), (.slice none 0 0)], rowT 5 u8E r20 ((decF b).1.Body), rowT 5 u8E r17 ((encF f).1), .blk g3 25 #[(.int .i64 g.Kind), (.int .i64 g.View), (.int .i64 g.Site), (.int .i64 g.Seq), v_g_Body], .blk g1 25 #[(.int .i64 f.Kind), (.int .i64 f.View), (.int .i64 f.Site), (.int .i64 f.Seq), v_f_Body]] := hst
        refine s_cons0 (op_storeAll hst 0 rfl Try.sizeOf25 rfl rfl rfl rfl (oneL_all (l := [(.int .i64 (((decF b).1).Kind)), (.int .i64 (((decF b).1).View)), (.int .i64 (((decF b).1).Site)), (.int .i64 (((decF b).1).Seq)), r20]) ⟨rfl, rfl, rfl, rfl, (sl_one (show Sl _ u8E r20 (((decF b).1).Body) from (hst.sl 1 rfl))), trivial⟩) (fun w24 hst => ?_))
        replace hst : St w0 w24 [.blk g22 25 #[(.int .i64 (((decF b).1).Kind)), (.int .i64 (((decF b).1).View)), (.int .i64 (((decF b).1).Site)), (.int .i64 (((decF b).1).Seq)), r20], rowT 5 u8E r20 ((decF b).1.Body), rowT 5 u8E r17 ((encF f).1), .blk g3 25 #[(.int .i64 g.Kind), (.int .i64 g.View), (.int .i64 g.Site), (.int .i64 g.Seq), v_g_Body], .blk g1 25 #[(.int .i64 f.Kind), (.int .i64 f.View), (.int .i64 f.Site), (.int .i64 f.Seq), v_f_Body]] := hst
        refine s_cons (op_assign (.int .i64 ((decF b).2)) rfl ?_)
        refine s_nil ?_
        refine then_n ?_
        refine cE_seq ?_
        refine cE_region rfl ?_
        refine s_cons (op_move v_b rfl ?_)
        refine s_cons (op_str (xs := b) Try.underlying23 Try.underlying5 Try.underlying9 rfl (h_b.below hst.below) ?_)
        refine s_cons (op_call Try.call13 (evs_cons (v := (.string (str b))) rfl evs_nil) (c_rfGet (w0 := w24) (b := b) (hl := (by omega))) ?_)
        rintro _ w26 ⟨r25, rfl, hcall⟩
        refine ⟨_, rfl, ?_⟩
        have hst : St w0 w26 [txtT 5 u8E r25 ((decF b).1.Body), .blk g22 25 #[(.int .i64 (((decF b).1).Kind)), (.int .i64 (((decF b).1).View)), (.int .i64 (((decF b).1).Site)), (.int .i64 (((decF b).1).Seq)), r20], rowT 5 u8E r20 ((decF b).1.Body), rowT 5 u8E r17 ((encF f).1), .blk g3 25 #[(.int .i64 g.Kind), (.int .i64 g.View), (.int .i64 g.Site), (.int .i64 g.Seq), v_g_Body], .blk g1 25 #[(.int .i64 f.Kind), (.int .i64 f.View), (.int .i64 f.Site), (.int .i64 f.Seq), v_f_Body]] := hst.call hcall
        refine s_cons (op_move (.tuple #[(.agg #[(.int .i64 (((decF b).1).Kind)), (.int .i64 (((decF b).1).View)), (.int .i64 (((decF b).1).Site)), (.int .i64 (((decF b).1).Seq)), r25]), (.int .i64 ((decF b).2))]) rfl ?_)
        refine s_cons (op_extract (.agg #[(.int .i64 (((decF b).1).Kind)), (.int .i64 (((decF b).1).View)), (.int .i64 (((decF b).1).Site)), (.int .i64 (((decF b).1).Seq)), r25]) rfl rfl ?_)
        refine s_cons (op_extract (.int .i64 ((decF b).2)) rfl rfl ?_)
        refine s_cons (op_alloc (cs := #[(.int .i64 0), (.int .i64 0), (.int .i64 0), (.int .i64 0), (.slice none 0 0)]) hst Try.zeroValue25 rfl (fun g27 w28 hst _ => ?_))
        replace hst : St w0 w28 [.blk g27 25 #[(.int .i64 0), (.int .i64 0), (.int .i64 0), (.int .i64 0), (.slice none 0 0)], txtT 5 u8E r25 ((decF b).1.Body), .blk g22 25 #[(.int .i64 (((decF b).1).Kind)), (.int .i64 (((decF b).1).View)), (.int .i64 (((decF b).1).Site)), (.int .i64 (((decF b).1).Seq)), r20], rowT 5 u8E r20 ((decF b).1.Body), rowT 5 u8E r17 ((encF f).1), .blk g3 25 #[(.int .i64 g.Kind), (.int .i64 g.View), (.int .i64 g.Site), (.int .i64 g.Seq), v_g_Body], .blk g1 25 #[(.int .i64 f.Kind), (.int .i64 f.View), (.int .i64 f.Site), (.int .i64 f.Seq), v_f_Body]] := hst
        refine s_cons0 (op_storeAll hst 0 rfl Try.sizeOf25 rfl rfl rfl rfl (oneL_all (l := [(.int .i64 (((decF b).1).Kind)), (.int .i64 (((decF b).1).View)), (.int .i64 (((decF b).1).Site)), (.int .i64 (((decF b).1).Seq)), r25]) ⟨rfl, rfl, rfl, rfl, (sl_one (show Sl _ u8E r25 (((decF b).1).Body) from (hst.slT 1 rfl))), trivial⟩) (fun w29 hst => ?_))
        replace hst : St w0 w29 [.blk g27 25 #[(.int .i64 (((decF b).1).Kind)), (.int .i64 (((decF b).1).View)), (.int .i64 (((decF b).1).Site)), (.int .i64 (((decF b).1).Seq)), r25], txtT 5 u8E r25 ((decF b).1.Body), .blk g22 25 #[(.int .i64 (((decF b).1).Kind)), (.int .i64 (((decF b).1).View)), (.int .i64 (((decF b).1).Site)), (.int .i64 (((decF b).1).Seq)), r20], rowT 5 u8E r20 ((decF b).1.Body), rowT 5 u8E r17 ((encF f).1), .blk g3 25 #[(.int .i64 g.Kind), (.int .i64 g.View), (.int .i64 g.Site), (.int .i64 g.Seq), v_g_Body], .blk g1 25 #[(.int .i64 f.Kind), (.int .i64 f.View), (.int .i64 f.Site), (.int .i64 f.Seq), v_f_Body]] := hst
        refine s_cons (op_assign (.int .i64 ((decF b).2)) rfl ?_)
        refine s_nil ?_
        refine then_n ?_
        refine cE_seq ?_
        refine cE_regionL hst [[], [(52, some 0)], [(8, none), (53, some 1)], [(10, none), (53, some 1)], [(54, some 2), (55, some 3), (53, some 1)], [(53, some 1), (56, some 4)], [(57, some 5)], [(7, none), (58, some 6)], [(59, some 7), (58, some 6)], [(9, none), (58, some 6)], [(60, some 8), (61, some 9), (58, some 6)], [(58, some 6), (62, some 10)], [(63, some 11)], [(12, none), (64, some 12)], [(14, none), (64, some 12)], [(65, some 13), (66, some 14), (64, some 12)], [(64, some 12), (67, some 15)], [(68, some 16)], [(11, none), (69, some 17)], [(13, none), (69, some 17)], [(70, some 18), (71, some 19), (69, some 17)], [(69, some 17), (72, some 20)], [(73, some 21)], [(3, none), (74, some 22)], [(75, some 23), (74, some 22)], [(3, none), (74, some 22)], [(77, some 25), (74, some 22)], [(76, some 24), (78, some 26), (74, some 22)], [(74, some 22), (79, some 27)], [(80, some 28)], [(3, none), (81, some 29)], [(4, none), (81, some 29)], [(82, some 30), (83, some 31), (81, some 29)], [(3, none), (81, some 29)], [(4, none), (81, some 29)], [(85, some 33), (86, some 34), (81, some 29)], [(84, some 32), (87, some 35), (81, some 29)], [(81, some 29), (88, some 36)], [(89, some 37)]] [(rEq (.bool true)), (rEq (.bool true)), (rEq (.int .i64 ((encF f).2))), (rEq (.int .i64 ((encF f).2))), (rEq (.bool (decide (((encF f).2) = ((encF f).2))))), (rEq (.bool (decide (((encF f).2) = ((encF f).2))))), (rEq (.bool (decide (((encF f).2) = ((encF f).2))))), (rEq r17), (rEq (.string (str ((encF f).1)))), (rEq (.string (str ((encF f).1)))), (rEq (.bool (decide (((encF f).1) = ((encF f).1))))), (rEq (.bool (decide (((encF f).1) = ((encF f).1))))), (rEq (.bool (decide (((encF f).1) = ((encF f).1))))), (rEq (.int .i64 ((decF b).2))), (rEq (.int .i64 ((decF b).2))), (rEq (.bool (decide (((decF b).2) = ((decF b).2))))), (rEq (.bool (decide (((decF b).2) = ((decF b).2))))), (rEq (.bool (decide (((decF b).2) = ((decF b).2))))), (rEq (.agg #[(.int .i64 (((decF b).1).Kind)), (.int .i64 (((decF b).1).View)), (.int .i64 (((decF b).1).Site)), (.int .i64 (((decF b).1).Seq)), r20])), (rEq (.agg #[(.int .i64 (((decF b).1).Kind)), (.int .i64 (((decF b).1).View)), (.int .i64 (((decF b).1).Site)), (.int .i64 (((decF b).1).Seq)), r25])), (rEq (.bool (decide (((decF b).1) = ((decF b).1))))), (rEq (.bool (decide (((decF b).1) = ((decF b).1))))), (rEq (.bool (decide (((decF b).1) = ((decF b).1))))), (rEq (.agg #[(.int .i64 f.Kind), (.int .i64 f.View), (.int .i64 f.Site), (.int .i64 f.Seq), v_f_Body])), (rEq (.bool (mayF f))), (rEq (.agg #[(.int .i64 f.Kind), (.int .i64 f.View), (.int .i64 f.Site), (.int .i64 f.Seq), v_f_Body])), (rEq (.bool (mayF f))), (rEq (.bool ((mayF f) == (mayF f)))), (rEq (.bool ((mayF f) == (mayF f)))), (rEq (.bool ((mayF f) == (mayF f)))), (rEq (.agg #[(.int .i64 f.Kind), (.int .i64 f.View), (.int .i64 f.Site), (.int .i64 f.Seq), v_f_Body])), (rEq (.agg #[(.int .i64 g.Kind), (.int .i64 g.View), (.int .i64 g.Site), (.int .i64 g.Seq), v_g_Body])), (rEq (.bool (decide (f = g)))), (rEq (.agg #[(.int .i64 f.Kind), (.int .i64 f.View), (.int .i64 f.Site), (.int .i64 f.Seq), v_f_Body])), (rEq (.agg #[(.int .i64 g.Kind), (.int .i64 g.View), (.int .i64 g.Site), (.int .i64 g.Seq), v_g_Body])), (rEq (.bool (decide (f = g)))), (rEq (.bool ((decide (f = g)) == (decide (f = g))))), (rEq (.bool ((decide (f = g)) == (decide (f = g))))), (rEq (.bool ((decide (f = g)) == (decide (f = g)))))] (by kernel_rfl) rfl (by kernel_rfl) ⟨sEq, sEq, sEq, sEq, sEq, sEq, sEq, sEq, sEq, sEq, sEq, sEq, sEq, sEq, sEq, sEq, sEq, sEq, sEq, sEq, sEq, sEq, sEq, sEq, sEq, sEq, sEq, sEq, sEq, sEq, sEq, sEq, sEq, sEq, sEq, sEq, sEq, sEq, sEq, trivial⟩ ⟨?_, ?_, ?_, ?_, ?_, ?_, ?_, ?_, ?_, ?_, ?_, ?_, ?_, ?_, ?_, ?_, ?_, ?_, ?_, ?_, ?_, ?_, ?_, ?_, ?_, ?_, ?_, ?_, ?_, ?_, ?_, ?_, ?_, ?_, ?_, ?_, ?_, ?_, ?_, trivial⟩ ?_
        · rintro ρ36 w37 hj38 ⟨_⟩
          have hst := hj38.2
          refine go_plain (op_call Try.call9 evs_nil (c_told13 (w0 := w37)) ?_)
          rintro _ w39 ⟨rfl, hcall⟩
          refine ⟨_, rfl, ?_⟩
          exact kD hj38 hcall rfl
        · rintro ρ40 w41 hj42 ⟨f52, _⟩
          have hst := hj42.2
          exact go_plain (op_move (.bool true) f52 (kS hj42 rfl))
        · rintro ρ43 w44 hj45 ⟨f8, f53, _⟩
          have hst := hj45.2
          exact go_yes 53 rfl f53 (op_move (.int .i64 ((encF f).2)) (f8.trans rfl) (kS hj45 rfl))
        · rintro ρ46 w47 hj48 ⟨f10, f53, _⟩
          have hst := hj48.2
          exact go_yes 53 rfl f53 (op_move (.int .i64 ((encF f).2)) (f10.trans rfl) (kS hj48 rfl))
        · rintro ρ49 w50 hj51 ⟨f54, f55, f53, _⟩
          have hst := hj51.2
          exact go_yes 53 rfl f53 (op_eql (k := .i64) (a := (encF f).2) (b := (encF f).2) f54 f55 (kS hj51 rfl))
        · rintro ρ52 w53 hj54 ⟨f53, f56, _⟩
          have hst := hj54.2
          exact go_plain (op_pick_t (.bool (decide (((encF f).2) = ((encF f).2)))) f53 f56 (kS hj54 rfl))
        · rintro ρ55 w56 hj57 ⟨f57, _⟩
          have hst := hj57.2
          exact go_plain (op_move (.bool (decide (((encF f).2) = ((encF f).2)))) f57 (kS hj57 rfl))
        · rintro ρ58 w59 hj60 ⟨f7, f58, _⟩
          have hst := hj60.2
          exact go_yes 58 rfl (f58.trans (congrArg Value.bool (show (decide (((encF f).2) = ((encF f).2))) = true from (decide_eq_true rfl)))) (op_move r17 (f7.trans rfl) (kS hj60 rfl))
        · rintro ρ61 w62 hj63 ⟨f59, f58, _⟩
          have hst := hj63.2
          exact go_yes 58 rfl (f58.trans (congrArg Value.bool (show (decide (((encF f).2) = ((encF f).2))) = true from (decide_eq_true rfl)))) (op_str (xs := (encF f).1) Try.underlying23 Try.underlying5 Try.underlying9 f59 (hst.sl 4 rfl) (kS hj63 rfl))
        · rintro ρ64 w65 hj66 ⟨f9, f58, _⟩
          have hst := hj66.2
          exact go_yes 58 rfl (f58.trans (congrArg Value.bool (show (decide (((encF f).2) = ((encF f).2))) = true from (decide_eq_true rfl)))) (op_move (.string (str ((encF f).1))) (f9.trans rfl) (kS hj66 rfl))
        · rintro ρ67 w68 hj69 ⟨f60, f61, f58, _⟩
          have hst := hj69.2
          exact go_yes 58 rfl (f58.trans (congrArg Value.bool (show (decide (((encF f).2) = ((encF f).2))) = true from (decide_eq_true rfl)))) (op_eqlStr (a := (encF f).1) (b := (encF f).1) f60 f61 (kS hj69 rfl))
        · rintro ρ70 w71 hj72 ⟨f58, f62, _⟩
          have hst := hj72.2
          exact go_plain (op_pick_t (.bool (decide (((encF f).1) = ((encF f).1)))) (f58.trans (congrArg Value.bool (show (decide (((encF f).2) = ((encF f).2))) = true from (decide_eq_true rfl)))) f62 (kS hj72 rfl))
        · rintro ρ73 w74 hj75 ⟨f63, _⟩
          have hst := hj75.2
          exact go_plain (op_move (.bool (decide (((encF f).1) = ((encF f).1)))) f63 (kS hj75 rfl))
        · rintro ρ76 w77 hj78 ⟨f12, f64, _⟩
          have hst := hj78.2
          exact go_yes 64 rfl (f64.trans (congrArg Value.bool (show (decide (((encF f).1) = ((encF f).1))) = true from (decide_eq_true rfl)))) (op_move (.int .i64 ((decF b).2)) (f12.trans rfl) (kS hj78 rfl))
        · rintro ρ79 w80 hj81 ⟨f14, f64, _⟩
          have hst := hj81.2
          exact go_yes 64 rfl (f64.trans (congrArg Value.bool (show (decide (((encF f).1) = ((encF f).1))) = true from (decide_eq_true rfl)))) (op_move (.int .i64 ((decF b).2)) (f14.trans rfl) (kS hj81 rfl))
        · rintro ρ82 w83 hj84 ⟨f65, f66, f64, _⟩
          have hst := hj84.2
          exact go_yes 64 rfl (f64.trans (congrArg Value.bool (show (decide (((encF f).1) = ((encF f).1))) = true from (decide_eq_true rfl)))) (op_eql (k := .i64) (a := (decF b).2) (b := (decF b).2) f65 f66 (kS hj84 rfl))
        · rintro ρ85 w86 hj87 ⟨f64, f67, _⟩
          have hst := hj87.2
          exact go_plain (op_pick_t (.bool (decide (((decF b).2) = ((decF b).2)))) (f64.trans (congrArg Value.bool (show (decide (((encF f).1) = ((encF f).1))) = true from (decide_eq_true rfl)))) f67 (kS hj87 rfl))
        · rintro ρ88 w89 hj90 ⟨f68, _⟩
          have hst := hj90.2
          exact go_plain (op_move (.bool (decide (((decF b).2) = ((decF b).2)))) f68 (kS hj90 rfl))
        · rintro ρ91 w92 hj93 ⟨f11, f69, _⟩
          have hst := hj93.2
          exact go_yes 69 rfl (f69.trans (congrArg Value.bool (show (decide (((decF b).2) = ((decF b).2))) = true from (decide_eq_true rfl)))) (op_loadN (cs := [(.int .i64 (((decF b).1).Kind)), (.int .i64 (((decF b).1).View)), (.int .i64 (((decF b).1).Site)), (.int .i64 (((decF b).1).Seq)), r20]) Try.isAgg25 Try.sizeOf25 (f11.trans rfl) (Pt.of (hst.cell 2 rfl) rfl) rfl (kS hj93 rfl))
        · rintro ρ94 w95 hj96 ⟨f13, f69, _⟩
          have hst := hj96.2
          exact go_yes 69 rfl (f69.trans (congrArg Value.bool (show (decide (((decF b).2) = ((decF b).2))) = true from (decide_eq_true rfl)))) (op_loadN (cs := [(.int .i64 (((decF b).1).Kind)), (.int .i64 (((decF b).1).View)), (.int .i64 (((decF b).1).Site)), (.int .i64 (((decF b).1).Seq)), r25]) Try.isAgg25 Try.sizeOf25 (f13.trans rfl) (Pt.of (hst.cell 0 rfl) rfl) rfl (kS hj96 rfl))
        · rintro ρ97 w98 hj99 ⟨f70, f71, f69, _⟩
          have hst := hj99.2
          refine go_yes 69 rfl (f69.trans (congrArg Value.bool (show (decide (((decF b).2) = ((decF b).2))) = true from (decide_eq_true rfl)))) (op_call Try.call14 (evs_cons (v := (.agg #[(.int .i64 (((decF b).1).Kind)), (.int .i64 (((decF b).1).View)), (.int .i64 (((decF b).1).Site)), (.int .i64 (((decF b).1).Seq)), r20])) f70 (evs_cons (v := (.agg #[(.int .i64 (((decF b).1).Kind)), (.int .i64 (((decF b).1).View)), (.int .i64 (((decF b).1).Site)), (.int .i64 (((decF b).1).Seq)), r25])) f71 evs_nil)) (c_rfSame (w0 := w98) (f := ((decF b).1)) (v_f_Body := r20) (h_f_Body := (hst.sl 3 rfl)) (g := ((decF b).1)) (v_g_Body := r25) (h_g_Body := (hst.slT 1 rfl))) ?_)
          rintro _ w100 ⟨rfl, hcall⟩
          refine ⟨_, rfl, ?_⟩
          exact kD hj99 hcall rfl
        · rintro ρ101 w102 hj103 ⟨f69, f72, _⟩
          have hst := hj103.2
          exact go_plain (op_pick_t (.bool (decide (((decF b).1) = ((decF b).1)))) (f69.trans (congrArg Value.bool (show (decide (((decF b).2) = ((decF b).2))) = true from (decide_eq_true rfl)))) f72 (kS hj103 rfl))
        · rintro ρ104 w105 hj106 ⟨f73, _⟩
          have hst := hj106.2
          exact go_plain (op_move (.bool (decide (((decF b).1) = ((decF b).1)))) f73 (kS hj106 rfl))
        · rintro ρ107 w108 hj109 ⟨f3, f74, _⟩
          have hst := hj109.2
          exact go_yes 74 rfl (f74.trans (congrArg Value.bool (show (decide (((decF b).1) = ((decF b).1))) = true from (decide_eq_true rfl)))) (op_loadN (cs := [(.int .i64 f.Kind), (.int .i64 f.View), (.int .i64 f.Site), (.int .i64 f.Seq), v_f_Body]) Try.isAgg25 Try.sizeOf25 (f3.trans rfl) (Pt.of (hst.cell 6 rfl) rfl) rfl (kS hj109 rfl))
        · rintro ρ110 w111 hj112 ⟨f75, f74, _⟩
          have hst := hj112.2
          refine go_yes 74 rfl (f74.trans (congrArg Value.bool (show (decide (((decF b).1) = ((decF b).1))) = true from (decide_eq_true rfl)))) (op_call Try.call15 (evs_cons (v := (.agg #[(.int .i64 f.Kind), (.int .i64 f.View), (.int .i64 f.Site), (.int .i64 f.Seq), v_f_Body])) f75 evs_nil) (c_fMay (w0 := w111) (f := f) (v_f_Body := v_f_Body) (h_f_Body := (h_f_Body.below hst.below))) ?_)
          rintro _ w113 ⟨rfl, hcall⟩
          refine ⟨_, rfl, ?_⟩
          exact kD hj112 hcall rfl
        · rintro ρ114 w115 hj116 ⟨f3, f74, _⟩
          have hst := hj116.2
          exact go_yes 74 rfl (f74.trans (congrArg Value.bool (show (decide (((decF b).1) = ((decF b).1))) = true from (decide_eq_true rfl)))) (op_loadN (cs := [(.int .i64 f.Kind), (.int .i64 f.View), (.int .i64 f.Site), (.int .i64 f.Seq), v_f_Body]) Try.isAgg25 Try.sizeOf25 (f3.trans rfl) (Pt.of (hst.cell 6 rfl) rfl) rfl (kS hj116 rfl))
        · rintro ρ117 w118 hj119 ⟨f77, f74, _⟩
          have hst := hj119.2
          refine go_yes 74 rfl (f74.trans (congrArg Value.bool (show (decide (((decF b).1) = ((decF b).1))) = true from (decide_eq_true rfl)))) (op_call Try.call16 (evs_cons (v := (.agg #[(.int .i64 f.Kind), (.int .i64 f.View), (.int .i64 f.Site), (.int .i64 f.Seq), v_f_Body])) f77 evs_nil) (c_rfMay (w0 := w118) (f := f) (v_f_Body := v_f_Body) (h_f_Body := (h_f_Body.below hst.below))) ?_)
          rintro _ w120 ⟨rfl, hcall⟩
          refine ⟨_, rfl, ?_⟩
          exact kD hj119 hcall rfl
        · rintro ρ121 w122 hj123 ⟨f76, f78, f74, _⟩
          have hst := hj123.2
          exact go_yes 74 rfl (f74.trans (congrArg Value.bool (show (decide (((decF b).1) = ((decF b).1))) = true from (decide_eq_true rfl)))) (op_eqlb (a := mayF f) (b := mayF f) Try.underlying4 f76 f78 (kS hj123 rfl))
        · rintro ρ124 w125 hj126 ⟨f74, f79, _⟩
          have hst := hj126.2
          exact go_plain (op_pick_t (.bool ((mayF f) == (mayF f))) (f74.trans (congrArg Value.bool (show (decide (((decF b).1) = ((decF b).1))) = true from (decide_eq_true rfl)))) f79 (kS hj126 rfl))
        · rintro ρ127 w128 hj129 ⟨f80, _⟩
          have hst := hj129.2
          exact go_plain (op_move (.bool ((mayF f) == (mayF f))) f80 (kS hj129 rfl))
        · rintro ρ130 w131 hj132 ⟨f3, f81, _⟩
          have hst := hj132.2
          exact go_yes 81 rfl (f81.trans (congrArg Value.bool (show ((mayF f) == (mayF f)) = true from (beq_self_eq_true _)))) (op_loadN (cs := [(.int .i64 f.Kind), (.int .i64 f.View), (.int .i64 f.Site), (.int .i64 f.Seq), v_f_Body]) Try.isAgg25 Try.sizeOf25 (f3.trans rfl) (Pt.of (hst.cell 6 rfl) rfl) rfl (kS hj132 rfl))
        · rintro ρ133 w134 hj135 ⟨f4, f81, _⟩
          have hst := hj135.2
          exact go_yes 81 rfl (f81.trans (congrArg Value.bool (show ((mayF f) == (mayF f)) = true from (beq_self_eq_true _)))) (op_loadN (cs := [(.int .i64 g.Kind), (.int .i64 g.View), (.int .i64 g.Site), (.int .i64 g.Seq), v_g_Body]) Try.isAgg25 Try.sizeOf25 (f4.trans rfl) (Pt.of (hst.cell 5 rfl) rfl) rfl (kS hj135 rfl))
        · rintro ρ136 w137 hj138 ⟨f82, f83, f81, _⟩
          have hst := hj138.2
          refine go_yes 81 rfl (f81.trans (congrArg Value.bool (show ((mayF f) == (mayF f)) = true from (beq_self_eq_true _)))) (op_call Try.call11 (evs_cons (v := (.agg #[(.int .i64 f.Kind), (.int .i64 f.View), (.int .i64 f.Site), (.int .i64 f.Seq), v_f_Body])) f82 (evs_cons (v := (.agg #[(.int .i64 g.Kind), (.int .i64 g.View), (.int .i64 g.Site), (.int .i64 g.Seq), v_g_Body])) f83 evs_nil)) (c_fSame (w0 := w137) (f := f) (v_f_Body := v_f_Body) (h_f_Body := (h_f_Body.below hst.below)) (g := g) (v_g_Body := v_g_Body) (h_g_Body := (h_g_Body.below hst.below))) ?_)
          rintro _ w139 ⟨rfl, hcall⟩
          refine ⟨_, rfl, ?_⟩
          exact kD hj138 hcall rfl
        · rintro ρ140 w141 hj142 ⟨f3, f81, _⟩
          have hst := hj142.2
          exact go_yes 81 rfl (f81.trans (congrArg Value.bool (show ((mayF f) == (mayF f)) = true from (beq_self_eq_true _)))) (op_loadN (cs := [(.int .i64 f.Kind), (.int .i64 f.View), (.int .i64 f.Site), (.int .i64 f.Seq), v_f_Body]) Try.isAgg25 Try.sizeOf25 (f3.trans rfl) (Pt.of (hst.cell 6 rfl) rfl) rfl (kS hj142 rfl))
        · rintro ρ143 w144 hj145 ⟨f4, f81, _⟩
          have hst := hj145.2
          exact go_yes 81 rfl (f81.trans (congrArg Value.bool (show ((mayF f) == (mayF f)) = true from (beq_self_eq_true _)))) (op_loadN (cs := [(.int .i64 g.Kind), (.int .i64 g.View), (.int .i64 g.Site), (.int .i64 g.Seq), v_g_Body]) Try.isAgg25 Try.sizeOf25 (f4.trans rfl) (Pt.of (hst.cell 5 rfl) rfl) rfl (kS hj145 rfl))
        · rintro ρ146 w147 hj148 ⟨f85, f86, f81, _⟩
          have hst := hj148.2
          refine go_yes 81 rfl (f81.trans (congrArg Value.bool (show ((mayF f) == (mayF f)) = true from (beq_self_eq_true _)))) (op_call Try.call14 (evs_cons (v := (.agg #[(.int .i64 f.Kind), (.int .i64 f.View), (.int .i64 f.Site), (.int .i64 f.Seq), v_f_Body])) f85 (evs_cons (v := (.agg #[(.int .i64 g.Kind), (.int .i64 g.View), (.int .i64 g.Site), (.int .i64 g.Seq), v_g_Body])) f86 evs_nil)) (c_rfSame (w0 := w147) (f := f) (v_f_Body := v_f_Body) (h_f_Body := (h_f_Body.below hst.below)) (g := g) (v_g_Body := v_g_Body) (h_g_Body := (h_g_Body.below hst.below))) ?_)
          rintro _ w149 ⟨rfl, hcall⟩
          refine ⟨_, rfl, ?_⟩
          exact kD hj148 hcall rfl
        · rintro ρ150 w151 hj152 ⟨f84, f87, f81, _⟩
          have hst := hj152.2
          exact go_yes 81 rfl (f81.trans (congrArg Value.bool (show ((mayF f) == (mayF f)) = true from (beq_self_eq_true _)))) (op_eqlb (a := decide (f = g)) (b := decide (f = g)) Try.underlying4 f84 f87 (kS hj152 rfl))
        · rintro ρ153 w154 hj155 ⟨f81, f88, _⟩
          have hst := hj155.2
          exact go_plain (op_pick_t (.bool ((decide (f = g)) == (decide (f = g)))) (f81.trans (congrArg Value.bool (show ((mayF f) == (mayF f)) = true from (beq_self_eq_true _)))) f88 (kS hj155 rfl))
        · rintro ρ156 w157 hj158 ⟨f89, _⟩
          have hst := hj158.2
          exact go_plain (op_assign (.bool ((decide (f = g)) == (decide (f = g)))) f89 (kS hj158 rfl))
        · intro ρ159 w160 hbw160 hst hRw160 hkw160
          have uw160_0 : ρ159 0 = (.agg #[(.int .i64 f.Kind), (.int .i64 f.View), (.int .i64 f.Site), (.int .i64 f.Seq), v_f_Body]) := (hkw160 0 rfl).trans rfl
          have uw160_1 : ρ159 1 = (.agg #[(.int .i64 g.Kind), (.int .i64 g.View), (.int .i64 g.Site), (.int .i64 g.Seq), v_g_Body]) := (hkw160 1 rfl).trans rfl
          have uw160_2 : ρ159 2 = v_b := (hkw160 2 rfl).trans rfl
          have uw160_3 : ρ159 3 = (.pointer (some ⟨g1, 0, none⟩)) := (hkw160 3 rfl).trans rfl
          have uw160_4 : ρ159 4 = (.pointer (some ⟨g3, 0, none⟩)) := (hkw160 4 rfl).trans rfl
          have uw160_15 : ρ159 15 = (.pointer (some ⟨g1, (0 + 4), none⟩)) := (hkw160 15 rfl).trans rfl
          have uw160_16 : ρ159 16 = v_f_Body := (hkw160 16 rfl).trans rfl
          have uw160_17 : ρ159 17 = (.int .i64 (f.Body.length : Int)) := (hkw160 17 rfl).trans rfl
          have uw160_18 : ρ159 18 = (.bool (decide (100 < (f.Body.length : Int)))) := (hkw160 18 rfl).trans rfl
          have uw160_19 : ρ159 19 = (.bool (decide (100 < (f.Body.length : Int)))) := (hkw160 19 rfl).trans rfl
          have uw160_20 : ρ159 20 = (.pointer (some ⟨g3, (0 + 4), none⟩)) := (hkw160 20 rfl).trans rfl
          have uw160_21 : ρ159 21 = v_g_Body := (hkw160 21 rfl).trans rfl
          have uw160_22 : ρ159 22 = (.int .i64 (g.Body.length : Int)) := (hkw160 22 rfl).trans rfl
          have uw160_23 : ρ159 23 = (.bool (decide (100 < (g.Body.length : Int)))) := (hkw160 23 rfl).trans rfl
          have uw160_24 : ρ159 24 = (.bool (decide (100 < (g.Body.length : Int)))) := (hkw160 24 rfl).trans rfl
          have uw160_25 : ρ159 25 = (.bool (decide (100 < (g.Body.length : Int)))) := (hkw160 25 rfl).trans rfl
          have uw160_26 : ρ159 26 = v_b := (hkw160 26 rfl).trans rfl
          have uw160_27 : ρ159 27 = (.int .i64 (b.length : Int)) := (hkw160 27 rfl).trans rfl
          have uw160_28 : ρ159 28 = (.bool (decide (200 < (b.length : Int)))) := (hkw160 28 rfl).trans rfl
          have uw160_29 : ρ159 29 = (.bool (decide (200 < (b.length : Int)))) := (hkw160 29 rfl).trans rfl
          have uw160_32 : ρ159 32 = (.agg #[(.int .i64 f.Kind), (.int .i64 f.View), (.int .i64 f.Site), (.int .i64 f.Seq), v_f_Body]) := (hkw160 32 rfl).trans rfl
          have uw160_33 : ρ159 33 = (.tuple #[r17, (.int .i64 ((encF f).2))]) := (hkw160 33 rfl).trans rfl
          have uw160_31 : ρ159 31 = (.tuple #[r17, (.int .i64 ((encF f).2))]) := (hkw160 31 rfl).trans rfl
          have uw160_34 : ρ159 34 = r17 := (hkw160 34 rfl).trans rfl
          have uw160_35 : ρ159 35 = (.int .i64 ((encF f).2)) := (hkw160 35 rfl).trans rfl
          have uw160_37 : ρ159 37 = (.agg #[(.int .i64 f.Kind), (.int .i64 f.View), (.int .i64 f.Site), (.int .i64 f.Seq), v_f_Body]) := (hkw160 37 rfl).trans rfl
          have uw160_38 : ρ159 38 = (.tuple #[(.string (str ((encF f).1))), (.int .i64 ((encF f).2))]) := (hkw160 38 rfl).trans rfl
          have uw160_36 : ρ159 36 = (.tuple #[(.string (str ((encF f).1))), (.int .i64 ((encF f).2))]) := (hkw160 36 rfl).trans rfl
          have uw160_39 : ρ159 39 = (.string (str ((encF f).1))) := (hkw160 39 rfl).trans rfl
          have uw160_40 : ρ159 40 = (.int .i64 ((encF f).2)) := (hkw160 40 rfl).trans rfl
          have uw160_42 : ρ159 42 = v_b := (hkw160 42 rfl).trans rfl
          have uw160_43 : ρ159 43 = (.tuple #[(.agg #[(.int .i64 (((decF b).1).Kind)), (.int .i64 (((decF b).1).View)), (.int .i64 (((decF b).1).Site)), (.int .i64 (((decF b).1).Seq)), r20]), (.int .i64 ((decF b).2))]) := (hkw160 43 rfl).trans rfl
          have uw160_41 : ρ159 41 = (.tuple #[(.agg #[(.int .i64 (((decF b).1).Kind)), (.int .i64 (((decF b).1).View)), (.int .i64 (((decF b).1).Site)), (.int .i64 (((decF b).1).Seq)), r20]), (.int .i64 ((decF b).2))]) := (hkw160 41 rfl).trans rfl
          have uw160_44 : ρ159 44 = (.agg #[(.int .i64 (((decF b).1).Kind)), (.int .i64 (((decF b).1).View)), (.int .i64 (((decF b).1).Site)), (.int .i64 (((decF b).1).Seq)), r20]) := (hkw160 44 rfl).trans rfl
          have uw160_45 : ρ159 45 = (.int .i64 ((decF b).2)) := (hkw160 45 rfl).trans rfl
          have uw160_11 : ρ159 11 = (.pointer (some ⟨g22, 0, none⟩)) := (hkw160 11 rfl).trans rfl
          have uw160_47 : ρ159 47 = v_b := (hkw160 47 rfl).trans rfl
          have uw160_48 : ρ159 48 = (.string (str b)) := (hkw160 48 rfl).trans rfl
          have uw160_49 : ρ159 49 = (.tuple #[(.agg #[(.int .i64 (((decF b).1).Kind)), (.int .i64 (((decF b).1).View)), (.int .i64 (((decF b).1).Site)), (.int .i64 (((decF b).1).Seq)), r25]), (.int .i64 ((decF b).2))]) := (hkw160 49 rfl).trans rfl
          have uw160_46 : ρ159 46 = (.tuple #[(.agg #[(.int .i64 (((decF b).1).Kind)), (.int .i64 (((decF b).1).View)), (.int .i64 (((decF b).1).Site)), (.int .i64 (((decF b).1).Seq)), r25]), (.int .i64 ((decF b).2))]) := (hkw160 46 rfl).trans rfl
          have uw160_50 : ρ159 50 = (.agg #[(.int .i64 (((decF b).1).Kind)), (.int .i64 (((decF b).1).View)), (.int .i64 (((decF b).1).Site)), (.int .i64 (((decF b).1).Seq)), r25]) := (hkw160 50 rfl).trans rfl
          have uw160_51 : ρ159 51 = (.int .i64 ((decF b).2)) := (hkw160 51 rfl).trans rfl
          have uw160_13 : ρ159 13 = (.pointer (some ⟨g27, 0, none⟩)) := (hkw160 13 rfl).trans rfl
          have uw160_6 : ρ159 6 = (.bool ((decide (f = g)) == (decide (f = g)))) := hRw160 38 6 rfl
          refine then_n ?_
          refine cE_ret ?_
          refine post_r _ (res1 (v := (.bool true)) (uw160_6.trans (congrArg Value.bool (show ((decide (f = g)) == (decide (f = g))) = true from (beq_self_eq_true _))))) ?_
          exact ⟨rfl, hst.bare⟩

end Go.Proofs.Ytfljkaigfmedeaa
