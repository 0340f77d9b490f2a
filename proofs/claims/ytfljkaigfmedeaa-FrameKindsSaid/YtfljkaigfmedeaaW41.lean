/- the law FrameKinds -/
import Derived.Test.YtfljkaigfmedeaaW40
import Derived.Test.YtfljkaigfmedeaaW10
import Derived.Test.YtfljkaigfmedeaaW11
import Derived.Test.YtfljkaigfmedeaaW12
import Derived.Test.YtfljkaigfmedeaaW13
import Derived.Test.YtfljkaigfmedeaaW14
import Derived.Test.YtfljkaigfmedeaaW15
import Derived.Test.YtfljkaigfmedeaaW16
import Derived.Test.YtfljkaigfmedeaaW17
import Derived.Test.YtfljkaigfmedeaaW18
import Derived.Test.YtfljkaigfmedeaaW19
import Derived.Test.YtfljkaigfmedeaaW20
import Derived.Test.YtfljkaigfmedeaaW21
import Derived.Test.YtfljkaigfmedeaaW22
import Derived.Test.YtfljkaigfmedeaaW23
namespace Go.Proofs.Ytfljkaigfmedeaa
open Go.RowKit

theorem c_FrameKinds (w0 : World) (f : Frame) (v_f_Body : Value) (h_f_Body : Sl w0 u8E v_f_Body f.Body) (g : Frame) (v_g_Body : Value) (h_g_Body : Sl w0 u8E v_g_Body g.Body) (hf : f.ok) (hg : g.ok) :
    Calls Try.prog 6 #[(.agg #[(.int .i64 f.Kind), (.int .i64 f.View), (.int .i64 f.Site), (.int .i64 f.Seq), v_f_Body]), (.agg #[(.int .i64 g.Kind), (.int .i64 g.View), (.int .i64 g.Site), (.int .i64 g.Seq), v_g_Body])] w0 fun e w' => e = .returned (.bool true) ∧ St w0 w' [] := by
  refine calls_E (n := 60) (ts := [4]) Try.func6 rfl rfl rfl (by simp) ?_
  have hst := St.start w0
  refine cE_seq ?_
  refine cE_region rfl ?_
  refine s_cons (op_box (v := (.agg #[(.int .i64 f.Kind), (.int .i64 f.View), (.int .i64 f.Site), (.int .i64 f.Seq), v_f_Body])) (cs := #[(.int .i64 f.Kind), (.int .i64 f.View), (.int .i64 f.Site), (.int .i64 f.Seq), v_f_Body]) hst rfl rfl (fun g1 w2 hst _ => ?_))
  replace hst : St w0 w2 [.blk g1 25 #[(.int .i64 f.Kind), (.int .i64 f.View), (.int .i64 f.Site), (.int .i64 f.Seq), v_f_Body]] := hst
  refine s_cons (op_box (v := (.agg #[(.int .i64 g.Kind), (.int .i64 g.View), (.int .i64 g.Site), (.int .i64 g.Seq), v_g_Body])) (cs := #[(.int .i64 g.Kind), (.int .i64 g.View), (.int .i64 g.Site), (.int .i64 g.Seq), v_g_Body]) hst rfl rfl (fun g3 w4 hst _ => ?_))
  replace hst : St w0 w4 [.blk g3 25 #[(.int .i64 g.Kind), (.int .i64 g.View), (.int .i64 g.Site), (.int .i64 g.Seq), v_g_Body], .blk g1 25 #[(.int .i64 f.Kind), (.int .i64 f.View), (.int .i64 f.Site), (.int .i64 f.Seq), v_f_Body]] := hst
  refine s_cons (op_assign (.bool false) rfl ?_)
  refine s_nil ?_
  refine then_n ?_
  refine cE_seq ?_
  refine cE_seq ?_
  refine cE_region rfl ?_
  refine s_cons (op_fieldAddr (s := 0) Try.underlying25 rfl rfl Try.sizeOf23 rfl ?_)
  refine s_cons (op_load1 (u := v_f_Body) Try.isAgg23 rfl ((hst.cell 1 rfl).drop 4) ?_)
  refine s_cons (op_len (E := u8E) (xs := f.Body) Try.underlying23 rfl h_f_Body ?_)
  refine s_cons (op_gtr (k := .i64) (a := (f.Body.length : Int)) (b := 60) rfl rfl ?_)
  refine s_cons (op_move (.bool (decide (60 < (f.Body.length : Int)))) rfl ?_)
  rcases Bool.eq_false_or_eq_true (decide (60 < (f.Body.length : Int))) with b5 | b5
  · have c6 : 60 < (f.Body.length : Int) := of_decide_eq_true b5
    refine s_no 13 rfl (congrArg Value.bool b5) ?_
    refine s_no 13 rfl (congrArg Value.bool b5) ?_
    refine s_no 13 rfl (congrArg Value.bool b5) ?_
    refine s_no 13 rfl (congrArg Value.bool b5) ?_
    refine s_cons (op_pick_t (.bool true) (congrArg Value.bool b5) rfl ?_)
    refine s_cons (op_move (.bool true) rfl ?_)
    refine s_no 19 rfl rfl ?_
    refine s_no 19 rfl rfl ?_
    refine s_no 19 rfl rfl ?_
    refine s_cons (op_pick_t (.bool true) rfl rfl ?_)
    refine s_cons (op_move (.bool true) rfl ?_)
    refine s_no 24 rfl rfl ?_
    refine s_no 24 rfl rfl ?_
    refine s_no 24 rfl rfl ?_
    refine s_cons (op_pick_t (.bool true) rfl rfl ?_)
    refine s_nil ?_
    refine then_n ?_
    refine cE_cond true rfl (fun _ => ?_) (fun h => by cases h)
    refine cE_seq ?_
    refine cE_region rfl ?_
    refine s_cons (op_call Try.call9 evs_nil (c_told13 (w0 := w4)) ?_)
    rintro _ w7 ⟨rfl, hcall⟩
    refine ⟨_, rfl, ?_⟩
    have hst : St w0 w7 [.blk g3 25 #[(.int .i64 g.Kind), (.int .i64 g.View), (.int .i64 g.Site), (.int .i64 g.Seq), v_g_Body], .blk g1 25 #[(.int .i64 f.Kind), (.int .i64 f.View), (.int .i64 f.Site), (.int .i64 f.Seq), v_f_Body]] := hst.call hcall
    refine s_cons (op_assign (.bool true) rfl ?_)
    refine s_nil ?_
    refine then_n ?_
    refine cE_ret ?_
    refine then_r ?_
    refine post_r _ (res1 (v := (.bool true)) rfl) ?_
    exact ⟨rfl, hst.bare⟩
  · have c8 : ¬ (60 < (f.Body.length : Int)) := of_decide_eq_false b5
    refine s_yes 13 rfl (congrArg Value.bool b5) (op_fieldAddr (s := 0) Try.underlying25 rfl rfl Try.sizeOf23 rfl ?_)
    refine s_yes 13 rfl (congrArg Value.bool b5) (op_load1 (u := v_g_Body) Try.isAgg23 rfl ((hst.cell 0 rfl).drop 4) ?_)
    refine s_yes 13 rfl (congrArg Value.bool b5) (op_len (E := u8E) (xs := g.Body) Try.underlying23 rfl h_g_Body ?_)
    refine s_yes 13 rfl (congrArg Value.bool b5) (op_gtr (k := .i64) (a := (g.Body.length : Int)) (b := 60) rfl rfl ?_)
    refine s_cons (op_pick_f (.bool (decide (60 < (g.Body.length : Int)))) (congrArg Value.bool b5) rfl ?_)
    refine s_cons (op_move (.bool (decide (60 < (g.Body.length : Int)))) rfl ?_)
    rcases Bool.eq_false_or_eq_true (decide (60 < (g.Body.length : Int))) with b9 | b9
    · have c10 : 60 < (g.Body.length : Int) := of_decide_eq_true b9
      refine s_no 19 rfl (congrArg Value.bool b9) ?_
      refine s_no 19 rfl (congrArg Value.bool b9) ?_
      refine s_no 19 rfl (congrArg Value.bool b9) ?_
      refine s_cons (op_pick_t (.bool true) (congrArg Value.bool b9) rfl ?_)
      refine s_cons (op_move (.bool true) rfl ?_)
      refine s_no 24 rfl rfl ?_
      refine s_no 24 rfl rfl ?_
      refine s_no 24 rfl rfl ?_
      refine s_cons (op_pick_t (.bool true) rfl rfl ?_)
      refine s_nil ?_
      refine then_n ?_
      refine cE_cond true rfl (fun _ => ?_) (fun h => by cases h)
      refine cE_seq ?_
      refine cE_region rfl ?_
      refine s_cons (op_call Try.call9 evs_nil (c_told13 (w0 := w4)) ?_)
      rintro _ w11 ⟨rfl, hcall⟩
      refine ⟨_, rfl, ?_⟩
      have hst : St w0 w11 [.blk g3 25 #[(.int .i64 g.Kind), (.int .i64 g.View), (.int .i64 g.Site), (.int .i64 g.Seq), v_g_Body], .blk g1 25 #[(.int .i64 f.Kind), (.int .i64 f.View), (.int .i64 f.Site), (.int .i64 f.Seq), v_f_Body]] := hst.call hcall
      refine s_cons (op_assign (.bool true) rfl ?_)
      refine s_nil ?_
      refine then_n ?_
      refine cE_ret ?_
      refine then_r ?_
      refine post_r _ (res1 (v := (.bool true)) rfl) ?_
      exact ⟨rfl, hst.bare⟩
    · have c12 : ¬ (60 < (g.Body.length : Int)) := of_decide_eq_false b9
      refine s_yes 19 rfl (congrArg Value.bool b9) (op_loadN (cs := [(.int .i64 f.Kind), (.int .i64 f.View), (.int .i64 f.Site), (.int .i64 f.Seq), v_f_Body]) Try.isAgg25 Try.sizeOf25 rfl (Pt.of (hst.cell 1 rfl) rfl) rfl ?_)
      refine s_yes 19 rfl (congrArg Value.bool b9) (op_call Try.call15 (evs_cons (v := (.agg #[(.int .i64 f.Kind), (.int .i64 f.View), (.int .i64 f.Site), (.int .i64 f.Seq), v_f_Body])) rfl evs_nil) (c_fMay (w0 := w4) (f := f) (v_f_Body := v_f_Body) (h_f_Body := (h_f_Body.below hst.below))) ?_)
      rintro _ w13 ⟨rfl, hcall⟩
      refine ⟨_, rfl, ?_⟩
      have hst : St w0 w13 [.blk g3 25 #[(.int .i64 g.Kind), (.int .i64 g.View), (.int .i64 g.Site), (.int .i64 g.Seq), v_g_Body], .blk g1 25 #[(.int .i64 f.Kind), (.int .i64 f.View), (.int .i64 f.Site), (.int .i64 f.Seq), v_f_Body]] := hst.call hcall
      refine s_yes 19 rfl (congrArg Value.bool b9) (op_not (b := mayF f) rfl ?_)
      refine s_cons (op_pick_f (.bool (!(mayF f))) (congrArg Value.bool b9) rfl ?_)
      refine s_cons (op_move (.bool (!(mayF f))) rfl ?_)
      rcases Bool.eq_false_or_eq_true (mayF f) with b14 | b14
      · have hmf := b14
        refine s_yes 24 rfl (congrArg Value.bool (congrArg (! ·) b14)) (op_loadN (cs := [(.int .i64 g.Kind), (.int .i64 g.View), (.int .i64 g.Site), (.int .i64 g.Seq), v_g_Body]) Try.isAgg25 Try.sizeOf25 rfl (Pt.of (hst.cell 0 rfl) rfl) rfl ?_)
        refine s_yes 24 rfl (congrArg Value.bool (congrArg (! ·) b14)) (op_call Try.call15 (evs_cons (v := (.agg #[(.int .i64 g.Kind), (.int .i64 g.View), (.int .i64 g.Site), (.int .i64 g.Seq), v_g_Body])) rfl evs_nil) (c_fMay (w0 := w13) (f := g) (v_f_Body := v_g_Body) (h_f_Body := (h_g_Body.below hst.below))) ?_)
        rintro _ w15 ⟨rfl, hcall⟩
        refine ⟨_, rfl, ?_⟩
        have hst : St w0 w15 [.blk g3 25 #[(.int .i64 g.Kind), (.int .i64 g.View), (.int .i64 g.Site), (.int .i64 g.Seq), v_g_Body], .blk g1 25 #[(.int .i64 f.Kind), (.int .i64 f.View), (.int .i64 f.Site), (.int .i64 f.Seq), v_f_Body]] := hst.call hcall
        refine s_yes 24 rfl (congrArg Value.bool (congrArg (! ·) b14)) (op_not (b := mayF g) rfl ?_)
        refine s_cons (op_pick_f (.bool (!(mayF g))) (congrArg Value.bool (congrArg (! ·) b14)) rfl ?_)
        refine s_nil ?_
        refine then_n ?_
        rcases Bool.eq_false_or_eq_true (mayF g) with b16 | b16
        · have hmg := b16
          refine cE_cond false (congrArg Value.bool (congrArg (! ·) b16)) (fun h => by cases h) (fun _ => ?_)
          refine cE_skip ?_
          refine then_n ?_
          refine cE_seq ?_
          refine cE_region rfl ?_
          refine s_cons (op_loadN (cs := [(.int .i64 f.Kind), (.int .i64 f.View), (.int .i64 f.Site), (.int .i64 f.Seq), v_f_Body]) Try.isAgg25 Try.sizeOf25 rfl (Pt.of (hst.cell 1 rfl) rfl) rfl ?_)
          refine s_cons (op_call Try.call8 (evs_cons (v := (.agg #[(.int .i64 f.Kind), (.int .i64 f.View), (.int .i64 f.Site), (.int .i64 f.Seq), v_f_Body])) rfl evs_nil) (c_fPut (w0 := w15) (f := f) (v_f_Body := v_f_Body) (h_f_Body := (h_f_Body.below hst.below)) (hf := (by omega))) ?_)
          rintro _ w18 ⟨r17, rfl, hcall⟩
          refine ⟨_, rfl, ?_⟩
          have hst : St w0 w18 [rowT 5 u8E r17 ((encF f).1), .blk g3 25 #[(.int .i64 g.Kind), (.int .i64 g.View), (.int .i64 g.Site), (.int .i64 g.Seq), v_g_Body], .blk g1 25 #[(.int .i64 f.Kind), (.int .i64 f.View), (.int .i64 f.Site), (.int .i64 f.Seq), v_f_Body]] := hst.call hcall
          refine s_cons (op_move (.tuple #[r17, (.int .i64 ((encF f).2))]) rfl ?_)
          refine s_cons (op_extract r17 rfl rfl ?_)
          refine s_cons (op_extract (.int .i64 ((encF f).2)) rfl rfl ?_)
          refine s_cons (op_assign r17 rfl ?_)
          refine s_cons (op_assign (.int .i64 ((encF f).2)) rfl ?_)
          refine s_nil ?_
          refine then_n ?_
          refine cE_seq ?_
          refine cE_region rfl ?_
          refine s_cons (op_loadN (cs := [(.int .i64 g.Kind), (.int .i64 g.View), (.int .i64 g.Site), (.int .i64 g.Seq), v_g_Body]) Try.isAgg25 Try.sizeOf25 rfl (Pt.of (hst.cell 1 rfl) rfl) rfl ?_)
          refine s_cons (op_call Try.call8 (evs_cons (v := (.agg #[(.int .i64 g.Kind), (.int .i64 g.View), (.int .i64 g.Site), (.int .i64 g.Seq), v_g_Body])) rfl evs_nil) (c_fPut (w0 := w18) (f := g) (v_f_Body := v_g_Body) (h_f_Body := (h_g_Body.below hst.below)) (hf := (by omega))) ?_)
          rintro _ w20 ⟨r19, rfl, hcall⟩
          refine ⟨_, rfl, ?_⟩
          have hst : St w0 w20 [rowT 5 u8E r19 ((encF g).1), rowT 5 u8E r17 ((encF f).1), .blk g3 25 #[(.int .i64 g.Kind), (.int .i64 g.View), (.int .i64 g.Site), (.int .i64 g.Seq), v_g_Body], .blk g1 25 #[(.int .i64 f.Kind), (.int .i64 f.View), (.int .i64 f.Site), (.int .i64 f.Seq), v_f_Body]] := hst.call hcall
          refine s_cons (op_move (.tuple #[r19, (.int .i64 ((encF g).2))]) rfl ?_)
          refine s_cons (op_extract r19 rfl rfl ?_)
          refine s_cons (op_extract (.int .i64 ((encF g).2)) rfl rfl ?_)
          refine s_cons (op_assign r19 rfl ?_)
          refine s_cons (op_assign (.int .i64 ((encF g).2)) rfl ?_)
          refine s_nil ?_
          refine then_n ?_
          refine cE_seq ?_
          refine cE_regionL hst [[], [(40, some 0)], [(6, none), (41, some 1)], [(42, some 2), (41, some 1)], [(41, some 1), (43, some 3)], [(44, some 4)], [(8, none), (45, some 5)], [(46, some 6), (45, some 5)], [(45, some 5), (47, some 7)], [(48, some 8)], [(5, none), (49, some 9)], [(50, some 10), (49, some 9)], [(7, none), (49, some 9)], [(52, some 12), (49, some 9)], [(51, some 11), (53, some 13), (49, some 9)], [(2, none), (49, some 9)], [(3, none), (49, some 9)], [(55, some 15), (56, some 16), (49, some 9)], [(54, some 14), (57, some 17), (49, some 9)], [(49, some 9), (58, some 18)], [(59, some 19)]] [(rEq (.bool true)), (rEq (.bool true)), (rEq (.int .i64 ((encF f).2))), (rEq (.bool (decide (((encF f).2) = 0)))), (rEq (.bool (decide (((encF f).2) = 0)))), (rEq (.bool (decide (((encF f).2) = 0)))), (rEq (.int .i64 ((encF g).2))), (rEq (.bool (decide (((encF g).2) = 0)))), (rEq (.bool (decide (((encF g).2) = 0)))), (rEq (.bool (decide (((encF g).2) = 0)))), (rEq r17), (rEq (.string (str ((encF f).1)))), (rEq r19), (rEq (.string (str ((encF g).1)))), (rEq (.bool (decide (((encF f).1) = ((encF g).1))))), (rEq (.agg #[(.int .i64 f.Kind), (.int .i64 f.View), (.int .i64 f.Site), (.int .i64 f.Seq), v_f_Body])), (rEq (.agg #[(.int .i64 g.Kind), (.int .i64 g.View), (.int .i64 g.Site), (.int .i64 g.Seq), v_g_Body])), (rEq (.bool (decide (f = g)))), (rEq (.bool ((decide (((encF f).1) = ((encF g).1))) == (decide (f = g))))), (rEq (.bool ((decide (((encF f).1) = ((encF g).1))) == (decide (f = g))))), (rEq (.bool ((decide (((encF f).1) = ((encF g).1))) == (decide (f = g)))))] (by kernel_rfl) rfl (by kernel_rfl) ⟨sEq, sEq, sEq, sEq, sEq, sEq, sEq, sEq, sEq, sEq, sEq, sEq, sEq, sEq, sEq, sEq, sEq, sEq, sEq, sEq, sEq, trivial⟩ ⟨?_, ?_, ?_, ?_, ?_, ?_, ?_, ?_, ?_, ?_, ?_, ?_, ?_, ?_, ?_, ?_, ?_, ?_, ?_, ?_, ?_, trivial⟩ ?_
          · rintro ρ23 w24 hj25 ⟨_⟩
            have hst := hj25.2
            refine go_plain (op_call Try.call9 evs_nil (c_told13 (w0 := w24)) ?_)
            rintro _ w26 ⟨rfl, hcall⟩
            refine ⟨_, rfl, ?_⟩
            exact kD hj25 hcall rfl
          · rintro ρ27 w28 hj29 ⟨f40, _⟩
            have hst := hj29.2
            exact go_plain (op_move (.bool true) f40 (kS hj29 rfl))
          · rintro ρ30 w31 hj32 ⟨f6, f41, _⟩
            have hst := hj32.2
            exact go_yes 41 rfl f41 (op_move (.int .i64 ((encF f).2)) (f6.trans rfl) (kS hj32 rfl))
          · rintro ρ33 w34 hj35 ⟨f42, f41, _⟩
            have hst := hj35.2
            exact go_yes 41 rfl f41 (op_eql (k := .i64) (a := (encF f).2) (b := 0) f42 rfl (kS hj35 rfl))
          · rintro ρ36 w37 hj38 ⟨f41, f43, _⟩
            have hst := hj38.2
            exact go_plain (op_pick_t (.bool (decide (((encF f).2) = 0))) f41 f43 (kS hj38 rfl))
          · rintro ρ39 w40 hj41 ⟨f44, _⟩
            have hst := hj41.2
            exact go_plain (op_move (.bool (decide (((encF f).2) = 0))) f44 (kS hj41 rfl))
          · rintro ρ42 w43 hj44 ⟨f8, f45, _⟩
            have hst := hj44.2
            exact go_yes 45 rfl (f45.trans (congrArg Value.bool (show (decide (((encF f).2) = 0)) = true from (decide_eq_true (enc_code hmf))))) (op_move (.int .i64 ((encF g).2)) (f8.trans rfl) (kS hj44 rfl))
          · rintro ρ45 w46 hj47 ⟨f46, f45, _⟩
            have hst := hj47.2
            exact go_yes 45 rfl (f45.trans (congrArg Value.bool (show (decide (((encF f).2) = 0)) = true from (decide_eq_true (enc_code hmf))))) (op_eql (k := .i64) (a := (encF g).2) (b := 0) f46 rfl (kS hj47 rfl))
          · rintro ρ48 w49 hj50 ⟨f45, f47, _⟩
            have hst := hj50.2
            exact go_plain (op_pick_t (.bool (decide (((encF g).2) = 0))) (f45.trans (congrArg Value.bool (show (decide (((encF f).2) = 0)) = true from (decide_eq_true (enc_code hmf))))) f47 (kS hj50 rfl))
          · rintro ρ51 w52 hj53 ⟨f48, _⟩
            have hst := hj53.2
            exact go_plain (op_move (.bool (decide (((encF g).2) = 0))) f48 (kS hj53 rfl))
          · rintro ρ54 w55 hj56 ⟨f5, f49, _⟩
            have hst := hj56.2
            exact go_yes 49 rfl (f49.trans (congrArg Value.bool (show (decide (((encF g).2) = 0)) = true from (decide_eq_true (enc_code hmg))))) (op_move r17 (f5.trans rfl) (kS hj56 rfl))
          · rintro ρ57 w58 hj59 ⟨f50, f49, _⟩
            have hst := hj59.2
            exact go_yes 49 rfl (f49.trans (congrArg Value.bool (show (decide (((encF g).2) = 0)) = true from (decide_eq_true (enc_code hmg))))) (op_str (xs := (encF f).1) Try.underlying23 Try.underlying5 Try.underlying9 f50 (hst.sl 1 rfl) (kS hj59 rfl))
          · rintro ρ60 w61 hj62 ⟨f7, f49, _⟩
            have hst := hj62.2
            exact go_yes 49 rfl (f49.trans (congrArg Value.bool (show (decide (((encF g).2) = 0)) = true from (decide_eq_true (enc_code hmg))))) (op_move r19 (f7.trans rfl) (kS hj62 rfl))
          · rintro ρ63 w64 hj65 ⟨f52, f49, _⟩
            have hst := hj65.2
            exact go_yes 49 rfl (f49.trans (congrArg Value.bool (show (decide (((encF g).2) = 0)) = true from (decide_eq_true (enc_code hmg))))) (op_str (xs := (encF g).1) Try.underlying23 Try.underlying5 Try.underlying9 f52 (hst.sl 0 rfl) (kS hj65 rfl))
          · rintro ρ66 w67 hj68 ⟨f51, f53, f49, _⟩
            have hst := hj68.2
            exact go_yes 49 rfl (f49.trans (congrArg Value.bool (show (decide (((encF g).2) = 0)) = true from (decide_eq_true (enc_code hmg))))) (op_eqlStr (a := (encF f).1) (b := (encF g).1) f51 f53 (kS hj68 rfl))
          · rintro ρ69 w70 hj71 ⟨f2, f49, _⟩
            have hst := hj71.2
            exact go_yes 49 rfl (f49.trans (congrArg Value.bool (show (decide (((encF g).2) = 0)) = true from (decide_eq_true (enc_code hmg))))) (op_loadN (cs := [(.int .i64 f.Kind), (.int .i64 f.View), (.int .i64 f.Site), (.int .i64 f.Seq), v_f_Body]) Try.isAgg25 Try.sizeOf25 (f2.trans rfl) (Pt.of (hst.cell 3 rfl) rfl) rfl (kS hj71 rfl))
          · rintro ρ72 w73 hj74 ⟨f3, f49, _⟩
            have hst := hj74.2
            exact go_yes 49 rfl (f49.trans (congrArg Value.bool (show (decide (((encF g).2) = 0)) = true from (decide_eq_true (enc_code hmg))))) (op_loadN (cs := [(.int .i64 g.Kind), (.int .i64 g.View), (.int .i64 g.Site), (.int .i64 g.Seq), v_g_Body]) Try.isAgg25 Try.sizeOf25 (f3.trans rfl) (Pt.of (hst.cell 2 rfl) rfl) rfl (kS hj74 rfl))
          · rintro ρ75 w76 hj77 ⟨f55, f56, f49, _⟩
            have hst := hj77.2
            refine go_yes 49 rfl (f49.trans (congrArg Value.bool (show (decide (((encF g).2) = 0)) = true from (decide_eq_true (enc_code hmg))))) (op_call Try.call11 (evs_cons (v := (.agg #[(.int .i64 f.Kind), (.int .i64 f.View), (.int .i64 f.Site), (.int .i64 f.Seq), v_f_Body])) f55 (evs_cons (v := (.agg #[(.int .i64 g.Kind), (.int .i64 g.View), (.int .i64 g.Site), (.int .i64 g.Seq), v_g_Body])) f56 evs_nil)) (c_fSame (w0 := w76) (f := f) (v_f_Body := v_f_Body) (h_f_Body := (h_f_Body.below hst.below)) (g := g) (v_g_Body := v_g_Body) (h_g_Body := (h_g_Body.below hst.below))) ?_)
            rintro _ w78 ⟨rfl, hcall⟩
            refine ⟨_, rfl, ?_⟩
            exact kD hj77 hcall rfl
          · rintro ρ79 w80 hj81 ⟨f54, f57, f49, _⟩
            have hst := hj81.2
            exact go_yes 49 rfl (f49.trans (congrArg Value.bool (show (decide (((encF g).2) = 0)) = true from (decide_eq_true (enc_code hmg))))) (op_eqlb (a := decide (((encF f).1) = ((encF g).1))) (b := decide (f = g)) Try.underlying4 f54 f57 (kS hj81 rfl))
          · rintro ρ82 w83 hj84 ⟨f49, f58, _⟩
            have hst := hj84.2
            exact go_plain (op_pick_t (.bool ((decide (((encF f).1) = ((encF g).1))) == (decide (f = g)))) (f49.trans (congrArg Value.bool (show (decide (((encF g).2) = 0)) = true from (decide_eq_true (enc_code hmg))))) f58 (kS hj84 rfl))
          · rintro ρ85 w86 hj87 ⟨f59, _⟩
            have hst := hj87.2
            exact go_plain (op_assign (.bool ((decide (((encF f).1) = ((encF g).1))) == (decide (f = g)))) f59 (kS hj87 rfl))
          · intro ρ88 w89 hbw89 hst hRw89 hkw89
            have uw89_0 : ρ88 0 = (.agg #[(.int .i64 f.Kind), (.int .i64 f.View), (.int .i64 f.Site), (.int .i64 f.Seq), v_f_Body]) := (hkw89 0 rfl).trans rfl
            have uw89_1 : ρ88 1 = (.agg #[(.int .i64 g.Kind), (.int .i64 g.View), (.int .i64 g.Site), (.int .i64 g.Seq), v_g_Body]) := (hkw89 1 rfl).trans rfl
            have uw89_2 : ρ88 2 = (.pointer (some ⟨g1, 0, none⟩)) := (hkw89 2 rfl).trans rfl
            have uw89_3 : ρ88 3 = (.pointer (some ⟨g3, 0, none⟩)) := (hkw89 3 rfl).trans rfl
            have uw89_9 : ρ88 9 = (.pointer (some ⟨g1, (0 + 4), none⟩)) := (hkw89 9 rfl).trans rfl
            have uw89_10 : ρ88 10 = v_f_Body := (hkw89 10 rfl).trans rfl
            have uw89_11 : ρ88 11 = (.int .i64 (f.Body.length : Int)) := (hkw89 11 rfl).trans rfl
            have uw89_12 : ρ88 12 = (.bool (decide (60 < (f.Body.length : Int)))) := (hkw89 12 rfl).trans rfl
            have uw89_13 : ρ88 13 = (.bool (decide (60 < (f.Body.length : Int)))) := (hkw89 13 rfl).trans rfl
            have uw89_14 : ρ88 14 = (.pointer (some ⟨g3, (0 + 4), none⟩)) := (hkw89 14 rfl).trans rfl
            have uw89_15 : ρ88 15 = v_g_Body := (hkw89 15 rfl).trans rfl
            have uw89_16 : ρ88 16 = (.int .i64 (g.Body.length : Int)) := (hkw89 16 rfl).trans rfl
            have uw89_17 : ρ88 17 = (.bool (decide (60 < (g.Body.length : Int)))) := (hkw89 17 rfl).trans rfl
            have uw89_18 : ρ88 18 = (.bool (decide (60 < (g.Body.length : Int)))) := (hkw89 18 rfl).trans rfl
            have uw89_19 : ρ88 19 = (.bool (decide (60 < (g.Body.length : Int)))) := (hkw89 19 rfl).trans rfl
            have uw89_20 : ρ88 20 = (.agg #[(.int .i64 f.Kind), (.int .i64 f.View), (.int .i64 f.Site), (.int .i64 f.Seq), v_f_Body]) := (hkw89 20 rfl).trans rfl
            have uw89_21 : ρ88 21 = (.bool (mayF f)) := (hkw89 21 rfl).trans rfl
            have uw89_22 : ρ88 22 = (.bool (!(mayF f))) := (hkw89 22 rfl).trans rfl
            have uw89_23 : ρ88 23 = (.bool (!(mayF f))) := (hkw89 23 rfl).trans rfl
            have uw89_24 : ρ88 24 = (.bool (!(mayF f))) := (hkw89 24 rfl).trans rfl
            have uw89_25 : ρ88 25 = (.agg #[(.int .i64 g.Kind), (.int .i64 g.View), (.int .i64 g.Site), (.int .i64 g.Seq), v_g_Body]) := (hkw89 25 rfl).trans rfl
            have uw89_26 : ρ88 26 = (.bool (mayF g)) := (hkw89 26 rfl).trans rfl
            have uw89_27 : ρ88 27 = (.bool (!(mayF g))) := (hkw89 27 rfl).trans rfl
            have uw89_28 : ρ88 28 = (.bool (!(mayF g))) := (hkw89 28 rfl).trans rfl
            have uw89_31 : ρ88 31 = (.agg #[(.int .i64 f.Kind), (.int .i64 f.View), (.int .i64 f.Site), (.int .i64 f.Seq), v_f_Body]) := (hkw89 31 rfl).trans rfl
            have uw89_32 : ρ88 32 = (.tuple #[r17, (.int .i64 ((encF f).2))]) := (hkw89 32 rfl).trans rfl
            have uw89_30 : ρ88 30 = (.tuple #[r17, (.int .i64 ((encF f).2))]) := (hkw89 30 rfl).trans rfl
            have uw89_33 : ρ88 33 = r17 := (hkw89 33 rfl).trans rfl
            have uw89_34 : ρ88 34 = (.int .i64 ((encF f).2)) := (hkw89 34 rfl).trans rfl
            have uw89_36 : ρ88 36 = (.agg #[(.int .i64 g.Kind), (.int .i64 g.View), (.int .i64 g.Site), (.int .i64 g.Seq), v_g_Body]) := (hkw89 36 rfl).trans rfl
            have uw89_37 : ρ88 37 = (.tuple #[r19, (.int .i64 ((encF g).2))]) := (hkw89 37 rfl).trans rfl
            have uw89_35 : ρ88 35 = (.tuple #[r19, (.int .i64 ((encF g).2))]) := (hkw89 35 rfl).trans rfl
            have uw89_38 : ρ88 38 = r19 := (hkw89 38 rfl).trans rfl
            have uw89_39 : ρ88 39 = (.int .i64 ((encF g).2)) := (hkw89 39 rfl).trans rfl
            have uw89_4 : ρ88 4 = (.bool ((decide (((encF f).1) = ((encF g).1))) == (decide (f = g)))) := hRw89 20 4 rfl
            refine then_n ?_
            refine cE_ret ?_
            refine post_r _ (res1 (v := (.bool true)) (uw89_4.trans (congrArg Value.bool (show ((decide (((encF f).1) = ((encF g).1))) == (decide (f = g))) = true from (enc_same hmf hmg))))) ?_
            exact ⟨rfl, hst.bare⟩
        · refine cE_cond true (congrArg Value.bool (congrArg (! ·) b16)) (fun _ => ?_) (fun h => by cases h)
          refine cE_seq ?_
          refine cE_region rfl ?_
          refine s_cons (op_call Try.call9 evs_nil (c_told13 (w0 := w15)) ?_)
          rintro _ w90 ⟨rfl, hcall⟩
          refine ⟨_, rfl, ?_⟩
          have hst : St w0 w90 [.blk g3 25 #[(.int .i64 g.Kind), (.int .i64 g.View), (.int .i64 g.Site), (.int .i64 g.Seq), v_g_Body], .blk g1 25 #[(.int .i64 f.Kind), (.int .i64 f.View), (.int .i64 f.Site), (.int .i64 f.Seq), v_f_Body]] := hst.call hcall
          refine s_cons (op_assign (.bool true) rfl ?_)
          refine s_nil ?_
          refine then_n ?_
          refine cE_ret ?_
          refine then_r ?_
          refine post_r _ (res1 (v := (.bool true)) rfl) ?_
          exact ⟨rfl, hst.bare⟩
      · refine s_no 24 rfl (congrArg Value.bool (congrArg (! ·) b14)) ?_
        refine s_no 24 rfl (congrArg Value.bool (congrArg (! ·) b14)) ?_
        refine s_no 24 rfl (congrArg Value.bool (congrArg (! ·) b14)) ?_
        refine s_cons (op_pick_t (.bool true) (congrArg Value.bool (congrArg (! ·) b14)) rfl ?_)
        refine s_nil ?_
        refine then_n ?_
        refine cE_cond true rfl (fun _ => ?_) (fun h => by cases h)
        refine cE_seq ?_
        refine cE_region rfl ?_
        refine s_cons (op_call Try.call9 evs_nil (c_told13 (w0 := w13)) ?_)
        rintro _ w91 ⟨rfl, hcall⟩
        refine ⟨_, rfl, ?_⟩
        have hst : St w0 w91 [.blk g3 25 #[(.int .i64 g.Kind), (.int .i64 g.View), (.int .i64 g.Site), (.int .i64 g.Seq), v_g_Body], .blk g1 25 #[(.int .i64 f.Kind), (.int .i64 f.View), (.int .i64 f.Site), (.int .i64 f.Seq), v_f_Body]] := hst.call hcall
        refine s_cons (op_assign (.bool true) rfl ?_)
        refine s_nil ?_
        refine then_n ?_
        refine cE_ret ?_
        refine then_r ?_
        refine post_r _ (res1 (v := (.bool true)) rfl) ?_
        exact ⟨rfl, hst.bare⟩

end Go.Proofs.Ytfljkaigfmedeaa
