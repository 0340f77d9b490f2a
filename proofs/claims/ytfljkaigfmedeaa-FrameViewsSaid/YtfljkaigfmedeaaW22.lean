/- frames: twinkeepref13.Put -/
import Derived.Test.YtfljkaigfmedeaaW1
import Derived.Test.YtfljkaigfmedeaaW2
import Derived.Test.YtfljkaigfmedeaaW3
import Derived.Test.YtfljkaigfmedeaaFC
import Derived.Test.YtfljkaigfmedeaaW10
import Derived.Test.YtfljkaigfmedeaaW11
import Derived.Test.YtfljkaigfmedeaaW12
import Derived.Test.YtfljkaigfmedeaaW13
import Derived.Test.YtfljkaigfmedeaaW14
import Derived.Test.YtfljkaigfmedeaaW15
import Derived.Test.YtfljkaigfmedeaaW16
import Derived.Test.YtfljkaigfmedeaaW17
import Derived.Test.YtfljkaigfmedeaaW18
import Derived.Test.YtfljkaigfmedeaaW19
import Derived.Test.YtfljkaigfmedeaaW20
import Derived.Test.YtfljkaigfmedeaaW21
namespace Go.Proofs.Ytfljkaigfmedeaa
open Go.RowKit

set_option maxHeartbeats 1000000 in
theorem c_rfPut (w0 : World) (f : Frame) (v_f_Body : Value) (h_f_Body : Sl w0 u8E v_f_Body f.Body) (hf : f.ok) (hb : f.Body.length ≤ 1000000000) :
    Calls Try.prog 12 #[(.agg #[(.int .i64 f.Kind), (.int .i64 f.View), (.int .i64 f.Site), (.int .i64 f.Seq), v_f_Body])] w0 fun e w' => e = .returned (.tuple #[(.string (str ((encF f).1))), (.int .i64 ((encF f).2))]) ∧ St w0 w' [] := by
  refine calls_E (n := 57) (ts := [2, 3]) Try.func12 rfl rfl rfl (by simp) ?_
  have hst := St.start w0
  refine cE_seq ?_
  refine cE_region rfl ?_
  refine s_cons (op_box (v := (.agg #[(.int .i64 f.Kind), (.int .i64 f.View), (.int .i64 f.Site), (.int .i64 f.Seq), v_f_Body])) (cs := #[(.int .i64 f.Kind), (.int .i64 f.View), (.int .i64 f.Site), (.int .i64 f.Seq), v_f_Body]) hst rfl rfl (fun g1 w2 hst _ => ?_))
  replace hst : St w0 w2 [.blk g1 25 #[(.int .i64 f.Kind), (.int .i64 f.View), (.int .i64 f.Site), (.int .i64 f.Seq), v_f_Body]] := hst
  refine s_cons (op_assign (.string (str ([] : List UInt8))) rfl ?_)
  refine s_cons (op_assign (.int .i64 0) rfl ?_)
  refine s_nil ?_
  refine then_n ?_
  refine cE_seq ?_
  refine cE_seq ?_
  refine cE_region rfl ?_
  refine s_cons (op_loadN (cs := [(.int .i64 f.Kind), (.int .i64 f.View), (.int .i64 f.Site), (.int .i64 f.Seq), v_f_Body]) Try.isAgg25 Try.sizeOf25 rfl (Pt.of (hst.cell 0 rfl) rfl) rfl ?_)
  refine s_cons (op_call Try.call16 (evs_cons (v := (.agg #[(.int .i64 f.Kind), (.int .i64 f.View), (.int .i64 f.Site), (.int .i64 f.Seq), v_f_Body])) rfl evs_nil) (c_rfMay (w0 := w2) (f := f) (v_f_Body := v_f_Body) (h_f_Body := (h_f_Body.below hst.below))) ?_)
  rintro _ w3 ⟨rfl, hcall⟩
  refine ⟨_, rfl, ?_⟩
  have hst : St w0 w3 [.blk g1 25 #[(.int .i64 f.Kind), (.int .i64 f.View), (.int .i64 f.Site), (.int .i64 f.Seq), v_f_Body]] := hst.call hcall
  refine s_cons (op_not (b := mayF f) rfl ?_)
  refine s_nil ?_
  refine then_n ?_
  rcases Bool.eq_false_or_eq_true (mayF f) with b4 | b4
  · have hmf := b4
    obtain ⟨⟨hm1, hm2, hm3, hm4⟩, hm5⟩ := mayF_true b4
    refine cE_cond false (congrArg Value.bool (congrArg (! ·) b4)) (fun h => by cases h) (fun _ => ?_)
    refine cE_skip ?_
    refine then_n ?_
    refine cE_seq ?_
    have hl1 := put_length f.View
    have hl2 := put_length f.Seq
    have hl3 := put_length f.Site
    have hl4 := put_length (f.Body.length : Int)
    refine cE_regionL hst [[(1, none)], [(8, some 0)], [(9, some 1)], [(10, some 2)], [(11, some 3)], [(1, none)], [(13, some 5)], [(14, some 6)], [(15, some 7)], [(12, some 4), (16, some 8)], [(17, some 9)]] [(rEq (.pointer (some ⟨g1, (0 + 0), none⟩))), (rEq (.int .i64 f.Kind)), (rEq (.int .u8 (f.Kind % 256))), (rSl u8E ([(byt (f.Kind % 256))])), (rEq (.string (str ([(byt (f.Kind % 256))])))), (rEq (.pointer (some ⟨g1, (0 + 1), none⟩))), (rEq (.int .i64 f.View)), (rEq (.int .u64 f.View)), (rEq (.string (str (put f.View)))), (rEq (.string (str (([(byt (f.Kind % 256))]) ++ (put f.View))))), (rEq (.string (str (([(byt (f.Kind % 256))]) ++ (put f.View)))))] (by kernel_rfl) rfl (by kernel_rfl) ⟨sEq, sEq, sEq, sSl, sEq, sEq, sEq, sEq, sEq, sEq, sEq, trivial⟩ ⟨?_, ?_, ?_, ?_, ?_, ?_, ?_, ?_, ?_, ?_, ?_, trivial⟩ ?_
    · rintro ρ8 w9 hj10 ⟨f1, _⟩
      have hst := hj10.2
      exact go_plain (op_fieldAddr (s := 0) Try.underlying25 rfl rfl Try.sizeOf3 (f1.trans rfl) (kS hj10 rfl))
    · rintro ρ11 w12 hj13 ⟨f8, _⟩
      have hst := hj13.2
      exact go_plain (op_load1 (u := (.int .i64 f.Kind)) Try.isAgg3 f8 (hst.cell 0 rfl) (kS hj13 rfl))
    · rintro ρ14 w15 hj16 ⟨f9, _⟩
      have hst := hj16.2
      exact go_plain (op_conv (k := .i64) (a := f.Kind) (f.Kind % 256) Try.underlying5 (by rw [Try.underlying3]; rfl) f9 (IntKind.wrap_u8 _) (kS hj16 rfl))
    · rintro ρ17 w18 hj19 ⟨f10, _⟩
      have hst := hj19.2
      have hst := St.start w18
      refine go_plain (op_buildSlice (E := u8E) [(byt (f.Kind % 256))] hst Try.underlying23 Try.sizeOf5 Try.zeroValue5 (evp_cons (v := (.int .u8 (f.Kind % 256))) f10 evp_nil) (parts_cons (by rw [u8cell]; exact byt_cell (by omega) (by omega)) parts_nil) rfl (by decide) (fun v20 w21 hst => ?_))
      exact kD hj19 hst (hst.sl 0 rfl)
    · rintro ρ22 w23 hj24 ⟨f11, _⟩
      have hst := hj24.2
      have hs27 : Sl w23 u8E _ ([(byt (f.Kind % 256))]) := f11
      exact go_plain (op_str (xs := [(byt (f.Kind % 256))]) Try.underlying23 Try.underlying5 Try.underlying9 rfl hs27 (kS hj24 rfl))
    · rintro ρ28 w29 hj30 ⟨f1, _⟩
      have hst := hj30.2
      exact go_plain (op_fieldAddr (s := 0) Try.underlying25 rfl rfl Try.sizeOf3 (f1.trans rfl) (kS hj30 rfl))
    · rintro ρ31 w32 hj33 ⟨f13, _⟩
      have hst := hj33.2
      exact go_plain (op_load1 (u := (.int .i64 f.View)) Try.isAgg3 f13 ((hst.cell 0 rfl).drop 1) (kS hj33 rfl))
    · rintro ρ34 w35 hj36 ⟨f14, _⟩
      have hst := hj36.2
      exact go_plain (op_conv (k := .i64) (a := f.View) f.View Try.underlying41 (by rw [Try.underlying3]; rfl) f14 (xu64 (by omega) (by omega)) (kS hj36 rfl))
    · rintro ρ37 w38 hj39 ⟨f15, _⟩
      have hst := hj39.2
      refine go_plain (op_call Try.call23 (evs_cons (v := (.int .u64 f.View)) f15 evs_nil) (c_rPut (w0 := w38) (n := f.View) (h0 := (by omega)) (h1 := (by omega))) ?_)
      rintro _ w40 ⟨rfl, hcall⟩
      refine ⟨_, rfl, ?_⟩
      exact kD hj39 hcall rfl
    · rintro ρ41 w42 hj43 ⟨f12, f16, _⟩
      have hst := hj43.2
      exact go_plain (op_addStr (a := [(byt (f.Kind % 256))]) (b := (put f.View)) f12 f16 (by first | omega | (simp; omega)) (kS hj43 rfl))
    · rintro ρ44 w45 hj46 ⟨f17, _⟩
      have hst := hj46.2
      exact go_plain (op_assign (.string (str (([(byt (f.Kind % 256))]) ++ (put f.View)))) f17 (kS hj46 rfl))
    · intro ρ47 w48 hbw48 hst hRw48 hkw48
      have uw48_0 : ρ47 0 = (.agg #[(.int .i64 f.Kind), (.int .i64 f.View), (.int .i64 f.Site), (.int .i64 f.Seq), v_f_Body]) := (hkw48 0 rfl).trans rfl
      have uw48_1 : ρ47 1 = (.pointer (some ⟨g1, 0, none⟩)) := (hkw48 1 rfl).trans rfl
      have uw48_2 : ρ47 2 = (.string (str ([] : List UInt8))) := (hkw48 2 rfl).trans rfl
      have uw48_3 : ρ47 3 = (.int .i64 0) := (hkw48 3 rfl).trans rfl
      have uw48_5 : ρ47 5 = (.agg #[(.int .i64 f.Kind), (.int .i64 f.View), (.int .i64 f.Site), (.int .i64 f.Seq), v_f_Body]) := (hkw48 5 rfl).trans rfl
      have uw48_6 : ρ47 6 = (.bool (mayF f)) := (hkw48 6 rfl).trans rfl
      have uw48_7 : ρ47 7 = (.bool (!(mayF f))) := (hkw48 7 rfl).trans rfl
      have uw48_4 : ρ47 4 = (.string (str (([(byt (f.Kind % 256))]) ++ (put f.View)))) := hRw48 10 4 rfl
      refine then_n ?_
      refine cE_seq ?_
      refine cE_seq ?_
      refine cE_region rfl ?_
      refine s_cons (op_fieldAddr (s := 0) Try.underlying25 rfl rfl Try.sizeOf3 uw48_1 ?_)
      refine s_cons (op_load1 (u := (.int .i64 f.Kind)) Try.isAgg3 rfl (hst.cell 0 rfl) ?_)
      refine s_nil ?_
      refine then_n ?_
      refine cE_block ?_
      refine cE_seq ?_
      refine cE_region rfl ?_
      refine s_cons (op_eql (k := .i64) (a := f.Kind) (b := 1) rfl rfl ?_)
      refine s_cons (op_assign (.bool (decide (f.Kind = 1))) rfl ?_)
      refine s_nil ?_
      refine then_n ?_
      rcases Bool.eq_false_or_eq_true (decide (f.Kind = 1)) with b49 | b49
      · have c50 : f.Kind = 1 := of_decide_eq_true b49
        refine cE_cond true (congrArg Value.bool b49) (fun _ => ?_) (fun h => by cases h)
        refine cE_regionL hst [[(4, none)], [(1, none)], [(29, some 1)], [(30, some 2)], [(31, some 3)], [(28, some 0), (32, some 4)], [(1, none)], [(34, some 6)], [(35, some 7)], [(36, some 8)], [(37, some 9)], [(33, some 5), (38, some 10)], [(1, none)], [(40, some 12)], [(41, some 13)], [(39, some 11), (42, some 14)], [(43, some 15)]] [(rEq (.string (str (([(byt (f.Kind % 256))]) ++ (put f.View))))), (rEq (.pointer (some ⟨g1, (0 + 3), none⟩))), (rEq (.int .i64 f.Seq)), (rEq (.int .u64 f.Seq)), (rEq (.string (str (put f.Seq)))), (rEq (.string (str ((([(byt (f.Kind % 256))]) ++ (put f.View)) ++ (put f.Seq))))), (rEq (.pointer (some ⟨g1, (0 + 4), none⟩))), (rEq v_f_Body), (rEq (.int .i64 (f.Body.length : Int))), (rEq (.int .u64 (f.Body.length : Int))), (rEq (.string (str (put (f.Body.length : Int))))), (rEq (.string (str (((([(byt (f.Kind % 256))]) ++ (put f.View)) ++ (put f.Seq)) ++ (put (f.Body.length : Int)))))), (rEq (.pointer (some ⟨g1, (0 + 4), none⟩))), (rEq v_f_Body), (rEq (.string (str f.Body))), (rEq (.string (str ((((([(byt (f.Kind % 256))]) ++ (put f.View)) ++ (put f.Seq)) ++ (put (f.Body.length : Int))) ++ f.Body)))), (rEq (.string (str ((((([(byt (f.Kind % 256))]) ++ (put f.View)) ++ (put f.Seq)) ++ (put (f.Body.length : Int))) ++ f.Body))))] (by kernel_rfl) rfl (by kernel_rfl) ⟨sEq, sEq, sEq, sEq, sEq, sEq, sEq, sEq, sEq, sEq, sEq, sEq, sEq, sEq, sEq, sEq, sEq, trivial⟩ ⟨?_, ?_, ?_, ?_, ?_, ?_, ?_, ?_, ?_, ?_, ?_, ?_, ?_, ?_, ?_, ?_, ?_, trivial⟩ ?_
        · rintro ρ53 w54 hj55 ⟨f4, _⟩
          have hst := hj55.2
          exact go_plain (op_move (.string (str (([(byt (f.Kind % 256))]) ++ (put f.View)))) (f4.trans uw48_4) (kS hj55 rfl))
        · rintro ρ56 w57 hj58 ⟨f1, _⟩
          have hst := hj58.2
          exact go_plain (op_fieldAddr (s := 0) Try.underlying25 rfl rfl Try.sizeOf2 (f1.trans uw48_1) (kS hj58 rfl))
        · rintro ρ59 w60 hj61 ⟨f29, _⟩
          have hst := hj61.2
          exact go_plain (op_load1 (u := (.int .i64 f.Seq)) Try.isAgg2 f29 ((hst.cell 0 rfl).drop 3) (kS hj61 rfl))
        · rintro ρ62 w63 hj64 ⟨f30, _⟩
          have hst := hj64.2
          exact go_plain (op_conv (k := .i64) (a := f.Seq) f.Seq Try.underlying41 (by rw [Try.underlying2]; rfl) f30 (xu64 (by omega) (by omega)) (kS hj64 rfl))
        · rintro ρ65 w66 hj67 ⟨f31, _⟩
          have hst := hj67.2
          refine go_plain (op_call Try.call23 (evs_cons (v := (.int .u64 f.Seq)) f31 evs_nil) (c_rPut (w0 := w66) (n := f.Seq) (h0 := (by omega)) (h1 := (by omega))) ?_)
          rintro _ w68 ⟨rfl, hcall⟩
          refine ⟨_, rfl, ?_⟩
          exact kD hj67 hcall rfl
        · rintro ρ69 w70 hj71 ⟨f28, f32, _⟩
          have hst := hj71.2
          exact go_plain (op_addStr (a := (([(byt (f.Kind % 256))]) ++ (put f.View))) (b := (put f.Seq)) f28 f32 (by first | omega | (simp; omega)) (kS hj71 rfl))
        · rintro ρ72 w73 hj74 ⟨f1, _⟩
          have hst := hj74.2
          exact go_plain (op_fieldAddr (s := 0) Try.underlying25 rfl rfl Try.sizeOf23 (f1.trans uw48_1) (kS hj74 rfl))
        · rintro ρ75 w76 hj77 ⟨f34, _⟩
          have hst := hj77.2
          exact go_plain (op_load1 (u := v_f_Body) Try.isAgg23 f34 ((hst.cell 0 rfl).drop 4) (kS hj77 rfl))
        · rintro ρ78 w79 hj80 ⟨f35, _⟩
          have hst := hj80.2
          exact go_plain (op_len (E := u8E) (xs := f.Body) Try.underlying23 f35 h_f_Body (kS hj80 rfl))
        · rintro ρ81 w82 hj83 ⟨f36, _⟩
          have hst := hj83.2
          exact go_plain (op_conv (k := .i64) (a := (f.Body.length : Int)) (f.Body.length : Int) Try.underlying41 (by rw [Try.underlying3]; rfl) f36 (xu64 (by omega) (by omega)) (kS hj83 rfl))
        · rintro ρ84 w85 hj86 ⟨f37, _⟩
          have hst := hj86.2
          refine go_plain (op_call Try.call23 (evs_cons (v := (.int .u64 (f.Body.length : Int))) f37 evs_nil) (c_rPut (w0 := w85) (n := (f.Body.length : Int)) (h0 := (by omega)) (h1 := (by omega))) ?_)
          rintro _ w87 ⟨rfl, hcall⟩
          refine ⟨_, rfl, ?_⟩
          exact kD hj86 hcall rfl
        · rintro ρ88 w89 hj90 ⟨f33, f38, _⟩
          have hst := hj90.2
          exact go_plain (op_addStr (a := ((([(byt (f.Kind % 256))]) ++ (put f.View)) ++ (put f.Seq))) (b := (put (f.Body.length : Int))) f33 f38 (by first | omega | (simp; omega)) (kS hj90 rfl))
        · rintro ρ91 w92 hj93 ⟨f1, _⟩
          have hst := hj93.2
          exact go_plain (op_fieldAddr (s := 0) Try.underlying25 rfl rfl Try.sizeOf23 (f1.trans uw48_1) (kS hj93 rfl))
        · rintro ρ94 w95 hj96 ⟨f40, _⟩
          have hst := hj96.2
          exact go_plain (op_load1 (u := v_f_Body) Try.isAgg23 f40 ((hst.cell 0 rfl).drop 4) (kS hj96 rfl))
        · rintro ρ97 w98 hj99 ⟨f41, _⟩
          have hst := hj99.2
          exact go_plain (op_str (xs := f.Body) Try.underlying23 Try.underlying5 Try.underlying9 f41 (h_f_Body.below hst.below) (kS hj99 rfl))
        · rintro ρ100 w101 hj102 ⟨f39, f42, _⟩
          have hst := hj102.2
          exact go_plain (op_addStr (a := (((([(byt (f.Kind % 256))]) ++ (put f.View)) ++ (put f.Seq)) ++ (put (f.Body.length : Int)))) (b := f.Body) f39 f42 (by first | omega | (simp; omega)) (kS hj102 rfl))
        · rintro ρ103 w104 hj105 ⟨f43, _⟩
          have hst := hj105.2
          exact go_plain (op_assign (.string (str ((((([(byt (f.Kind % 256))]) ++ (put f.View)) ++ (put f.Seq)) ++ (put (f.Body.length : Int))) ++ f.Body))) f43 (kS hj105 rfl))
        · intro ρ106 w107 hbw107 hst hRw107 hkw107
          have uw107_0 : ρ106 0 = (.agg #[(.int .i64 f.Kind), (.int .i64 f.View), (.int .i64 f.Site), (.int .i64 f.Seq), v_f_Body]) := (hkw107 0 rfl).trans uw48_0
          have uw107_1 : ρ106 1 = (.pointer (some ⟨g1, 0, none⟩)) := (hkw107 1 rfl).trans uw48_1
          have uw107_2 : ρ106 2 = (.string (str ([] : List UInt8))) := (hkw107 2 rfl).trans uw48_2
          have uw107_3 : ρ106 3 = (.int .i64 0) := (hkw107 3 rfl).trans uw48_3
          have uw107_5 : ρ106 5 = (.agg #[(.int .i64 f.Kind), (.int .i64 f.View), (.int .i64 f.Site), (.int .i64 f.Seq), v_f_Body]) := (hkw107 5 rfl).trans uw48_5
          have uw107_6 : ρ106 6 = (.bool (mayF f)) := (hkw107 6 rfl).trans uw48_6
          have uw107_7 : ρ106 7 = (.bool (!(mayF f))) := (hkw107 7 rfl).trans uw48_7
          have uw107_18 : ρ106 18 = (.pointer (some ⟨g1, (0 + 0), none⟩)) := (hkw107 18 rfl).trans rfl
          have uw107_19 : ρ106 19 = (.int .i64 f.Kind) := (hkw107 19 rfl).trans rfl
          have uw107_27 : ρ106 27 = (.bool (decide (f.Kind = 1))) := (hkw107 27 rfl).trans rfl
          have uw107_26 : ρ106 26 = (.bool (decide (f.Kind = 1))) := (hkw107 26 rfl).trans rfl
          have uw107_4 : ρ106 4 = (.string (str ((((([(byt (f.Kind % 256))]) ++ (put f.View)) ++ (put f.Seq)) ++ (put (f.Body.length : Int))) ++ f.Body))) := hRw107 16 4 rfl
          refine block_n (then_n ?_)
          refine cE_seq ?_
          refine cE_region rfl ?_
          refine s_cons (op_move (.string (str ((((([(byt (f.Kind % 256))]) ++ (put f.View)) ++ (put f.Seq)) ++ (put (f.Body.length : Int))) ++ f.Body))) uw107_4 ?_)
          refine s_cons (op_call Try.call25 (evs_cons (v := (.string (str ((((([(byt (f.Kind % 256))]) ++ (put f.View)) ++ (put f.Seq)) ++ (put (f.Body.length : Int))) ++ f.Body)))) rfl evs_nil) (c_rOf (w0 := w107) (b := ((((([(byt (f.Kind % 256))]) ++ (put f.View)) ++ (put f.Seq)) ++ (put (f.Body.length : Int))) ++ f.Body)) (hl := (by simp; omega))) ?_)
          rintro _ w108 ⟨rfl, hcall⟩
          refine ⟨_, rfl, ?_⟩
          have hst : St w0 w108 [.blk g1 25 #[(.int .i64 f.Kind), (.int .i64 f.View), (.int .i64 f.Site), (.int .i64 f.Seq), v_f_Body]] := hst.call hcall
          refine s_cons (op_call Try.call24 (evs_cons (v := (.int .u32 (more 1 ((((([(byt (f.Kind % 256))]) ++ (put f.View)) ++ (put f.Seq)) ++ (put (f.Body.length : Int))) ++ f.Body)))) rfl evs_nil) (c_rFour (w0 := w108) (s := (more 1 ((((([(byt (f.Kind % 256))]) ++ (put f.View)) ++ (put f.Seq)) ++ (put (f.Body.length : Int))) ++ f.Body))) (h0 := (more_range 1 _).1) (h1 := (more_le 1 _))) ?_)
          rintro _ w109 ⟨rfl, hcall⟩
          refine ⟨_, rfl, ?_⟩
          have hst : St w0 w109 [.blk g1 25 #[(.int .i64 f.Kind), (.int .i64 f.View), (.int .i64 f.Site), (.int .i64 f.Seq), v_f_Body]] := hst.call hcall
          refine s_cons (op_move (.string (str ((((([(byt (f.Kind % 256))]) ++ (put f.View)) ++ (put f.Seq)) ++ (put (f.Body.length : Int))) ++ f.Body))) uw107_4 ?_)
          refine s_cons (op_addStr (a := (four (more 1 ((((([(byt (f.Kind % 256))]) ++ (put f.View)) ++ (put f.Seq)) ++ (put (f.Body.length : Int))) ++ f.Body)))) (b := ((((([(byt (f.Kind % 256))]) ++ (put f.View)) ++ (put f.Seq)) ++ (put (f.Body.length : Int))) ++ f.Body)) rfl rfl (by first | omega | (simp; omega)) ?_)
          refine s_cons (op_assign (.string (str ((four (more 1 ((((([(byt (f.Kind % 256))]) ++ (put f.View)) ++ (put f.Seq)) ++ (put (f.Body.length : Int))) ++ f.Body))) ++ ((((([(byt (f.Kind % 256))]) ++ (put f.View)) ++ (put f.Seq)) ++ (put (f.Body.length : Int))) ++ f.Body)))) rfl ?_)
          refine s_cons (op_assign (.int .i64 0) rfl ?_)
          refine s_nil ?_
          refine then_n ?_
          refine cE_ret ?_
          refine post_r _ (res2 (v := (.string (str ((four (more 1 ((((([(byt (f.Kind % 256))]) ++ (put f.View)) ++ (put f.Seq)) ++ (put (f.Body.length : Int))) ++ f.Body))) ++ ((((([(byt (f.Kind % 256))]) ++ (put f.View)) ++ (put f.Seq)) ++ (put (f.Body.length : Int))) ++ f.Body))))) rfl (x := (.int .i64 0)) rfl) ?_
          exact ⟨(retv2 (congrArg (fun l => Value.string (str l)) (show ((four (more 1 ((((([(byt (f.Kind % 256))]) ++ (put f.View)) ++ (put f.Seq)) ++ (put (f.Body.length : Int))) ++ f.Body))) ++ ((((([(byt (f.Kind % 256))]) ++ (put f.View)) ++ (put f.Seq)) ++ (put (f.Body.length : Int))) ++ f.Body)) = (encF f).1 from by first | (have hk1 : f.Kind = 1 := (by assumption); exact renc1 hmf hk1) | (have hk2 : f.Kind = 2 := (by assumption); exact renc2 hmf hk2) | (have hk1 : ¬ f.Kind = 1 := (by assumption); have hk2 : ¬ f.Kind = 2 := (by assumption); exact renc3 hmf hk1 hk2) | rw [encF_no (by assumption)] | rw [encF_yes (by assumption)])) (congrArg (Value.int .i64) (show 0 = (encF f).2 from by first | (have hk1 : f.Kind = 1 := (by assumption); exact renc1 hmf hk1) | (have hk2 : f.Kind = 2 := (by assumption); exact renc2 hmf hk2) | (have hk1 : ¬ f.Kind = 1 := (by assumption); have hk2 : ¬ f.Kind = 2 := (by assumption); exact renc3 hmf hk1 hk2) | rw [encF_no (by assumption)] | rw [encF_yes (by assumption)]))), hst.bare⟩
      · have c110 : ¬ (f.Kind = 1) := of_decide_eq_false b49
        refine cE_cond false (congrArg Value.bool b49) (fun h => by cases h) (fun _ => ?_)
        refine cE_seq ?_
        refine cE_region rfl ?_
        refine s_cons (op_eql (k := .i64) (a := f.Kind) (b := 2) rfl rfl ?_)
        refine s_cons (op_assign (.bool (decide (f.Kind = 2))) rfl ?_)
        refine s_nil ?_
        refine then_n ?_
        rcases Bool.eq_false_or_eq_true (decide (f.Kind = 2)) with b111 | b111
        · have c112 : f.Kind = 2 := of_decide_eq_true b111
          refine cE_cond true (congrArg Value.bool b111) (fun _ => ?_) (fun h => by cases h)
          refine cE_region rfl ?_
          refine s_cons (op_move (.string (str (([(byt (f.Kind % 256))]) ++ (put f.View)))) uw48_4 ?_)
          refine s_cons (op_fieldAddr (s := 0) Try.underlying25 rfl rfl Try.sizeOf2 uw48_1 ?_)
          refine s_cons (op_load1 (u := (.int .i64 f.Seq)) Try.isAgg2 rfl ((hst.cell 0 rfl).drop 3) ?_)
          refine s_cons (op_conv (k := .i64) (a := f.Seq) f.Seq Try.underlying41 (by rw [Try.underlying2]; rfl) rfl (xu64 (by omega) (by omega)) ?_)
          refine s_cons (op_call Try.call23 (evs_cons (v := (.int .u64 f.Seq)) rfl evs_nil) (c_rPut (w0 := w48) (n := f.Seq) (h0 := (by omega)) (h1 := (by omega))) ?_)
          rintro _ w113 ⟨rfl, hcall⟩
          refine ⟨_, rfl, ?_⟩
          have hst : St w0 w113 [.blk g1 25 #[(.int .i64 f.Kind), (.int .i64 f.View), (.int .i64 f.Site), (.int .i64 f.Seq), v_f_Body]] := hst.call hcall
          refine s_cons (op_addStr (a := (([(byt (f.Kind % 256))]) ++ (put f.View))) (b := (put f.Seq)) rfl rfl (by first | omega | (simp; omega)) ?_)
          refine s_cons (op_assign (.string (str ((([(byt (f.Kind % 256))]) ++ (put f.View)) ++ (put f.Seq)))) rfl ?_)
          refine s_nil ?_
          refine block_n (then_n ?_)
          refine cE_seq ?_
          refine cE_region rfl ?_
          refine s_cons (op_move (.string (str ((([(byt (f.Kind % 256))]) ++ (put f.View)) ++ (put f.Seq)))) rfl ?_)
          refine s_cons (op_call Try.call25 (evs_cons (v := (.string (str ((([(byt (f.Kind % 256))]) ++ (put f.View)) ++ (put f.Seq))))) rfl evs_nil) (c_rOf (w0 := w113) (b := ((([(byt (f.Kind % 256))]) ++ (put f.View)) ++ (put f.Seq))) (hl := (by simp; omega))) ?_)
          rintro _ w114 ⟨rfl, hcall⟩
          refine ⟨_, rfl, ?_⟩
          have hst : St w0 w114 [.blk g1 25 #[(.int .i64 f.Kind), (.int .i64 f.View), (.int .i64 f.Site), (.int .i64 f.Seq), v_f_Body]] := hst.call hcall
          refine s_cons (op_call Try.call24 (evs_cons (v := (.int .u32 (more 1 ((([(byt (f.Kind % 256))]) ++ (put f.View)) ++ (put f.Seq))))) rfl evs_nil) (c_rFour (w0 := w114) (s := (more 1 ((([(byt (f.Kind % 256))]) ++ (put f.View)) ++ (put f.Seq)))) (h0 := (more_range 1 _).1) (h1 := (more_le 1 _))) ?_)
          rintro _ w115 ⟨rfl, hcall⟩
          refine ⟨_, rfl, ?_⟩
          have hst : St w0 w115 [.blk g1 25 #[(.int .i64 f.Kind), (.int .i64 f.View), (.int .i64 f.Site), (.int .i64 f.Seq), v_f_Body]] := hst.call hcall
          refine s_cons (op_move (.string (str ((([(byt (f.Kind % 256))]) ++ (put f.View)) ++ (put f.Seq)))) rfl ?_)
          refine s_cons (op_addStr (a := (four (more 1 ((([(byt (f.Kind % 256))]) ++ (put f.View)) ++ (put f.Seq))))) (b := ((([(byt (f.Kind % 256))]) ++ (put f.View)) ++ (put f.Seq))) rfl rfl (by first | omega | (simp; omega)) ?_)
          refine s_cons (op_assign (.string (str ((four (more 1 ((([(byt (f.Kind % 256))]) ++ (put f.View)) ++ (put f.Seq)))) ++ ((([(byt (f.Kind % 256))]) ++ (put f.View)) ++ (put f.Seq))))) rfl ?_)
          refine s_cons (op_assign (.int .i64 0) rfl ?_)
          refine s_nil ?_
          refine then_n ?_
          refine cE_ret ?_
          refine post_r _ (res2 (v := (.string (str ((four (more 1 ((([(byt (f.Kind % 256))]) ++ (put f.View)) ++ (put f.Seq)))) ++ ((([(byt (f.Kind % 256))]) ++ (put f.View)) ++ (put f.Seq)))))) rfl (x := (.int .i64 0)) rfl) ?_
          exact ⟨(retv2 (congrArg (fun l => Value.string (str l)) (show ((four (more 1 ((([(byt (f.Kind % 256))]) ++ (put f.View)) ++ (put f.Seq)))) ++ ((([(byt (f.Kind % 256))]) ++ (put f.View)) ++ (put f.Seq))) = (encF f).1 from by first | (have hk1 : f.Kind = 1 := (by assumption); exact renc1 hmf hk1) | (have hk2 : f.Kind = 2 := (by assumption); exact renc2 hmf hk2) | (have hk1 : ¬ f.Kind = 1 := (by assumption); have hk2 : ¬ f.Kind = 2 := (by assumption); exact renc3 hmf hk1 hk2) | rw [encF_no (by assumption)] | rw [encF_yes (by assumption)])) (congrArg (Value.int .i64) (show 0 = (encF f).2 from by first | (have hk1 : f.Kind = 1 := (by assumption); exact renc1 hmf hk1) | (have hk2 : f.Kind = 2 := (by assumption); exact renc2 hmf hk2) | (have hk1 : ¬ f.Kind = 1 := (by assumption); have hk2 : ¬ f.Kind = 2 := (by assumption); exact renc3 hmf hk1 hk2) | rw [encF_no (by assumption)] | rw [encF_yes (by assumption)]))), hst.bare⟩
        · have c116 : ¬ (f.Kind = 2) := of_decide_eq_false b111
          refine cE_cond false (congrArg Value.bool b111) (fun h => by cases h) (fun _ => ?_)
          refine cE_region rfl ?_
          refine s_cons (op_move (.string (str (([(byt (f.Kind % 256))]) ++ (put f.View)))) uw48_4 ?_)
          refine s_cons (op_fieldAddr (s := 0) Try.underlying25 rfl rfl Try.sizeOf3 uw48_1 ?_)
          refine s_cons (op_load1 (u := (.int .i64 f.Site)) Try.isAgg3 rfl ((hst.cell 0 rfl).drop 2) ?_)
          refine s_cons (op_conv (k := .i64) (a := f.Site) f.Site Try.underlying41 (by rw [Try.underlying3]; rfl) rfl (xu64 (by omega) (by omega)) ?_)
          refine s_cons (op_call Try.call23 (evs_cons (v := (.int .u64 f.Site)) rfl evs_nil) (c_rPut (w0 := w48) (n := f.Site) (h0 := (by omega)) (h1 := (by omega))) ?_)
          rintro _ w117 ⟨rfl, hcall⟩
          refine ⟨_, rfl, ?_⟩
          have hst : St w0 w117 [.blk g1 25 #[(.int .i64 f.Kind), (.int .i64 f.View), (.int .i64 f.Site), (.int .i64 f.Seq), v_f_Body]] := hst.call hcall
          refine s_cons (op_addStr (a := (([(byt (f.Kind % 256))]) ++ (put f.View))) (b := (put f.Site)) rfl rfl (by first | omega | (simp; omega)) ?_)
          refine s_cons (op_assign (.string (str ((([(byt (f.Kind % 256))]) ++ (put f.View)) ++ (put f.Site)))) rfl ?_)
          refine s_nil ?_
          refine block_n (then_n ?_)
          refine cE_seq ?_
          refine cE_region rfl ?_
          refine s_cons (op_move (.string (str ((([(byt (f.Kind % 256))]) ++ (put f.View)) ++ (put f.Site)))) rfl ?_)
          refine s_cons (op_call Try.call25 (evs_cons (v := (.string (str ((([(byt (f.Kind % 256))]) ++ (put f.View)) ++ (put f.Site))))) rfl evs_nil) (c_rOf (w0 := w117) (b := ((([(byt (f.Kind % 256))]) ++ (put f.View)) ++ (put f.Site))) (hl := (by simp; omega))) ?_)
          rintro _ w118 ⟨rfl, hcall⟩
          refine ⟨_, rfl, ?_⟩
          have hst : St w0 w118 [.blk g1 25 #[(.int .i64 f.Kind), (.int .i64 f.View), (.int .i64 f.Site), (.int .i64 f.Seq), v_f_Body]] := hst.call hcall
          refine s_cons (op_call Try.call24 (evs_cons (v := (.int .u32 (more 1 ((([(byt (f.Kind % 256))]) ++ (put f.View)) ++ (put f.Site))))) rfl evs_nil) (c_rFour (w0 := w118) (s := (more 1 ((([(byt (f.Kind % 256))]) ++ (put f.View)) ++ (put f.Site)))) (h0 := (more_range 1 _).1) (h1 := (more_le 1 _))) ?_)
          rintro _ w119 ⟨rfl, hcall⟩
          refine ⟨_, rfl, ?_⟩
          have hst : St w0 w119 [.blk g1 25 #[(.int .i64 f.Kind), (.int .i64 f.View), (.int .i64 f.Site), (.int .i64 f.Seq), v_f_Body]] := hst.call hcall
          refine s_cons (op_move (.string (str ((([(byt (f.Kind % 256))]) ++ (put f.View)) ++ (put f.Site)))) rfl ?_)
          refine s_cons (op_addStr (a := (four (more 1 ((([(byt (f.Kind % 256))]) ++ (put f.View)) ++ (put f.Site))))) (b := ((([(byt (f.Kind % 256))]) ++ (put f.View)) ++ (put f.Site))) rfl rfl (by first | omega | (simp; omega)) ?_)
          refine s_cons (op_assign (.string (str ((four (more 1 ((([(byt (f.Kind % 256))]) ++ (put f.View)) ++ (put f.Site)))) ++ ((([(byt (f.Kind % 256))]) ++ (put f.View)) ++ (put f.Site))))) rfl ?_)
          refine s_cons (op_assign (.int .i64 0) rfl ?_)
          refine s_nil ?_
          refine then_n ?_
          refine cE_ret ?_
          refine post_r _ (res2 (v := (.string (str ((four (more 1 ((([(byt (f.Kind % 256))]) ++ (put f.View)) ++ (put f.Site)))) ++ ((([(byt (f.Kind % 256))]) ++ (put f.View)) ++ (put f.Site)))))) rfl (x := (.int .i64 0)) rfl) ?_
          exact ⟨(retv2 (congrArg (fun l => Value.string (str l)) (show ((four (more 1 ((([(byt (f.Kind % 256))]) ++ (put f.View)) ++ (put f.Site)))) ++ ((([(byt (f.Kind % 256))]) ++ (put f.View)) ++ (put f.Site))) = (encF f).1 from by first | (have hk1 : f.Kind = 1 := (by assumption); exact renc1 hmf hk1) | (have hk2 : f.Kind = 2 := (by assumption); exact renc2 hmf hk2) | (have hk1 : ¬ f.Kind = 1 := (by assumption); have hk2 : ¬ f.Kind = 2 := (by assumption); exact renc3 hmf hk1 hk2) | rw [encF_no (by assumption)] | rw [encF_yes (by assumption)])) (congrArg (Value.int .i64) (show 0 = (encF f).2 from by first | (have hk1 : f.Kind = 1 := (by assumption); exact renc1 hmf hk1) | (have hk2 : f.Kind = 2 := (by assumption); exact renc2 hmf hk2) | (have hk1 : ¬ f.Kind = 1 := (by assumption); have hk2 : ¬ f.Kind = 2 := (by assumption); exact renc3 hmf hk1 hk2) | rw [encF_no (by assumption)] | rw [encF_yes (by assumption)]))), hst.bare⟩
  · refine cE_cond true (congrArg Value.bool (congrArg (! ·) b4)) (fun _ => ?_) (fun h => by cases h)
    refine cE_seq ?_
    refine cE_region rfl ?_
    refine s_cons (op_assign (.string (str ([] : List UInt8))) rfl ?_)
    refine s_cons (op_assign (.int .i64 1) rfl ?_)
    refine s_nil ?_
    refine then_n ?_
    refine cE_ret ?_
    refine then_r ?_
    refine post_r _ (res2 (v := (.string (str ([] : List UInt8)))) rfl (x := (.int .i64 1)) rfl) ?_
    exact ⟨(retv2 (congrArg (fun l => Value.string (str l)) (show ([] : List UInt8) = (encF f).1 from by first | (have hk1 : f.Kind = 1 := (by assumption); exact renc1 hmf hk1) | (have hk2 : f.Kind = 2 := (by assumption); exact renc2 hmf hk2) | (have hk1 : ¬ f.Kind = 1 := (by assumption); have hk2 : ¬ f.Kind = 2 := (by assumption); exact renc3 hmf hk1 hk2) | rw [encF_no (by assumption)] | rw [encF_yes (by assumption)])) (congrArg (Value.int .i64) (show 1 = (encF f).2 from by first | (have hk1 : f.Kind = 1 := (by assumption); exact renc1 hmf hk1) | (have hk2 : f.Kind = 2 := (by assumption); exact renc2 hmf hk2) | (have hk1 : ¬ f.Kind = 1 := (by assumption); have hk2 : ¬ f.Kind = 2 := (by assumption); exact renc3 hmf hk1 hk2) | rw [encF_no (by assumption)] | rw [encF_yes (by assumption)]))), hst.bare⟩

end Go.Proofs.Ytfljkaigfmedeaa
