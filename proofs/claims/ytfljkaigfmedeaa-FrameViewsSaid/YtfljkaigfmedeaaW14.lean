/- frames: frame.Put -/
import Derived.Test.YtfljkaigfmedeaaW1
import Derived.Test.YtfljkaigfmedeaaW2
import Derived.Test.YtfljkaigfmedeaaW3
import Derived.Test.YtfljkaigfmedeaaFC
import Derived.Test.YtfljkaigfmedeaaW10
import Derived.Test.YtfljkaigfmedeaaW11
import Derived.Test.YtfljkaigfmedeaaW12
import Derived.Test.YtfljkaigfmedeaaW13
namespace Go.Proofs.Ytfljkaigfmedeaa
open Go.RowKit

set_option maxHeartbeats 1000000 in
theorem c_fPut (w0 : World) (f : Frame) (v_f_Body : Value) (h_f_Body : Sl w0 u8E v_f_Body f.Body) (hf : f.ok) :
    Calls Try.prog 8 #[(.agg #[(.int .i64 f.Kind), (.int .i64 f.View), (.int .i64 f.Site), (.int .i64 f.Seq), v_f_Body])] w0 fun e w' => ∃ (r : Value), e = .returned (.tuple #[r, (.int .i64 ((encF f).2))]) ∧ St w0 w' [rowT 5 u8E r ((encF f).1)] := by
  refine calls_E (n := 68) (ts := [2, 3]) Try.func8 rfl rfl rfl (by simp) ?_
  have hst := St.start w0
  refine cE_seq ?_
  refine cE_region rfl ?_
  refine s_cons (op_box (v := (.agg #[(.int .i64 f.Kind), (.int .i64 f.View), (.int .i64 f.Site), (.int .i64 f.Seq), v_f_Body])) (cs := #[(.int .i64 f.Kind), (.int .i64 f.View), (.int .i64 f.Site), (.int .i64 f.Seq), v_f_Body]) hst rfl rfl (fun g1 w2 hst _ => ?_))
  replace hst : St w0 w2 [.blk g1 25 #[(.int .i64 f.Kind), (.int .i64 f.View), (.int .i64 f.Site), (.int .i64 f.Seq), v_f_Body]] := hst
  refine s_cons (op_assign (.slice none 0 0) rfl ?_)
  refine s_cons (op_assign (.int .i64 0) rfl ?_)
  refine s_nil ?_
  refine then_n ?_
  refine cE_seq ?_
  refine cE_seq ?_
  refine cE_region rfl ?_
  refine s_cons (op_loadN (cs := [(.int .i64 f.Kind), (.int .i64 f.View), (.int .i64 f.Site), (.int .i64 f.Seq), v_f_Body]) Try.isAgg25 Try.sizeOf25 rfl (Pt.of (hst.cell 0 rfl) rfl) rfl ?_)
  refine s_cons (op_call Try.call15 (evs_cons (v := (.agg #[(.int .i64 f.Kind), (.int .i64 f.View), (.int .i64 f.Site), (.int .i64 f.Seq), v_f_Body])) rfl evs_nil) (c_fMay (w0 := w2) (f := f) (v_f_Body := v_f_Body) (h_f_Body := (h_f_Body.below hst.below))) ?_)
  rintro _ w3 ⟨rfl, hcall⟩
  refine ⟨_, rfl, ?_⟩
  have hst : St w0 w3 [.blk g1 25 #[(.int .i64 f.Kind), (.int .i64 f.View), (.int .i64 f.Site), (.int .i64 f.Seq), v_f_Body]] := hst.call hcall
  refine s_cons (op_not (b := mayF f) rfl ?_)
  refine s_nil ?_
  refine then_n ?_
  rcases Bool.eq_false_or_eq_true (mayF f) with b4 | b4
  · have hmf := b4
    obtain ⟨⟨hm1, hm2, hm3, hm4⟩, hm5⟩ := mayF_true b4
    refine cE_cond false (congrArg Value.bool (congrArg (! ·) b4)) (fun h => by cases h) (fun _ => ?_)
    refine cE_skip ?_
    refine then_n ?_
    refine cE_seq ?_
    have hl1 := put_length f.View
    have hl2 := put_length f.Seq
    have hl3 := put_length f.Site
    have hl4 := put_length (f.Body.length : Int)
    have hM11 : stabML [8] [(kEq (.pointer (some ⟨g1, (0 + 0), none⟩))), (kEq (.int .i64 f.Kind)), (kEq (.int .u8 (f.Kind % 256))), (fun (D : Nat → Bool) (v5 : Value) (w : World) => (D 8 = false → St w0 w [rowT 5 u8E v5 ([(byt (f.Kind % 256))]), .blk g1 25 #[(.int .i64 f.Kind), (.int .i64 f.View), (.int .i64 f.Site), (.int .i64 f.Seq), v_f_Body]])), (kEq (.pointer (some ⟨g1, (0 + 1), none⟩))), (kEq (.int .i64 f.View)), (kEq (.int .u64 f.View)), (kSlU [8] u8E (put f.View)), (fun (D : Nat → Bool) (v9 : Value) (w : World) => (D 8 = true → St w0 w [rowT 5 u8E v9 (([(byt (f.Kind % 256))]) ++ (put f.View)), .blk g1 25 #[(.int .i64 f.Kind), (.int .i64 f.View), (.int .i64 f.Site), (.int .i64 f.Seq), v_f_Body]])), (fun (D : Nat → Bool) (v9 : Value) (w : World) => (D 8 = true → St w0 w [rowT 5 u8E v9 (([(byt (f.Kind % 256))]) ++ (put f.View)), .blk g1 25 #[(.int .i64 f.Kind), (.int .i64 f.View), (.int .i64 f.Site), (.int .i64 f.Seq), v_f_Body]]))] := ⟨mEq, mEq, mEq, (fun D D' v w w' hD hb h2 => (fun x0 => (h2 ((hD 8 (by decide)).symm.trans x0)).ext hb)), mEq, mEq, mEq, (mSlUs (by decide)), (fun D D' v w w' hD hb h2 => (fun x0 => (h2 ((hD 8 (by decide)).symm.trans x0)).ext hb)), (fun D D' v w w' hD hb h2 => (fun x0 => (h2 ((hD 8 (by decide)).symm.trans x0)).ext hb)), trivial⟩
    refine cE_regionK (fun (D : Nat → Bool) (w : World) => St w0 w [.blk g1 25 #[(.int .i64 f.Kind), (.int .i64 f.View), (.int .i64 f.Site), (.int .i64 f.Seq), v_f_Body]] ∧ (D 8 = false → St w0 w [.blk g1 25 #[(.int .i64 f.Kind), (.int .i64 f.View), (.int .i64 f.Site), (.int .i64 f.Seq), v_f_Body]])) [[(1, none)], [(9, some 0)], [(10, some 1)], [(11, some 2)], [(1, none)], [(13, some 4)], [(14, some 5)], [(15, some 6)], [(12, some 3), (16, some 7)], [(17, some 8)]] (RofK [(kEq (.pointer (some ⟨g1, (0 + 0), none⟩))), (kEq (.int .i64 f.Kind)), (kEq (.int .u8 (f.Kind % 256))), (fun (D : Nat → Bool) (v5 : Value) (w : World) => (D 8 = false → St w0 w [rowT 5 u8E v5 ([(byt (f.Kind % 256))]), .blk g1 25 #[(.int .i64 f.Kind), (.int .i64 f.View), (.int .i64 f.Site), (.int .i64 f.Seq), v_f_Body]])), (kEq (.pointer (some ⟨g1, (0 + 1), none⟩))), (kEq (.int .i64 f.View)), (kEq (.int .u64 f.View)), (kSlU [8] u8E (put f.View)), (fun (D : Nat → Bool) (v9 : Value) (w : World) => (D 8 = true → St w0 w [rowT 5 u8E v9 (([(byt (f.Kind % 256))]) ++ (put f.View)), .blk g1 25 #[(.int .i64 f.Kind), (.int .i64 f.View), (.int .i64 f.Site), (.int .i64 f.Seq), v_f_Body]])), (fun (D : Nat → Bool) (v9 : Value) (w : World) => (D 8 = true → St w0 w [rowT 5 u8E v9 (([(byt (f.Kind % 256))]) ++ (put f.View)), .blk g1 25 #[(.int .i64 f.Kind), (.int .i64 f.View), (.int .i64 f.Site), (.int .i64 f.Seq), v_f_Body]]))]) (by kernel_rfl) rfl (by kernel_rfl) ⟨hst.drewW.sub (.cons_cons _ .slnil), (fun _ => hst.drewW)⟩ ⟨?_, ?_, ?_, ?_, ?_, ?_, ?_, ?_, ?_, ?_, trivial⟩ ?_
    · rintro D13 ρ14 w15 hD16 hE17 hC18 hJ19 hA20 ⟨f1, _⟩
      have hst := hJ19.2 (not_yet hD16 (fun hm => (hC18 1 0 (hC18 2 1 (hC18 3 2 (hC18 8 3 hm (by kernel_rfl)) (by kernel_rfl)) (by kernel_rfl)) (by kernel_rfl))))
      replace hst : St w0 w15 [.blk g1 25 #[(.int .i64 f.Kind), (.int .i64 f.View), (.int .i64 f.Site), (.int .i64 f.Seq), v_f_Body]] := hst
      exact go_plain (op_fieldAddr (s := 0) Try.underlying25 rfl rfl Try.sizeOf3 (f1.trans rfl) (kN0 (i := 0) hM11 (by decide) (by exact hJ19) (by exact rfl)))
    · rintro D21 ρ22 w23 hD24 hE25 hC26 hJ27 hA28 ⟨f9, _⟩
      have hst := hJ27.2 (not_yet hD24 (fun hm => (hC26 2 1 (hC26 3 2 (hC26 8 3 hm (by kernel_rfl)) (by kernel_rfl)) (by kernel_rfl))))
      replace hst : St w0 w23 [.blk g1 25 #[(.int .i64 f.Kind), (.int .i64 f.View), (.int .i64 f.Site), (.int .i64 f.Seq), v_f_Body]] := hst
      exact go_plain (op_load1 (u := (.int .i64 f.Kind)) Try.isAgg3 f9 (hst.cell 0 rfl) (kN0 (i := 1) hM11 (by decide) (by exact hJ27) (by exact rfl)))
    · rintro D29 ρ30 w31 hD32 hE33 hC34 hJ35 hA36 ⟨f10, _⟩
      have hst := hJ35.2 (not_yet hD32 (fun hm => (hC34 3 2 (hC34 8 3 hm (by kernel_rfl)) (by kernel_rfl))))
      replace hst : St w0 w31 [.blk g1 25 #[(.int .i64 f.Kind), (.int .i64 f.View), (.int .i64 f.Site), (.int .i64 f.Seq), v_f_Body]] := hst
      exact go_plain (op_conv (k := .i64) (a := f.Kind) (f.Kind % 256) Try.underlying5 (by rw [Try.underlying3]; rfl) f10 (IntKind.wrap_u8 _) (kN0 (i := 2) hM11 (by decide) (by exact hJ35) (by exact rfl)))
    · rintro D37 ρ38 w39 hD40 hE41 hC42 hJ43 hA44 ⟨f11, _⟩
      have hst := hJ43.2 (not_yet hD40 (fun hm => (hC42 8 3 hm (by kernel_rfl))))
      replace hst : St w0 w39 [.blk g1 25 #[(.int .i64 f.Kind), (.int .i64 f.View), (.int .i64 f.Site), (.int .i64 f.Seq), v_f_Body]] := hst
      have hst := St.start w39
      refine go_plain (op_buildSlice (E := u8E) [(byt (f.Kind % 256))] hst Try.underlying23 Try.sizeOf5 Try.zeroValue5 (evp_cons (v := (.int .u8 (f.Kind % 256))) f11 evp_nil) (parts_cons (by rw [u8cell]; exact byt_cell (by omega) (by omega)) parts_nil) rfl (by decide) (fun v45 w46 hst => ?_))
      exact kN (i := 3) hM11 (by decide) hst.below (by exact ⟨(hJ43.1).ext hst.below, (fun x0 => (hJ43.2 x0).ext hst.below)⟩) (by exact (fun y0 => (hJ43.2 y0).call hst))
    · rintro D47 ρ48 w49 hD50 hE51 hC52 hJ53 hA54 ⟨f1, _⟩
      have hst := hJ53.2 (not_yet hD50 (fun hm => (hC52 5 4 (hC52 6 5 (hC52 7 6 (hC52 8 7 hm (by kernel_rfl)) (by kernel_rfl)) (by kernel_rfl)) (by kernel_rfl))))
      replace hst : St w0 w49 [.blk g1 25 #[(.int .i64 f.Kind), (.int .i64 f.View), (.int .i64 f.Site), (.int .i64 f.Seq), v_f_Body]] := hst
      exact go_plain (op_fieldAddr (s := 0) Try.underlying25 rfl rfl Try.sizeOf3 (f1.trans rfl) (kN0 (i := 4) hM11 (by decide) (by exact hJ53) (by exact rfl)))
    · rintro D55 ρ56 w57 hD58 hE59 hC60 hJ61 hA62 ⟨f13, _⟩
      have hst := hJ61.2 (not_yet hD58 (fun hm => (hC60 6 5 (hC60 7 6 (hC60 8 7 hm (by kernel_rfl)) (by kernel_rfl)) (by kernel_rfl))))
      replace hst : St w0 w57 [.blk g1 25 #[(.int .i64 f.Kind), (.int .i64 f.View), (.int .i64 f.Site), (.int .i64 f.Seq), v_f_Body]] := hst
      exact go_plain (op_load1 (u := (.int .i64 f.View)) Try.isAgg3 f13 ((hst.cell 0 rfl).drop 1) (kN0 (i := 5) hM11 (by decide) (by exact hJ61) (by exact rfl)))
    · rintro D63 ρ64 w65 hD66 hE67 hC68 hJ69 hA70 ⟨f14, _⟩
      have hst := hJ69.2 (not_yet hD66 (fun hm => (hC68 7 6 (hC68 8 7 hm (by kernel_rfl)) (by kernel_rfl))))
      replace hst : St w0 w65 [.blk g1 25 #[(.int .i64 f.Kind), (.int .i64 f.View), (.int .i64 f.Site), (.int .i64 f.Seq), v_f_Body]] := hst
      exact go_plain (op_conv (k := .i64) (a := f.View) f.View Try.underlying41 (by rw [Try.underlying3]; rfl) f14 (xu64 (by omega) (by omega)) (kN0 (i := 6) hM11 (by decide) (by exact hJ69) (by exact rfl)))
    · rintro D71 ρ72 w73 hD74 hE75 hC76 hJ77 hA78 ⟨f15, _⟩
      have hst := hJ77.2 (not_yet hD74 (fun hm => (hC76 8 7 hm (by kernel_rfl))))
      replace hst : St w0 w73 [.blk g1 25 #[(.int .i64 f.Kind), (.int .i64 f.View), (.int .i64 f.Site), (.int .i64 f.Seq), v_f_Body]] := hst
      refine go_plain (op_call Try.call17 (evs_cons (v := (.int .u64 f.View)) f15 evs_nil) (c_Put (w0 := w73) (n := f.View) (h0 := (by omega)) (h1 := (by omega))) ?_)
      rintro _ w80 ⟨r79, rfl, hcall⟩
      refine ⟨_, rfl, ?_⟩
      exact kN (i := 7) hM11 (by decide) hcall.below (by exact ⟨(hJ77.1).ext hcall.below, (fun x0 => (hJ77.2 x0).ext hcall.below)⟩) (by exact fun _ => hcall.sl 0 rfl)
    · rintro D81 ρ82 w83 hD84 hE85 hC86 hJ87 hA88 ⟨f12, f16, _⟩
      obtain ⟨v89, e90⟩ : ∃ x, ρ82 12 = x := ⟨_, rfl⟩
      have hh91 := hA88 3 12 (hE85 3 (by kernel_rfl)) rfl
      have hst : St w0 w83 [rowT 5 u8E v89 ([(byt (f.Kind % 256))]), .blk g1 25 #[(.int .i64 f.Kind), (.int .i64 f.View), (.int .i64 f.Site), (.int .i64 f.Seq), v_f_Body]] := by have h := hh91 hD84; rw [e90] at h; exact h
      obtain ⟨v93, e94⟩ : ∃ x, ρ82 16 = x := ⟨_, rfl⟩
      have hs92 := f16 (by intro m hm; obtain rfl := List.mem_singleton.1 hm; exact hD84)
      replace hs92 : Sl w83 u8E v93 (put f.View) := e94 ▸ hs92
      refine go_plain (op_append (E := u8E) (xs := [(byt (f.Kind % 256))]) (ys := (put f.View)) (z := (.int .u8 0)) (bytes := 1) hst 0 rfl Try.underlying23 (by kernel_rfl) rfl e90 e94 hs92 (by first | omega | (simp; omega)) (by first | omega | (simp; omega)) (fun v95 w96 hst => ?_))
      replace hst : St w0 w96 [rowT 5 u8E v95 (([(byt (f.Kind % 256))]) ++ (put f.View)), .blk g1 25 #[(.int .i64 f.Kind), (.int .i64 f.View), (.int .i64 f.Site), (.int .i64 f.Seq), v_f_Body]] := hst
      have hI97 : stabIXs 8 [3] D81 0 [(kEq (.pointer (some ⟨g1, (0 + 0), none⟩))), (kEq (.int .i64 f.Kind)), (kEq (.int .u8 (f.Kind % 256))), (fun (D : Nat → Bool) (v5 : Value) (w : World) => (D 8 = false → St w0 w [rowT 5 u8E v5 ([(byt (f.Kind % 256))]), .blk g1 25 #[(.int .i64 f.Kind), (.int .i64 f.View), (.int .i64 f.Site), (.int .i64 f.Seq), v_f_Body]])), (kEq (.pointer (some ⟨g1, (0 + 1), none⟩))), (kEq (.int .i64 f.View)), (kEq (.int .u64 f.View)), (kSlU [8] u8E (put f.View)), (fun (D : Nat → Bool) (v9 : Value) (w : World) => (D 8 = true → St w0 w [rowT 5 u8E v9 (([(byt (f.Kind % 256))]) ++ (put f.View)), .blk g1 25 #[(.int .i64 f.Kind), (.int .i64 f.View), (.int .i64 f.Site), (.int .i64 f.Seq), v_f_Body]])), (fun (D : Nat → Bool) (v9 : Value) (w : World) => (D 8 = true → St w0 w [rowT 5 u8E v9 (([(byt (f.Kind % 256))]) ++ (put f.View)), .blk g1 25 #[(.int .i64 f.Kind), (.int .i64 f.View), (.int .i64 f.Site), (.int .i64 f.Seq), v_f_Body]]))] := ⟨Or.inr (Or.inr (Or.inr iEq)), Or.inr (Or.inr (Or.inr iEq)), Or.inr (Or.inr (Or.inr iEq)), Or.inr (Or.inl (by decide)), Or.inr (Or.inr (Or.inr iEq)), Or.inr (Or.inr (Or.inr iEq)), Or.inr (Or.inr (Or.inr iEq)), Or.inr (Or.inr (Or.inr (iSlU (by decide)))), Or.inl rfl, Or.inr (Or.inr (Or.inl (not_yet hD84 (fun hm => (hC86 9 8 hm (by kernel_rfl)))))), trivial⟩
      refine ⟨by exact ⟨hst.sub (.cons _ (.cons_cons _ .slnil)), (fun y0 => absurd y0 (fun h => Bool.noConfusion h))⟩, by exact (fun y0 => hst.sub (.cons_cons _ (.cons_cons _ .slnil))), kX [3] hI97 ?_⟩
      intro j d hj hjd hDj h
      simp only [List.mem_cons, List.not_mem_nil, or_false] at hj
      subst hj
      obtain rfl : 12 = d := Option.some.inj hjd
      exact (by rw [e90]; exact (fun y0 => absurd y0 (fun h => Bool.noConfusion h)))
    · rintro D98 ρ99 w100 hD101 hE102 hC103 hJ104 hA105 ⟨f17, _⟩
      obtain ⟨v106, e107⟩ : ∃ x, ρ99 17 = x := ⟨_, rfl⟩
      have hh108 := hA105 8 17 (hE102 8 (by kernel_rfl)) rfl
      have hst : St w0 w100 [rowT 5 u8E v106 (([(byt (f.Kind % 256))]) ++ (put f.View)), .blk g1 25 #[(.int .i64 f.Kind), (.int .i64 f.View), (.int .i64 f.Site), (.int .i64 f.Seq), v_f_Body]] := by have h := hh108 (hE102 8 (by kernel_rfl)); rw [e107] at h; exact h
      exact go_plain (op_assign _ rfl (kN0 (i := 9) hM11 (by decide) (by exact hJ104) (by exact f17)))
    · intro ρ109 w110 Dw110 hallw110 hJw110 hRw110 hkw110
      obtain ⟨v111, uw110_4⟩ : ∃ x, ρ109 4 = x := ⟨_, rfl⟩
      have hst : St w0 w110 [rowT 5 u8E v111 (([(byt (f.Kind % 256))]) ++ (put f.View)), .blk g1 25 #[(.int .i64 f.Kind), (.int .i64 f.View), (.int .i64 f.Site), (.int .i64 f.Seq), v_f_Body]] := by have h := hRw110 9 4 rfl; rw [uw110_4] at h; exact (h (hallw110 8 (show 8 < 10 from by decide)))
      have uw110_0 : ρ109 0 = (.agg #[(.int .i64 f.Kind), (.int .i64 f.View), (.int .i64 f.Site), (.int .i64 f.Seq), v_f_Body]) := (hkw110 0 rfl).trans rfl
      have uw110_1 : ρ109 1 = (.pointer (some ⟨g1, 0, none⟩)) := (hkw110 1 rfl).trans rfl
      have uw110_2 : ρ109 2 = (.slice none 0 0) := (hkw110 2 rfl).trans rfl
      have uw110_3 : ρ109 3 = (.int .i64 0) := (hkw110 3 rfl).trans rfl
      have uw110_6 : ρ109 6 = (.agg #[(.int .i64 f.Kind), (.int .i64 f.View), (.int .i64 f.Site), (.int .i64 f.Seq), v_f_Body]) := (hkw110 6 rfl).trans rfl
      have uw110_7 : ρ109 7 = (.bool (mayF f)) := (hkw110 7 rfl).trans rfl
      have uw110_8 : ρ109 8 = (.bool (!(mayF f))) := (hkw110 8 rfl).trans rfl
      refine then_n ?_
      refine cE_seq ?_
      refine cE_seq ?_
      refine cE_region rfl ?_
      refine s_cons (op_fieldAddr (s := 0) Try.underlying25 rfl rfl Try.sizeOf3 uw110_1 ?_)
      refine s_cons (op_load1 (u := (.int .i64 f.Kind)) Try.isAgg3 rfl (hst.cell 1 rfl) ?_)
      refine s_nil ?_
      refine then_n ?_
      refine cE_block ?_
      refine cE_seq ?_
      refine cE_region rfl ?_
      refine s_cons (op_eql (k := .i64) (a := f.Kind) (b := 1) rfl rfl ?_)
      refine s_cons (op_assign (.bool (decide (f.Kind = 1))) rfl ?_)
      refine s_nil ?_
      refine then_n ?_
      rcases Bool.eq_false_or_eq_true (decide (f.Kind = 1)) with b112 | b112
      · have c113 : f.Kind = 1 := of_decide_eq_true b112
        refine cE_cond true (congrArg Value.bool b112) (fun _ => ?_) (fun h => by cases h)
        refine cE_seq ?_
        have hM122 : stabML [5, 11] [(kEq v111), (kEq (.pointer (some ⟨g1, (0 + 3), none⟩))), (kEq (.int .i64 f.Seq)), (kEq (.int .u64 f.Seq)), (kSlU [5, 11] u8E (put f.Seq)), (fun (D : Nat → Bool) (v116 : Value) (w : World) => (D 5 = true → D 11 = false → St w0 w [rowT 5 u8E v116 ((([(byt (f.Kind % 256))]) ++ (put f.View)) ++ (put f.Seq)), .blk g1 25 #[(.int .i64 f.Kind), (.int .i64 f.View), (.int .i64 f.Site), (.int .i64 f.Seq), v_f_Body]])), (kEq (.pointer (some ⟨g1, (0 + 4), none⟩))), (kEq v_f_Body), (kEq (.int .i64 (f.Body.length : Int))), (kEq (.int .u64 (f.Body.length : Int))), (kSlU [11] u8E (put (f.Body.length : Int))), (fun (D : Nat → Bool) (v120 : Value) (w : World) => (D 11 = true → St w0 w [rowT 5 u8E v120 (((([(byt (f.Kind % 256))]) ++ (put f.View)) ++ (put f.Seq)) ++ (put (f.Body.length : Int))), .blk g1 25 #[(.int .i64 f.Kind), (.int .i64 f.View), (.int .i64 f.Site), (.int .i64 f.Seq), v_f_Body]])), (fun (D : Nat → Bool) (v120 : Value) (w : World) => (D 11 = true → St w0 w [rowT 5 u8E v120 (((([(byt (f.Kind % 256))]) ++ (put f.View)) ++ (put f.Seq)) ++ (put (f.Body.length : Int))), .blk g1 25 #[(.int .i64 f.Kind), (.int .i64 f.View), (.int .i64 f.Site), (.int .i64 f.Seq), v_f_Body]]))] := ⟨mEq, mEq, mEq, mEq, (mSlUs (by decide)), (fun D D' v w w' hD hb h2 => (fun x0 x1 => (h2 ((hD 5 (by decide)).symm.trans x0) ((hD 11 (by decide)).symm.trans x1)).ext hb)), mEq, mEq, mEq, mEq, (mSlUs (by decide)), (fun D D' v w w' hD hb h2 => (fun x0 => (h2 ((hD 11 (by decide)).symm.trans x0)).ext hb)), (fun D D' v w w' hD hb h2 => (fun x0 => (h2 ((hD 11 (by decide)).symm.trans x0)).ext hb)), trivial⟩
        refine cE_regionK (fun (D : Nat → Bool) (w : World) => St w0 w [.blk g1 25 #[(.int .i64 f.Kind), (.int .i64 f.View), (.int .i64 f.Site), (.int .i64 f.Seq), v_f_Body]] ∧ (D 5 = false → St w0 w [rowT 5 u8E v111 (([(byt (f.Kind % 256))]) ++ (put f.View)), .blk g1 25 #[(.int .i64 f.Kind), (.int .i64 f.View), (.int .i64 f.Site), (.int .i64 f.Seq), v_f_Body]])) [[(4, none)], [(1, none)], [(29, some 1)], [(30, some 2)], [(31, some 3)], [(28, some 0), (32, some 4)], [(1, none)], [(34, some 6)], [(35, some 7)], [(36, some 8)], [(37, some 9)], [(33, some 5), (38, some 10)], [(39, some 11)]] (RofK [(kEq v111), (kEq (.pointer (some ⟨g1, (0 + 3), none⟩))), (kEq (.int .i64 f.Seq)), (kEq (.int .u64 f.Seq)), (kSlU [5, 11] u8E (put f.Seq)), (fun (D : Nat → Bool) (v116 : Value) (w : World) => (D 5 = true → D 11 = false → St w0 w [rowT 5 u8E v116 ((([(byt (f.Kind % 256))]) ++ (put f.View)) ++ (put f.Seq)), .blk g1 25 #[(.int .i64 f.Kind), (.int .i64 f.View), (.int .i64 f.Site), (.int .i64 f.Seq), v_f_Body]])), (kEq (.pointer (some ⟨g1, (0 + 4), none⟩))), (kEq v_f_Body), (kEq (.int .i64 (f.Body.length : Int))), (kEq (.int .u64 (f.Body.length : Int))), (kSlU [11] u8E (put (f.Body.length : Int))), (fun (D : Nat → Bool) (v120 : Value) (w : World) => (D 11 = true → St w0 w [rowT 5 u8E v120 (((([(byt (f.Kind % 256))]) ++ (put f.View)) ++ (put f.Seq)) ++ (put (f.Body.length : Int))), .blk g1 25 #[(.int .i64 f.Kind), (.int .i64 f.View), (.int .i64 f.Site), (.int .i64 f.Seq), v_f_Body]])), (fun (D : Nat → Bool) (v120 : Value) (w : World) => (D 11 = true → St w0 w [rowT 5 u8E v120 (((([(byt (f.Kind % 256))]) ++ (put f.View)) ++ (put f.Seq)) ++ (put (f.Body.length : Int))), .blk g1 25 #[(.int .i64 f.Kind), (.int .i64 f.View), (.int .i64 f.Site), (.int .i64 f.Seq), v_f_Body]]))]) (by kernel_rfl) rfl (by kernel_rfl) ⟨hst.drewW.sub (.cons _ (.cons_cons _ .slnil)), (fun _ => hst.drewW)⟩ ⟨?_, ?_, ?_, ?_, ?_, ?_, ?_, ?_, ?_, ?_, ?_, ?_, ?_, trivial⟩ ?_
        · rintro D124 ρ125 w126 hD127 hE128 hC129 hJ130 hA131 ⟨f4, _⟩
          have hst := hJ130.2 (not_yet hD127 (fun hm => (hC129 5 0 hm (by kernel_rfl))))
          replace hst : St w0 w126 [rowT 5 u8E v111 (([(byt (f.Kind % 256))]) ++ (put f.View)), .blk g1 25 #[(.int .i64 f.Kind), (.int .i64 f.View), (.int .i64 f.Site), (.int .i64 f.Seq), v_f_Body]] := hst
          exact go_plain (op_move v111 (f4.trans uw110_4) (kN0 (i := 0) hM122 (by decide) (by exact hJ130) (by exact rfl)))
        · rintro D132 ρ133 w134 hD135 hE136 hC137 hJ138 hA139 ⟨f1, _⟩
          have hst := hJ138.2 (not_yet hD135 (fun hm => (hC137 2 1 (hC137 3 2 (hC137 4 3 (hC137 5 4 hm (by kernel_rfl)) (by kernel_rfl)) (by kernel_rfl)) (by kernel_rfl))))
          replace hst : St w0 w134 [rowT 5 u8E v111 (([(byt (f.Kind % 256))]) ++ (put f.View)), .blk g1 25 #[(.int .i64 f.Kind), (.int .i64 f.View), (.int .i64 f.Site), (.int .i64 f.Seq), v_f_Body]] := hst
          exact go_plain (op_fieldAddr (s := 0) Try.underlying25 rfl rfl Try.sizeOf2 (f1.trans uw110_1) (kN0 (i := 1) hM122 (by decide) (by exact hJ138) (by exact rfl)))
        · rintro D140 ρ141 w142 hD143 hE144 hC145 hJ146 hA147 ⟨f29, _⟩
          have hst := hJ146.2 (not_yet hD143 (fun hm => (hC145 3 2 (hC145 4 3 (hC145 5 4 hm (by kernel_rfl)) (by kernel_rfl)) (by kernel_rfl))))
          replace hst : St w0 w142 [rowT 5 u8E v111 (([(byt (f.Kind % 256))]) ++ (put f.View)), .blk g1 25 #[(.int .i64 f.Kind), (.int .i64 f.View), (.int .i64 f.Site), (.int .i64 f.Seq), v_f_Body]] := hst
          exact go_plain (op_load1 (u := (.int .i64 f.Seq)) Try.isAgg2 f29 ((hst.cell 1 rfl).drop 3) (kN0 (i := 2) hM122 (by decide) (by exact hJ146) (by exact rfl)))
        · rintro D148 ρ149 w150 hD151 hE152 hC153 hJ154 hA155 ⟨f30, _⟩
          have hst := hJ154.2 (not_yet hD151 (fun hm => (hC153 4 3 (hC153 5 4 hm (by kernel_rfl)) (by kernel_rfl))))
          replace hst : St w0 w150 [rowT 5 u8E v111 (([(byt (f.Kind % 256))]) ++ (put f.View)), .blk g1 25 #[(.int .i64 f.Kind), (.int .i64 f.View), (.int .i64 f.Site), (.int .i64 f.Seq), v_f_Body]] := hst
          exact go_plain (op_conv (k := .i64) (a := f.Seq) f.Seq Try.underlying41 (by rw [Try.underlying2]; rfl) f30 (xu64 (by omega) (by omega)) (kN0 (i := 3) hM122 (by decide) (by exact hJ154) (by exact rfl)))
        · rintro D156 ρ157 w158 hD159 hE160 hC161 hJ162 hA163 ⟨f31, _⟩
          have hst := hJ162.2 (not_yet hD159 (fun hm => (hC161 5 4 hm (by kernel_rfl))))
          replace hst : St w0 w158 [rowT 5 u8E v111 (([(byt (f.Kind % 256))]) ++ (put f.View)), .blk g1 25 #[(.int .i64 f.Kind), (.int .i64 f.View), (.int .i64 f.Site), (.int .i64 f.Seq), v_f_Body]] := hst
          refine go_plain (op_call Try.call17 (evs_cons (v := (.int .u64 f.Seq)) f31 evs_nil) (c_Put (w0 := w158) (n := f.Seq) (h0 := (by omega)) (h1 := (by omega))) ?_)
          rintro _ w165 ⟨r164, rfl, hcall⟩
          refine ⟨_, rfl, ?_⟩
          exact kN (i := 4) hM122 (by decide) hcall.below (by exact ⟨(hJ162.1).ext hcall.below, (fun x0 => (hJ162.2 x0).ext hcall.below)⟩) (by exact fun _ => hcall.sl 0 rfl)
        · rintro D166 ρ167 w168 hD169 hE170 hC171 hJ172 hA173 ⟨f28, f32, _⟩
          have hst := hJ172.2 hD169
          replace hst : St w0 w168 [rowT 5 u8E v111 (([(byt (f.Kind % 256))]) ++ (put f.View)), .blk g1 25 #[(.int .i64 f.Kind), (.int .i64 f.View), (.int .i64 f.Site), (.int .i64 f.Seq), v_f_Body]] := hst
          obtain ⟨v175, e176⟩ : ∃ x, ρ167 32 = x := ⟨_, rfl⟩
          have hs174 := f32 (by intro m hm; simp only [List.mem_cons, List.not_mem_nil, or_false] at hm; rcases hm with rfl | rfl; exact hD169; exact (not_yet hD169 (fun hm => (hC171 11 5 hm (by kernel_rfl)))))
          replace hs174 : Sl w168 u8E v175 (put f.Seq) := e176 ▸ hs174
          refine go_plain (op_append (E := u8E) (xs := (([(byt (f.Kind % 256))]) ++ (put f.View))) (ys := (put f.Seq)) (z := (.int .u8 0)) (bytes := 1) hst 0 rfl Try.underlying23 (by kernel_rfl) rfl f28 e176 hs174 (by first | omega | (simp; omega)) (by first | omega | (simp; omega)) (fun v177 w178 hst => ?_))
          replace hst : St w0 w178 [rowT 5 u8E v177 ((([(byt (f.Kind % 256))]) ++ (put f.View)) ++ (put f.Seq)), .blk g1 25 #[(.int .i64 f.Kind), (.int .i64 f.View), (.int .i64 f.Site), (.int .i64 f.Seq), v_f_Body]] := hst
          have hI179 : stabIXs 5 [] D166 0 [(kEq v111), (kEq (.pointer (some ⟨g1, (0 + 3), none⟩))), (kEq (.int .i64 f.Seq)), (kEq (.int .u64 f.Seq)), (kSlU [5, 11] u8E (put f.Seq)), (fun (D : Nat → Bool) (v116 : Value) (w : World) => (D 5 = true → D 11 = false → St w0 w [rowT 5 u8E v116 ((([(byt (f.Kind % 256))]) ++ (put f.View)) ++ (put f.Seq)), .blk g1 25 #[(.int .i64 f.Kind), (.int .i64 f.View), (.int .i64 f.Site), (.int .i64 f.Seq), v_f_Body]])), (kEq (.pointer (some ⟨g1, (0 + 4), none⟩))), (kEq v_f_Body), (kEq (.int .i64 (f.Body.length : Int))), (kEq (.int .u64 (f.Body.length : Int))), (kSlU [11] u8E (put (f.Body.length : Int))), (fun (D : Nat → Bool) (v120 : Value) (w : World) => (D 11 = true → St w0 w [rowT 5 u8E v120 (((([(byt (f.Kind % 256))]) ++ (put f.View)) ++ (put f.Seq)) ++ (put (f.Body.length : Int))), .blk g1 25 #[(.int .i64 f.Kind), (.int .i64 f.View), (.int .i64 f.Site), (.int .i64 f.Seq), v_f_Body]])), (fun (D : Nat → Bool) (v120 : Value) (w : World) => (D 11 = true → St w0 w [rowT 5 u8E v120 (((([(byt (f.Kind % 256))]) ++ (put f.View)) ++ (put f.Seq)) ++ (put (f.Body.length : Int))), .blk g1 25 #[(.int .i64 f.Kind), (.int .i64 f.View), (.int .i64 f.Site), (.int .i64 f.Seq), v_f_Body]]))] := ⟨Or.inr (Or.inr (Or.inr iEq)), Or.inr (Or.inr (Or.inr iEq)), Or.inr (Or.inr (Or.inr iEq)), Or.inr (Or.inr (Or.inr iEq)), Or.inr (Or.inr (Or.inr (iSlU (by decide)))), Or.inl rfl, Or.inr (Or.inr (Or.inr iEq)), Or.inr (Or.inr (Or.inr iEq)), Or.inr (Or.inr (Or.inr iEq)), Or.inr (Or.inr (Or.inr iEq)), Or.inr (Or.inr (Or.inl (not_yet hD169 (fun hm => (hC171 10 5 hm (by kernel_rfl)))))), Or.inr (Or.inr (Or.inl (not_yet hD169 (fun hm => (hC171 11 5 hm (by kernel_rfl)))))), Or.inr (Or.inr (Or.inl (not_yet hD169 (fun hm => (hC171 12 5 hm (by kernel_rfl)))))), trivial⟩
          refine ⟨by exact ⟨hst.sub (.cons _ (.cons_cons _ .slnil)), (fun y0 => absurd y0 (fun h => Bool.noConfusion h))⟩, by exact (fun y0 y1 => hst.sub (.cons_cons _ (.cons_cons _ .slnil))), kX [] hI179 ?_⟩
          intro j d hj; cases hj
        · rintro D180 ρ181 w182 hD183 hE184 hC185 hJ186 hA187 ⟨f1, _⟩
          have hst := hJ186.1
          exact go_plain (op_fieldAddr (s := 0) Try.underlying25 rfl rfl Try.sizeOf23 (f1.trans uw110_1) (kN0 (i := 6) hM122 (by decide) (by exact hJ186) (by exact rfl)))
        · rintro D188 ρ189 w190 hD191 hE192 hC193 hJ194 hA195 ⟨f34, _⟩
          have hst := hJ194.1
          exact go_plain (op_load1 (u := v_f_Body) Try.isAgg23 f34 ((hst.cell 0 rfl).drop 4) (kN0 (i := 7) hM122 (by decide) (by exact hJ194) (by exact rfl)))
        · rintro D196 ρ197 w198 hD199 hE200 hC201 hJ202 hA203 ⟨f35, _⟩
          have hst := hJ202.1
          exact go_plain (op_len (E := u8E) (xs := f.Body) Try.underlying23 f35 h_f_Body (kN0 (i := 8) hM122 (by decide) (by exact hJ202) (by exact rfl)))
        · rintro D204 ρ205 w206 hD207 hE208 hC209 hJ210 hA211 ⟨f36, _⟩
          have hst := hJ210.1
          exact go_plain (op_conv (k := .i64) (a := (f.Body.length : Int)) (f.Body.length : Int) Try.underlying41 (by rw [Try.underlying3]; rfl) f36 (xu64 (by omega) (by omega)) (kN0 (i := 9) hM122 (by decide) (by exact hJ210) (by exact rfl)))
        · rintro D212 ρ213 w214 hD215 hE216 hC217 hJ218 hA219 ⟨f37, _⟩
          obtain ⟨v220, e221⟩ : ∃ x, ρ213 33 = x := ⟨_, rfl⟩
          have hh222 := hA219 5 33 (hE216 5 (by kernel_rfl)) rfl
          have hst : St w0 w214 [rowT 5 u8E v220 ((([(byt (f.Kind % 256))]) ++ (put f.View)) ++ (put f.Seq)), .blk g1 25 #[(.int .i64 f.Kind), (.int .i64 f.View), (.int .i64 f.Site), (.int .i64 f.Seq), v_f_Body]] := by have h := hh222 (hE216 5 (by kernel_rfl)) (not_yet hD215 (fun hm => (hC217 11 10 hm (by kernel_rfl)))); rw [e221] at h; exact h
          refine go_plain (op_call Try.call17 (evs_cons (v := (.int .u64 (f.Body.length : Int))) f37 evs_nil) (c_Put (w0 := w214) (n := (f.Body.length : Int)) (h0 := (by omega)) (h1 := (by omega))) ?_)
          rintro _ w224 ⟨r223, rfl, hcall⟩
          refine ⟨_, rfl, ?_⟩
          exact kN (i := 10) hM122 (by decide) hcall.below (by exact ⟨(hJ218.1).ext hcall.below, (fun x0 => (hJ218.2 x0).ext hcall.below)⟩) (by exact fun _ => hcall.sl 0 rfl)
        · rintro D225 ρ226 w227 hD228 hE229 hC230 hJ231 hA232 ⟨f33, f38, _⟩
          obtain ⟨v233, e234⟩ : ∃ x, ρ226 33 = x := ⟨_, rfl⟩
          have hh235 := hA232 5 33 (hE229 5 (by kernel_rfl)) rfl
          have hst : St w0 w227 [rowT 5 u8E v233 ((([(byt (f.Kind % 256))]) ++ (put f.View)) ++ (put f.Seq)), .blk g1 25 #[(.int .i64 f.Kind), (.int .i64 f.View), (.int .i64 f.Site), (.int .i64 f.Seq), v_f_Body]] := by have h := hh235 (hE229 5 (by kernel_rfl)) hD228; rw [e234] at h; exact h
          obtain ⟨v237, e238⟩ : ∃ x, ρ226 38 = x := ⟨_, rfl⟩
          have hs236 := f38 (by intro m hm; obtain rfl := List.mem_singleton.1 hm; exact hD228)
          replace hs236 : Sl w227 u8E v237 (put (f.Body.length : Int)) := e238 ▸ hs236
          refine go_plain (op_append (E := u8E) (xs := ((([(byt (f.Kind % 256))]) ++ (put f.View)) ++ (put f.Seq))) (ys := (put (f.Body.length : Int))) (z := (.int .u8 0)) (bytes := 1) hst 0 rfl Try.underlying23 (by kernel_rfl) rfl e234 e238 hs236 (by first | omega | (simp; omega)) (by first | omega | (simp; omega)) (fun v239 w240 hst => ?_))
          replace hst : St w0 w240 [rowT 5 u8E v239 (((([(byt (f.Kind % 256))]) ++ (put f.View)) ++ (put f.Seq)) ++ (put (f.Body.length : Int))), .blk g1 25 #[(.int .i64 f.Kind), (.int .i64 f.View), (.int .i64 f.Site), (.int .i64 f.Seq), v_f_Body]] := hst
          have hI241 : stabIXs 11 [5] D225 0 [(kEq v111), (kEq (.pointer (some ⟨g1, (0 + 3), none⟩))), (kEq (.int .i64 f.Seq)), (kEq (.int .u64 f.Seq)), (kSlU [5, 11] u8E (put f.Seq)), (fun (D : Nat → Bool) (v116 : Value) (w : World) => (D 5 = true → D 11 = false → St w0 w [rowT 5 u8E v116 ((([(byt (f.Kind % 256))]) ++ (put f.View)) ++ (put f.Seq)), .blk g1 25 #[(.int .i64 f.Kind), (.int .i64 f.View), (.int .i64 f.Site), (.int .i64 f.Seq), v_f_Body]])), (kEq (.pointer (some ⟨g1, (0 + 4), none⟩))), (kEq v_f_Body), (kEq (.int .i64 (f.Body.length : Int))), (kEq (.int .u64 (f.Body.length : Int))), (kSlU [11] u8E (put (f.Body.length : Int))), (fun (D : Nat → Bool) (v120 : Value) (w : World) => (D 11 = true → St w0 w [rowT 5 u8E v120 (((([(byt (f.Kind % 256))]) ++ (put f.View)) ++ (put f.Seq)) ++ (put (f.Body.length : Int))), .blk g1 25 #[(.int .i64 f.Kind), (.int .i64 f.View), (.int .i64 f.Site), (.int .i64 f.Seq), v_f_Body]])), (fun (D : Nat → Bool) (v120 : Value) (w : World) => (D 11 = true → St w0 w [rowT 5 u8E v120 (((([(byt (f.Kind % 256))]) ++ (put f.View)) ++ (put f.Seq)) ++ (put (f.Body.length : Int))), .blk g1 25 #[(.int .i64 f.Kind), (.int .i64 f.View), (.int .i64 f.Site), (.int .i64 f.Seq), v_f_Body]]))] := ⟨Or.inr (Or.inr (Or.inr iEq)), Or.inr (Or.inr (Or.inr iEq)), Or.inr (Or.inr (Or.inr iEq)), Or.inr (Or.inr (Or.inr iEq)), Or.inr (Or.inr (Or.inr (iSlU (by decide)))), Or.inr (Or.inl (by decide)), Or.inr (Or.inr (Or.inr iEq)), Or.inr (Or.inr (Or.inr iEq)), Or.inr (Or.inr (Or.inr iEq)), Or.inr (Or.inr (Or.inr iEq)), Or.inr (Or.inr (Or.inr (iSlU (by decide)))), Or.inl rfl, Or.inr (Or.inr (Or.inl (not_yet hD228 (fun hm => (hC230 12 11 hm (by kernel_rfl)))))), trivial⟩
          refine ⟨by exact ⟨hst.sub (.cons _ (.cons_cons _ .slnil)), (fun y0 => absurd (show D225 5 = false from y0) (by rw [(hE229 5 (by kernel_rfl))]; decide))⟩, by exact (fun y0 => hst.sub (.cons_cons _ (.cons_cons _ .slnil))), kX [5] hI241 ?_⟩
          intro j d hj hjd hDj h
          simp only [List.mem_cons, List.not_mem_nil, or_false] at hj
          subst hj
          obtain rfl : 33 = d := Option.some.inj hjd
          exact (by rw [e234]; exact (fun y0 y1 => absurd y1 (fun h => Bool.noConfusion h)))
        · rintro D242 ρ243 w244 hD245 hE246 hC247 hJ248 hA249 ⟨f39, _⟩
          obtain ⟨v250, e251⟩ : ∃ x, ρ243 39 = x := ⟨_, rfl⟩
          have hh252 := hA249 11 39 (hE246 11 (by kernel_rfl)) rfl
          have hst : St w0 w244 [rowT 5 u8E v250 (((([(byt (f.Kind % 256))]) ++ (put f.View)) ++ (put f.Seq)) ++ (put (f.Body.length : Int))), .blk g1 25 #[(.int .i64 f.Kind), (.int .i64 f.View), (.int .i64 f.Site), (.int .i64 f.Seq), v_f_Body]] := by have h := hh252 (hE246 11 (by kernel_rfl)); rw [e251] at h; exact h
          exact go_plain (op_assign _ rfl (kN0 (i := 12) hM122 (by decide) (by exact hJ248) (by exact f39)))
        · intro ρ253 w254 Dw254 hallw254 hJw254 hRw254 hkw254
          obtain ⟨v255, uw254_4⟩ : ∃ x, ρ253 4 = x := ⟨_, rfl⟩
          have hst : St w0 w254 [rowT 5 u8E v255 (((([(byt (f.Kind % 256))]) ++ (put f.View)) ++ (put f.Seq)) ++ (put (f.Body.length : Int))), .blk g1 25 #[(.int .i64 f.Kind), (.int .i64 f.View), (.int .i64 f.Site), (.int .i64 f.Seq), v_f_Body]] := by have h := hRw254 12 4 rfl; rw [uw254_4] at h; exact (h (hallw254 11 (show 11 < 13 from by decide)))
          have uw254_0 : ρ253 0 = (.agg #[(.int .i64 f.Kind), (.int .i64 f.View), (.int .i64 f.Site), (.int .i64 f.Seq), v_f_Body]) := (hkw254 0 rfl).trans uw110_0
          have uw254_1 : ρ253 1 = (.pointer (some ⟨g1, 0, none⟩)) := (hkw254 1 rfl).trans uw110_1
          have uw254_2 : ρ253 2 = (.slice none 0 0) := (hkw254 2 rfl).trans uw110_2
          have uw254_3 : ρ253 3 = (.int .i64 0) := (hkw254 3 rfl).trans uw110_3
          have uw254_6 : ρ253 6 = (.agg #[(.int .i64 f.Kind), (.int .i64 f.View), (.int .i64 f.Site), (.int .i64 f.Seq), v_f_Body]) := (hkw254 6 rfl).trans uw110_6
          have uw254_7 : ρ253 7 = (.bool (mayF f)) := (hkw254 7 rfl).trans uw110_7
          have uw254_8 : ρ253 8 = (.bool (!(mayF f))) := (hkw254 8 rfl).trans uw110_8
          have uw254_18 : ρ253 18 = (.pointer (some ⟨g1, (0 + 0), none⟩)) := (hkw254 18 rfl).trans rfl
          have uw254_19 : ρ253 19 = (.int .i64 f.Kind) := (hkw254 19 rfl).trans rfl
          have uw254_27 : ρ253 27 = (.bool (decide (f.Kind = 1))) := (hkw254 27 rfl).trans rfl
          have uw254_26 : ρ253 26 = (.bool (decide (f.Kind = 1))) := (hkw254 26 rfl).trans rfl
          refine then_n ?_
          refine cE_region rfl ?_
          refine s_cons (op_move v255 uw254_4 ?_)
          refine s_cons (op_fieldAddr (s := 0) Try.underlying25 rfl rfl Try.sizeOf23 uw254_1 ?_)
          refine s_cons (op_load1 (u := v_f_Body) Try.isAgg23 rfl ((hst.cell 1 rfl).drop 4) ?_)
          refine s_cons (op_append (E := u8E) (xs := (((([(byt (f.Kind % 256))]) ++ (put f.View)) ++ (put f.Seq)) ++ (put (f.Body.length : Int)))) (ys := f.Body) (z := (.int .u8 0)) (bytes := 1) hst 0 rfl Try.underlying23 (by kernel_rfl) rfl rfl rfl (h_f_Body.below hst.below) (by first | omega | (simp; omega)) (by first | omega | (simp; omega)) (fun v256 w257 hst => ?_))
          replace hst : St w0 w257 [rowT 5 u8E v256 ((((([(byt (f.Kind % 256))]) ++ (put f.View)) ++ (put f.Seq)) ++ (put (f.Body.length : Int))) ++ f.Body), .blk g1 25 #[(.int .i64 f.Kind), (.int .i64 f.View), (.int .i64 f.Site), (.int .i64 f.Seq), v_f_Body]] := hst
          refine s_cons (op_assign v256 rfl ?_)
          refine s_nil ?_
          refine block_n (then_n ?_)
          refine cE_seq ?_
          refine cE_region rfl ?_
          refine s_cons (op_move v256 rfl ?_)
          refine s_cons (op_call Try.call18 (evs_cons (v := v256) rfl evs_nil) (c_Of (w0 := w257) (v_b := v256) (b := ((((([(byt (f.Kind % 256))]) ++ (put f.View)) ++ (put f.Seq)) ++ (put (f.Body.length : Int))) ++ f.Body)) (h_b := (hst.sl 0 rfl))) ?_)
          rintro _ w258 ⟨rfl, hcall⟩
          refine ⟨_, rfl, ?_⟩
          have hst : St w0 w258 [rowT 5 u8E v256 ((((([(byt (f.Kind % 256))]) ++ (put f.View)) ++ (put f.Seq)) ++ (put (f.Body.length : Int))) ++ f.Body), .blk g1 25 #[(.int .i64 f.Kind), (.int .i64 f.View), (.int .i64 f.Site), (.int .i64 f.Seq), v_f_Body]] := hst.call hcall
          refine s_cons (op_assign (.int .u32 (more 1 ((((([(byt (f.Kind % 256))]) ++ (put f.View)) ++ (put f.Seq)) ++ (put (f.Body.length : Int))) ++ f.Body))) rfl ?_)
          refine s_nil ?_
          refine then_n ?_
          refine cE_seq ?_
          refine cE_region rfl ?_
          refine s_cons (op_move (.int .u32 (more 1 ((((([(byt (f.Kind % 256))]) ++ (put f.View)) ++ (put f.Seq)) ++ (put (f.Body.length : Int))) ++ f.Body))) rfl ?_)
          refine s_cons (op_conv (k := .u32) (a := (more 1 ((((([(byt (f.Kind % 256))]) ++ (put f.View)) ++ (put f.Seq)) ++ (put (f.Body.length : Int))) ++ f.Body))) ((more 1 ((((([(byt (f.Kind % 256))]) ++ (put f.View)) ++ (put f.Seq)) ++ (put (f.Body.length : Int))) ++ f.Body)) % 256) Try.underlying5 (by rw [Try.underlying42]; rfl) rfl (IntKind.wrap_u8 _) ?_)
          refine s_cons (op_move (.int .u32 (more 1 ((((([(byt (f.Kind % 256))]) ++ (put f.View)) ++ (put f.Seq)) ++ (put (f.Body.length : Int))) ++ f.Body))) rfl ?_)
          refine s_cons (op_shr (k := .u32) (k' := .u64) (a := (more 1 ((((([(byt (f.Kind % 256))]) ++ (put f.View)) ++ (put f.Seq)) ++ (put (f.Body.length : Int))) ++ f.Body))) (b := 8) ((more 1 ((((([(byt (f.Kind % 256))]) ++ (put f.View)) ++ (put f.Seq)) ++ (put (f.Body.length : Int))) ++ f.Body)) / 256) rfl rfl (by omega) (by simp [IntKind.bits]; try omega) rfl ?_)
          refine s_cons (op_conv (k := .u32) (a := ((more 1 ((((([(byt (f.Kind % 256))]) ++ (put f.View)) ++ (put f.Seq)) ++ (put (f.Body.length : Int))) ++ f.Body)) / 256)) (((more 1 ((((([(byt (f.Kind % 256))]) ++ (put f.View)) ++ (put f.Seq)) ++ (put (f.Body.length : Int))) ++ f.Body)) / 256) % 256) Try.underlying5 (by rw [Try.underlying42]; rfl) rfl (IntKind.wrap_u8 _) ?_)
          refine s_cons (op_move (.int .u32 (more 1 ((((([(byt (f.Kind % 256))]) ++ (put f.View)) ++ (put f.Seq)) ++ (put (f.Body.length : Int))) ++ f.Body))) rfl ?_)
          refine s_cons (op_shr (k := .u32) (k' := .u64) (a := (more 1 ((((([(byt (f.Kind % 256))]) ++ (put f.View)) ++ (put f.Seq)) ++ (put (f.Body.length : Int))) ++ f.Body))) (b := 16) ((more 1 ((((([(byt (f.Kind % 256))]) ++ (put f.View)) ++ (put f.Seq)) ++ (put (f.Body.length : Int))) ++ f.Body)) / 65536) rfl rfl (by omega) (by simp [IntKind.bits]; try omega) rfl ?_)
          refine s_cons (op_conv (k := .u32) (a := ((more 1 ((((([(byt (f.Kind % 256))]) ++ (put f.View)) ++ (put f.Seq)) ++ (put (f.Body.length : Int))) ++ f.Body)) / 65536)) (((more 1 ((((([(byt (f.Kind % 256))]) ++ (put f.View)) ++ (put f.Seq)) ++ (put (f.Body.length : Int))) ++ f.Body)) / 65536) % 256) Try.underlying5 (by rw [Try.underlying42]; rfl) rfl (IntKind.wrap_u8 _) ?_)
          refine s_cons (op_move (.int .u32 (more 1 ((((([(byt (f.Kind % 256))]) ++ (put f.View)) ++ (put f.Seq)) ++ (put (f.Body.length : Int))) ++ f.Body))) rfl ?_)
          refine s_cons (op_shr (k := .u32) (k' := .u64) (a := (more 1 ((((([(byt (f.Kind % 256))]) ++ (put f.View)) ++ (put f.Seq)) ++ (put (f.Body.length : Int))) ++ f.Body))) (b := 24) ((more 1 ((((([(byt (f.Kind % 256))]) ++ (put f.View)) ++ (put f.Seq)) ++ (put (f.Body.length : Int))) ++ f.Body)) / 16777216) rfl rfl (by omega) (by simp [IntKind.bits]; try omega) rfl ?_)
          refine s_cons (op_conv (k := .u32) (a := ((more 1 ((((([(byt (f.Kind % 256))]) ++ (put f.View)) ++ (put f.Seq)) ++ (put (f.Body.length : Int))) ++ f.Body)) / 16777216)) (((more 1 ((((([(byt (f.Kind % 256))]) ++ (put f.View)) ++ (put f.Seq)) ++ (put (f.Body.length : Int))) ++ f.Body)) / 16777216) % 256) Try.underlying5 (by rw [Try.underlying42]; rfl) rfl (IntKind.wrap_u8 _) ?_)
          refine s_cons (op_buildSlice (E := u8E) [(byt ((more 1 ((((([(byt (f.Kind % 256))]) ++ (put f.View)) ++ (put f.Seq)) ++ (put (f.Body.length : Int))) ++ f.Body)) % 256)), (byt (((more 1 ((((([(byt (f.Kind % 256))]) ++ (put f.View)) ++ (put f.Seq)) ++ (put (f.Body.length : Int))) ++ f.Body)) / 256) % 256)), (byt (((more 1 ((((([(byt (f.Kind % 256))]) ++ (put f.View)) ++ (put f.Seq)) ++ (put (f.Body.length : Int))) ++ f.Body)) / 65536) % 256)), (byt (((more 1 ((((([(byt (f.Kind % 256))]) ++ (put f.View)) ++ (put f.Seq)) ++ (put (f.Body.length : Int))) ++ f.Body)) / 16777216) % 256))] hst Try.underlying23 Try.sizeOf5 Try.zeroValue5 (evp_cons (v := (.int .u8 ((more 1 ((((([(byt (f.Kind % 256))]) ++ (put f.View)) ++ (put f.Seq)) ++ (put (f.Body.length : Int))) ++ f.Body)) % 256))) rfl (evp_cons (v := (.int .u8 (((more 1 ((((([(byt (f.Kind % 256))]) ++ (put f.View)) ++ (put f.Seq)) ++ (put (f.Body.length : Int))) ++ f.Body)) / 256) % 256))) rfl (evp_cons (v := (.int .u8 (((more 1 ((((([(byt (f.Kind % 256))]) ++ (put f.View)) ++ (put f.Seq)) ++ (put (f.Body.length : Int))) ++ f.Body)) / 65536) % 256))) rfl (evp_cons (v := (.int .u8 (((more 1 ((((([(byt (f.Kind % 256))]) ++ (put f.View)) ++ (put f.Seq)) ++ (put (f.Body.length : Int))) ++ f.Body)) / 16777216) % 256))) rfl evp_nil)))) (parts_cons (by rw [u8cell]; exact byt_cell (by omega) (by omega)) (parts_cons (by rw [u8cell]; exact byt_cell (by omega) (by omega)) (parts_cons (by rw [u8cell]; exact byt_cell (by omega) (by omega)) (parts_cons (by rw [u8cell]; exact byt_cell (by omega) (by omega)) parts_nil)))) rfl (by decide) (fun v259 w260 hst => ?_))
          replace hst : St w0 w260 [rowT 5 u8E v259 ([(byt ((more 1 ((((([(byt (f.Kind % 256))]) ++ (put f.View)) ++ (put f.Seq)) ++ (put (f.Body.length : Int))) ++ f.Body)) % 256)), (byt (((more 1 ((((([(byt (f.Kind % 256))]) ++ (put f.View)) ++ (put f.Seq)) ++ (put (f.Body.length : Int))) ++ f.Body)) / 256) % 256)), (byt (((more 1 ((((([(byt (f.Kind % 256))]) ++ (put f.View)) ++ (put f.Seq)) ++ (put (f.Body.length : Int))) ++ f.Body)) / 65536) % 256)), (byt (((more 1 ((((([(byt (f.Kind % 256))]) ++ (put f.View)) ++ (put f.Seq)) ++ (put (f.Body.length : Int))) ++ f.Body)) / 16777216) % 256))]), rowT 5 u8E v256 ((((([(byt (f.Kind % 256))]) ++ (put f.View)) ++ (put f.Seq)) ++ (put (f.Body.length : Int))) ++ f.Body), .blk g1 25 #[(.int .i64 f.Kind), (.int .i64 f.View), (.int .i64 f.Site), (.int .i64 f.Seq), v_f_Body]] := hst
          refine s_cons (op_move v256 rfl ?_)
          refine s_cons (op_append (E := u8E) (xs := [(byt ((more 1 ((((([(byt (f.Kind % 256))]) ++ (put f.View)) ++ (put f.Seq)) ++ (put (f.Body.length : Int))) ++ f.Body)) % 256)), (byt (((more 1 ((((([(byt (f.Kind % 256))]) ++ (put f.View)) ++ (put f.Seq)) ++ (put (f.Body.length : Int))) ++ f.Body)) / 256) % 256)), (byt (((more 1 ((((([(byt (f.Kind % 256))]) ++ (put f.View)) ++ (put f.Seq)) ++ (put (f.Body.length : Int))) ++ f.Body)) / 65536) % 256)), (byt (((more 1 ((((([(byt (f.Kind % 256))]) ++ (put f.View)) ++ (put f.Seq)) ++ (put (f.Body.length : Int))) ++ f.Body)) / 16777216) % 256))]) (ys := ((((([(byt (f.Kind % 256))]) ++ (put f.View)) ++ (put f.Seq)) ++ (put (f.Body.length : Int))) ++ f.Body)) (z := (.int .u8 0)) (bytes := 1) hst 0 rfl Try.underlying23 (by kernel_rfl) rfl rfl rfl (hst.sl 1 rfl) (by first | omega | (simp; omega)) (by first | omega | (simp; omega)) (fun v261 w262 hst => ?_))
          replace hst : St w0 w262 [rowT 5 u8E v261 (([(byt ((more 1 ((((([(byt (f.Kind % 256))]) ++ (put f.View)) ++ (put f.Seq)) ++ (put (f.Body.length : Int))) ++ f.Body)) % 256)), (byt (((more 1 ((((([(byt (f.Kind % 256))]) ++ (put f.View)) ++ (put f.Seq)) ++ (put (f.Body.length : Int))) ++ f.Body)) / 256) % 256)), (byt (((more 1 ((((([(byt (f.Kind % 256))]) ++ (put f.View)) ++ (put f.Seq)) ++ (put (f.Body.length : Int))) ++ f.Body)) / 65536) % 256)), (byt (((more 1 ((((([(byt (f.Kind % 256))]) ++ (put f.View)) ++ (put f.Seq)) ++ (put (f.Body.length : Int))) ++ f.Body)) / 16777216) % 256))]) ++ ((((([(byt (f.Kind % 256))]) ++ (put f.View)) ++ (put f.Seq)) ++ (put (f.Body.length : Int))) ++ f.Body)), rowT 5 u8E v256 ((((([(byt (f.Kind % 256))]) ++ (put f.View)) ++ (put f.Seq)) ++ (put (f.Body.length : Int))) ++ f.Body), .blk g1 25 #[(.int .i64 f.Kind), (.int .i64 f.View), (.int .i64 f.Site), (.int .i64 f.Seq), v_f_Body]] := hst
          refine s_cons (op_assign v261 rfl ?_)
          refine s_cons (op_assign (.int .i64 0) rfl ?_)
          refine s_nil ?_
          refine then_n ?_
          refine cE_ret ?_
          refine post_r _ (res2 (v := v261) rfl (x := (.int .i64 0)) rfl) ?_
          have e263 : (([(byt ((more 1 ((((([(byt (f.Kind % 256))]) ++ (put f.View)) ++ (put f.Seq)) ++ (put (f.Body.length : Int))) ++ f.Body)) % 256)), (byt (((more 1 ((((([(byt (f.Kind % 256))]) ++ (put f.View)) ++ (put f.Seq)) ++ (put (f.Body.length : Int))) ++ f.Body)) / 256) % 256)), (byt (((more 1 ((((([(byt (f.Kind % 256))]) ++ (put f.View)) ++ (put f.Seq)) ++ (put (f.Body.length : Int))) ++ f.Body)) / 65536) % 256)), (byt (((more 1 ((((([(byt (f.Kind % 256))]) ++ (put f.View)) ++ (put f.Seq)) ++ (put (f.Body.length : Int))) ++ f.Body)) / 16777216) % 256))]) ++ ((((([(byt (f.Kind % 256))]) ++ (put f.View)) ++ (put f.Seq)) ++ (put (f.Body.length : Int))) ++ f.Body)) = (encF f).1 := by first | (have hk1 : f.Kind = 1 := (by assumption); exact enc1 hmf hk1) | (have hk2 : f.Kind = 2 := (by assumption); exact enc2 hmf hk2) | (have hk1 : ¬ f.Kind = 1 := (by assumption); have hk2 : ¬ f.Kind = 2 := (by assumption); exact enc3 hmf hk1 hk2) | rw [encF_no (by assumption)] | rw [encF_yes (by assumption)]
          replace hst : St w0 w262 [rowT 5 u8E v261 ((encF f).1), rowT 5 u8E v256 ((((([(byt (f.Kind % 256))]) ++ (put f.View)) ++ (put f.Seq)) ++ (put (f.Body.length : Int))) ++ f.Body), .blk g1 25 #[(.int .i64 f.Kind), (.int .i64 f.View), (.int .i64 f.Site), (.int .i64 f.Seq), v_f_Body]] := by rw [congrArg (fun l => rowT 5 u8E v261 l) e263] at hst; exact hst
          exact ⟨v261, (retv2 rfl (congrArg (Value.int .i64) (show 0 = (encF f).2 from by first | (have hk1 : f.Kind = 1 := (by assumption); exact enc1 hmf hk1) | (have hk2 : f.Kind = 2 := (by assumption); exact enc2 hmf hk2) | (have hk1 : ¬ f.Kind = 1 := (by assumption); have hk2 : ¬ f.Kind = 2 := (by assumption); exact enc3 hmf hk1 hk2) | rw [encF_no (by assumption)] | rw [encF_yes (by assumption)]))), hst.sub (.cons_cons _ (.cons _ (.cons _ .slnil)))⟩
      · have c264 : ¬ (f.Kind = 1) := of_decide_eq_false b112
        refine cE_cond false (congrArg Value.bool b112) (fun h => by cases h) (fun _ => ?_)
        refine cE_seq ?_
        refine cE_region rfl ?_
        refine s_cons (op_eql (k := .i64) (a := f.Kind) (b := 2) rfl rfl ?_)
        refine s_cons (op_assign (.bool (decide (f.Kind = 2))) rfl ?_)
        refine s_nil ?_
        refine then_n ?_
        rcases Bool.eq_false_or_eq_true (decide (f.Kind = 2)) with b265 | b265
        · have c266 : f.Kind = 2 := of_decide_eq_true b265
          refine cE_cond true (congrArg Value.bool b265) (fun _ => ?_) (fun h => by cases h)
          refine cE_region rfl ?_
          refine s_cons (op_move v111 uw110_4 ?_)
          refine s_cons (op_fieldAddr (s := 0) Try.underlying25 rfl rfl Try.sizeOf2 uw110_1 ?_)
          refine s_cons (op_load1 (u := (.int .i64 f.Seq)) Try.isAgg2 rfl ((hst.cell 1 rfl).drop 3) ?_)
          refine s_cons (op_conv (k := .i64) (a := f.Seq) f.Seq Try.underlying41 (by rw [Try.underlying2]; rfl) rfl (xu64 (by omega) (by omega)) ?_)
          refine s_cons (op_call Try.call17 (evs_cons (v := (.int .u64 f.Seq)) rfl evs_nil) (c_Put (w0 := w110) (n := f.Seq) (h0 := (by omega)) (h1 := (by omega))) ?_)
          rintro _ w268 ⟨r267, rfl, hcall⟩
          refine ⟨_, rfl, ?_⟩
          have hst : St w0 w268 [rowT 5 u8E r267 (put f.Seq), rowT 5 u8E v111 (([(byt (f.Kind % 256))]) ++ (put f.View)), .blk g1 25 #[(.int .i64 f.Kind), (.int .i64 f.View), (.int .i64 f.Site), (.int .i64 f.Seq), v_f_Body]] := hst.call hcall
          refine s_cons (op_append (E := u8E) (xs := (([(byt (f.Kind % 256))]) ++ (put f.View))) (ys := (put f.Seq)) (z := (.int .u8 0)) (bytes := 1) hst 1 rfl Try.underlying23 (by kernel_rfl) rfl rfl rfl (hst.sl 0 rfl) (by first | omega | (simp; omega)) (by first | omega | (simp; omega)) (fun v269 w270 hst => ?_))
          replace hst : St w0 w270 [rowT 5 u8E r267 (put f.Seq), rowT 5 u8E v269 ((([(byt (f.Kind % 256))]) ++ (put f.View)) ++ (put f.Seq)), .blk g1 25 #[(.int .i64 f.Kind), (.int .i64 f.View), (.int .i64 f.Site), (.int .i64 f.Seq), v_f_Body]] := hst
          refine s_cons (op_assign v269 rfl ?_)
          refine s_nil ?_
          refine block_n (then_n ?_)
          refine cE_seq ?_
          refine cE_region rfl ?_
          refine s_cons (op_move v269 rfl ?_)
          refine s_cons (op_call Try.call18 (evs_cons (v := v269) rfl evs_nil) (c_Of (w0 := w270) (v_b := v269) (b := ((([(byt (f.Kind % 256))]) ++ (put f.View)) ++ (put f.Seq))) (h_b := (hst.sl 1 rfl))) ?_)
          rintro _ w271 ⟨rfl, hcall⟩
          refine ⟨_, rfl, ?_⟩
          have hst : St w0 w271 [rowT 5 u8E r267 (put f.Seq), rowT 5 u8E v269 ((([(byt (f.Kind % 256))]) ++ (put f.View)) ++ (put f.Seq)), .blk g1 25 #[(.int .i64 f.Kind), (.int .i64 f.View), (.int .i64 f.Site), (.int .i64 f.Seq), v_f_Body]] := hst.call hcall
          refine s_cons (op_assign (.int .u32 (more 1 ((([(byt (f.Kind % 256))]) ++ (put f.View)) ++ (put f.Seq)))) rfl ?_)
          refine s_nil ?_
          refine then_n ?_
          refine cE_seq ?_
          refine cE_region rfl ?_
          refine s_cons (op_move (.int .u32 (more 1 ((([(byt (f.Kind % 256))]) ++ (put f.View)) ++ (put f.Seq)))) rfl ?_)
          refine s_cons (op_conv (k := .u32) (a := (more 1 ((([(byt (f.Kind % 256))]) ++ (put f.View)) ++ (put f.Seq)))) ((more 1 ((([(byt (f.Kind % 256))]) ++ (put f.View)) ++ (put f.Seq))) % 256) Try.underlying5 (by rw [Try.underlying42]; rfl) rfl (IntKind.wrap_u8 _) ?_)
          refine s_cons (op_move (.int .u32 (more 1 ((([(byt (f.Kind % 256))]) ++ (put f.View)) ++ (put f.Seq)))) rfl ?_)
          refine s_cons (op_shr (k := .u32) (k' := .u64) (a := (more 1 ((([(byt (f.Kind % 256))]) ++ (put f.View)) ++ (put f.Seq)))) (b := 8) ((more 1 ((([(byt (f.Kind % 256))]) ++ (put f.View)) ++ (put f.Seq))) / 256) rfl rfl (by omega) (by simp [IntKind.bits]; try omega) rfl ?_)
          refine s_cons (op_conv (k := .u32) (a := ((more 1 ((([(byt (f.Kind % 256))]) ++ (put f.View)) ++ (put f.Seq))) / 256)) (((more 1 ((([(byt (f.Kind % 256))]) ++ (put f.View)) ++ (put f.Seq))) / 256) % 256) Try.underlying5 (by rw [Try.underlying42]; rfl) rfl (IntKind.wrap_u8 _) ?_)
          refine s_cons (op_move (.int .u32 (more 1 ((([(byt (f.Kind % 256))]) ++ (put f.View)) ++ (put f.Seq)))) rfl ?_)
          refine s_cons (op_shr (k := .u32) (k' := .u64) (a := (more 1 ((([(byt (f.Kind % 256))]) ++ (put f.View)) ++ (put f.Seq)))) (b := 16) ((more 1 ((([(byt (f.Kind % 256))]) ++ (put f.View)) ++ (put f.Seq))) / 65536) rfl rfl (by omega) (by simp [IntKind.bits]; try omega) rfl ?_)
          refine s_cons (op_conv (k := .u32) (a := ((more 1 ((([(byt (f.Kind % 256))]) ++ (put f.View)) ++ (put f.Seq))) / 65536)) (((more 1 ((([(byt (f.Kind % 256))]) ++ (put f.View)) ++ (put f.Seq))) / 65536) % 256) Try.underlying5 (by rw [Try.underlying42]; rfl) rfl (IntKind.wrap_u8 _) ?_)
          refine s_cons (op_move (.int .u32 (more 1 ((([(byt (f.Kind % 256))]) ++ (put f.View)) ++ (put f.Seq)))) rfl ?_)
          refine s_cons (op_shr (k := .u32) (k' := .u64) (a := (more 1 ((([(byt (f.Kind % 256))]) ++ (put f.View)) ++ (put f.Seq)))) (b := 24) ((more 1 ((([(byt (f.Kind % 256))]) ++ (put f.View)) ++ (put f.Seq))) / 16777216) rfl rfl (by omega) (by simp [IntKind.bits]; try omega) rfl ?_)
          refine s_cons (op_conv (k := .u32) (a := ((more 1 ((([(byt (f.Kind % 256))]) ++ (put f.View)) ++ (put f.Seq))) / 16777216)) (((more 1 ((([(byt (f.Kind % 256))]) ++ (put f.View)) ++ (put f.Seq))) / 16777216) % 256) Try.underlying5 (by rw [Try.underlying42]; rfl) rfl (IntKind.wrap_u8 _) ?_)
          refine s_cons (op_buildSlice (E := u8E) [(byt ((more 1 ((([(byt (f.Kind % 256))]) ++ (put f.View)) ++ (put f.Seq))) % 256)), (byt (((more 1 ((([(byt (f.Kind % 256))]) ++ (put f.View)) ++ (put f.Seq))) / 256) % 256)), (byt (((more 1 ((([(byt (f.Kind % 256))]) ++ (put f.View)) ++ (put f.Seq))) / 65536) % 256)), (byt (((more 1 ((([(byt (f.Kind % 256))]) ++ (put f.View)) ++ (put f.Seq))) / 16777216) % 256))] hst Try.underlying23 Try.sizeOf5 Try.zeroValue5 (evp_cons (v := (.int .u8 ((more 1 ((([(byt (f.Kind % 256))]) ++ (put f.View)) ++ (put f.Seq))) % 256))) rfl (evp_cons (v := (.int .u8 (((more 1 ((([(byt (f.Kind % 256))]) ++ (put f.View)) ++ (put f.Seq))) / 256) % 256))) rfl (evp_cons (v := (.int .u8 (((more 1 ((([(byt (f.Kind % 256))]) ++ (put f.View)) ++ (put f.Seq))) / 65536) % 256))) rfl (evp_cons (v := (.int .u8 (((more 1 ((([(byt (f.Kind % 256))]) ++ (put f.View)) ++ (put f.Seq))) / 16777216) % 256))) rfl evp_nil)))) (parts_cons (by rw [u8cell]; exact byt_cell (by omega) (by omega)) (parts_cons (by rw [u8cell]; exact byt_cell (by omega) (by omega)) (parts_cons (by rw [u8cell]; exact byt_cell (by omega) (by omega)) (parts_cons (by rw [u8cell]; exact byt_cell (by omega) (by omega)) parts_nil)))) rfl (by decide) (fun v272 w273 hst => ?_))
          replace hst : St w0 w273 [rowT 5 u8E v272 ([(byt ((more 1 ((([(byt (f.Kind % 256))]) ++ (put f.View)) ++ (put f.Seq))) % 256)), (byt (((more 1 ((([(byt (f.Kind % 256))]) ++ (put f.View)) ++ (put f.Seq))) / 256) % 256)), (byt (((more 1 ((([(byt (f.Kind % 256))]) ++ (put f.View)) ++ (put f.Seq))) / 65536) % 256)), (byt (((more 1 ((([(byt (f.Kind % 256))]) ++ (put f.View)) ++ (put f.Seq))) / 16777216) % 256))]), rowT 5 u8E r267 (put f.Seq), rowT 5 u8E v269 ((([(byt (f.Kind % 256))]) ++ (put f.View)) ++ (put f.Seq)), .blk g1 25 #[(.int .i64 f.Kind), (.int .i64 f.View), (.int .i64 f.Site), (.int .i64 f.Seq), v_f_Body]] := hst
          refine s_cons (op_move v269 rfl ?_)
          refine s_cons (op_append (E := u8E) (xs := [(byt ((more 1 ((([(byt (f.Kind % 256))]) ++ (put f.View)) ++ (put f.Seq))) % 256)), (byt (((more 1 ((([(byt (f.Kind % 256))]) ++ (put f.View)) ++ (put f.Seq))) / 256) % 256)), (byt (((more 1 ((([(byt (f.Kind % 256))]) ++ (put f.View)) ++ (put f.Seq))) / 65536) % 256)), (byt (((more 1 ((([(byt (f.Kind % 256))]) ++ (put f.View)) ++ (put f.Seq))) / 16777216) % 256))]) (ys := ((([(byt (f.Kind % 256))]) ++ (put f.View)) ++ (put f.Seq))) (z := (.int .u8 0)) (bytes := 1) hst 0 rfl Try.underlying23 (by kernel_rfl) rfl rfl rfl (hst.sl 2 rfl) (by first | omega | (simp; omega)) (by first | omega | (simp; omega)) (fun v274 w275 hst => ?_))
          replace hst : St w0 w275 [rowT 5 u8E v274 (([(byt ((more 1 ((([(byt (f.Kind % 256))]) ++ (put f.View)) ++ (put f.Seq))) % 256)), (byt (((more 1 ((([(byt (f.Kind % 256))]) ++ (put f.View)) ++ (put f.Seq))) / 256) % 256)), (byt (((more 1 ((([(byt (f.Kind % 256))]) ++ (put f.View)) ++ (put f.Seq))) / 65536) % 256)), (byt (((more 1 ((([(byt (f.Kind % 256))]) ++ (put f.View)) ++ (put f.Seq))) / 16777216) % 256))]) ++ ((([(byt (f.Kind % 256))]) ++ (put f.View)) ++ (put f.Seq))), rowT 5 u8E r267 (put f.Seq), rowT 5 u8E v269 ((([(byt (f.Kind % 256))]) ++ (put f.View)) ++ (put f.Seq)), .blk g1 25 #[(.int .i64 f.Kind), (.int .i64 f.View), (.int .i64 f.Site), (.int .i64 f.Seq), v_f_Body]] := hst
          refine s_cons (op_assign v274 rfl ?_)
          refine s_cons (op_assign (.int .i64 0) rfl ?_)
          refine s_nil ?_
          refine then_n ?_
          refine cE_ret ?_
          refine post_r _ (res2 (v := v274) rfl (x := (.int .i64 0)) rfl) ?_
          have e276 : (([(byt ((more 1 ((([(byt (f.Kind % 256))]) ++ (put f.View)) ++ (put f.Seq))) % 256)), (byt (((more 1 ((([(byt (f.Kind % 256))]) ++ (put f.View)) ++ (put f.Seq))) / 256) % 256)), (byt (((more 1 ((([(byt (f.Kind % 256))]) ++ (put f.View)) ++ (put f.Seq))) / 65536) % 256)), (byt (((more 1 ((([(byt (f.Kind % 256))]) ++ (put f.View)) ++ (put f.Seq))) / 16777216) % 256))]) ++ ((([(byt (f.Kind % 256))]) ++ (put f.View)) ++ (put f.Seq))) = (encF f).1 := by first | (have hk1 : f.Kind = 1 := (by assumption); exact enc1 hmf hk1) | (have hk2 : f.Kind = 2 := (by assumption); exact enc2 hmf hk2) | (have hk1 : ¬ f.Kind = 1 := (by assumption); have hk2 : ¬ f.Kind = 2 := (by assumption); exact enc3 hmf hk1 hk2) | rw [encF_no (by assumption)] | rw [encF_yes (by assumption)]
          replace hst : St w0 w275 [rowT 5 u8E v274 ((encF f).1), rowT 5 u8E r267 (put f.Seq), rowT 5 u8E v269 ((([(byt (f.Kind % 256))]) ++ (put f.View)) ++ (put f.Seq)), .blk g1 25 #[(.int .i64 f.Kind), (.int .i64 f.View), (.int .i64 f.Site), (.int .i64 f.Seq), v_f_Body]] := by rw [congrArg (fun l => rowT 5 u8E v274 l) e276] at hst; exact hst
          exact ⟨v274, (retv2 rfl (congrArg (Value.int .i64) (show 0 = (encF f).2 from by first | (have hk1 : f.Kind = 1 := (by assumption); exact enc1 hmf hk1) | (have hk2 : f.Kind = 2 := (by assumption); exact enc2 hmf hk2) | (have hk1 : ¬ f.Kind = 1 := (by assumption); have hk2 : ¬ f.Kind = 2 := (by assumption); exact enc3 hmf hk1 hk2) | rw [encF_no (by assumption)] | rw [encF_yes (by assumption)]))), hst.sub (.cons_cons _ (.cons _ (.cons _ (.cons _ .slnil))))⟩
        · have c277 : ¬ (f.Kind = 2) := of_decide_eq_false b265
          refine cE_cond false (congrArg Value.bool b265) (fun h => by cases h) (fun _ => ?_)
          refine cE_region rfl ?_
          refine s_cons (op_move v111 uw110_4 ?_)
          refine s_cons (op_fieldAddr (s := 0) Try.underlying25 rfl rfl Try.sizeOf3 uw110_1 ?_)
          refine s_cons (op_load1 (u := (.int .i64 f.Site)) Try.isAgg3 rfl ((hst.cell 1 rfl).drop 2) ?_)
          refine s_cons (op_conv (k := .i64) (a := f.Site) f.Site Try.underlying41 (by rw [Try.underlying3]; rfl) rfl (xu64 (by omega) (by omega)) ?_)
          refine s_cons (op_call Try.call17 (evs_cons (v := (.int .u64 f.Site)) rfl evs_nil) (c_Put (w0 := w110) (n := f.Site) (h0 := (by omega)) (h1 := (by omega))) ?_)
          rintro _ w279 ⟨r278, rfl, hcall⟩
          refine ⟨_, rfl, ?_⟩
          have hst : St w0 w279 [rowT 5 u8E r278 (put f.Site), rowT 5 u8E v111 (([(byt (f.Kind % 256))]) ++ (put f.View)), .blk g1 25 #[(.int .i64 f.Kind), (.int .i64 f.View), (.int .i64 f.Site), (.int .i64 f.Seq), v_f_Body]] := hst.call hcall
          refine s_cons (op_append (E := u8E) (xs := (([(byt (f.Kind % 256))]) ++ (put f.View))) (ys := (put f.Site)) (z := (.int .u8 0)) (bytes := 1) hst 1 rfl Try.underlying23 (by kernel_rfl) rfl rfl rfl (hst.sl 0 rfl) (by first | omega | (simp; omega)) (by first | omega | (simp; omega)) (fun v280 w281 hst => ?_))
          replace hst : St w0 w281 [rowT 5 u8E r278 (put f.Site), rowT 5 u8E v280 ((([(byt (f.Kind % 256))]) ++ (put f.View)) ++ (put f.Site)), .blk g1 25 #[(.int .i64 f.Kind), (.int .i64 f.View), (.int .i64 f.Site), (.int .i64 f.Seq), v_f_Body]] := hst
          refine s_cons (op_assign v280 rfl ?_)
          refine s_nil ?_
          refine block_n (then_n ?_)
          refine cE_seq ?_
          refine cE_region rfl ?_
          refine s_cons (op_move v280 rfl ?_)
          refine s_cons (op_call Try.call18 (evs_cons (v := v280) rfl evs_nil) (c_Of (w0 := w281) (v_b := v280) (b := ((([(byt (f.Kind % 256))]) ++ (put f.View)) ++ (put f.Site))) (h_b := (hst.sl 1 rfl))) ?_)
          rintro _ w282 ⟨rfl, hcall⟩
          refine ⟨_, rfl, ?_⟩
          have hst : St w0 w282 [rowT 5 u8E r278 (put f.Site), rowT 5 u8E v280 ((([(byt (f.Kind % 256))]) ++ (put f.View)) ++ (put f.Site)), .blk g1 25 #[(.int .i64 f.Kind), (.int .i64 f.View), (.int .i64 f.Site), (.int .i64 f.Seq), v_f_Body]] := hst.call hcall
          refine s_cons (op_assign (.int .u32 (more 1 ((([(byt (f.Kind % 256))]) ++ (put f.View)) ++ (put f.Site)))) rfl ?_)
          refine s_nil ?_
          refine then_n ?_
          refine cE_seq ?_
          refine cE_region rfl ?_
          refine s_cons (op_move (.int .u32 (more 1 ((([(byt (f.Kind % 256))]) ++ (put f.View)) ++ (put f.Site)))) rfl ?_)
          refine s_cons (op_conv (k := .u32) (a := (more 1 ((([(byt (f.Kind % 256))]) ++ (put f.View)) ++ (put f.Site)))) ((more 1 ((([(byt (f.Kind % 256))]) ++ (put f.View)) ++ (put f.Site))) % 256) Try.underlying5 (by rw [Try.underlying42]; rfl) rfl (IntKind.wrap_u8 _) ?_)
          refine s_cons (op_move (.int .u32 (more 1 ((([(byt (f.Kind % 256))]) ++ (put f.View)) ++ (put f.Site)))) rfl ?_)
          refine s_cons (op_shr (k := .u32) (k' := .u64) (a := (more 1 ((([(byt (f.Kind % 256))]) ++ (put f.View)) ++ (put f.Site)))) (b := 8) ((more 1 ((([(byt (f.Kind % 256))]) ++ (put f.View)) ++ (put f.Site))) / 256) rfl rfl (by omega) (by simp [IntKind.bits]; try omega) rfl ?_)
          refine s_cons (op_conv (k := .u32) (a := ((more 1 ((([(byt (f.Kind % 256))]) ++ (put f.View)) ++ (put f.Site))) / 256)) (((more 1 ((([(byt (f.Kind % 256))]) ++ (put f.View)) ++ (put f.Site))) / 256) % 256) Try.underlying5 (by rw [Try.underlying42]; rfl) rfl (IntKind.wrap_u8 _) ?_)
          refine s_cons (op_move (.int .u32 (more 1 ((([(byt (f.Kind % 256))]) ++ (put f.View)) ++ (put f.Site)))) rfl ?_)
          refine s_cons (op_shr (k := .u32) (k' := .u64) (a := (more 1 ((([(byt (f.Kind % 256))]) ++ (put f.View)) ++ (put f.Site)))) (b := 16) ((more 1 ((([(byt (f.Kind % 256))]) ++ (put f.View)) ++ (put f.Site))) / 65536) rfl rfl (by omega) (by simp [IntKind.bits]; try omega) rfl ?_)
          refine s_cons (op_conv (k := .u32) (a := ((more 1 ((([(byt (f.Kind % 256))]) ++ (put f.View)) ++ (put f.Site))) / 65536)) (((more 1 ((([(byt (f.Kind % 256))]) ++ (put f.View)) ++ (put f.Site))) / 65536) % 256) Try.underlying5 (by rw [Try.underlying42]; rfl) rfl (IntKind.wrap_u8 _) ?_)
          refine s_cons (op_move (.int .u32 (more 1 ((([(byt (f.Kind % 256))]) ++ (put f.View)) ++ (put f.Site)))) rfl ?_)
          refine s_cons (op_shr (k := .u32) (k' := .u64) (a := (more 1 ((([(byt (f.Kind % 256))]) ++ (put f.View)) ++ (put f.Site)))) (b := 24) ((more 1 ((([(byt (f.Kind % 256))]) ++ (put f.View)) ++ (put f.Site))) / 16777216) rfl rfl (by omega) (by simp [IntKind.bits]; try omega) rfl ?_)
          refine s_cons (op_conv (k := .u32) (a := ((more 1 ((([(byt (f.Kind % 256))]) ++ (put f.View)) ++ (put f.Site))) / 16777216)) (((more 1 ((([(byt (f.Kind % 256))]) ++ (put f.View)) ++ (put f.Site))) / 16777216) % 256) Try.underlying5 (by rw [Try.underlying42]; rfl) rfl (IntKind.wrap_u8 _) ?_)
          refine s_cons (op_buildSlice (E := u8E) [(byt ((more 1 ((([(byt (f.Kind % 256))]) ++ (put f.View)) ++ (put f.Site))) % 256)), (byt (((more 1 ((([(byt (f.Kind % 256))]) ++ (put f.View)) ++ (put f.Site))) / 256) % 256)), (byt (((more 1 ((([(byt (f.Kind % 256))]) ++ (put f.View)) ++ (put f.Site))) / 65536) % 256)), (byt (((more 1 ((([(byt (f.Kind % 256))]) ++ (put f.View)) ++ (put f.Site))) / 16777216) % 256))] hst Try.underlying23 Try.sizeOf5 Try.zeroValue5 (evp_cons (v := (.int .u8 ((more 1 ((([(byt (f.Kind % 256))]) ++ (put f.View)) ++ (put f.Site))) % 256))) rfl (evp_cons (v := (.int .u8 (((more 1 ((([(byt (f.Kind % 256))]) ++ (put f.View)) ++ (put f.Site))) / 256) % 256))) rfl (evp_cons (v := (.int .u8 (((more 1 ((([(byt (f.Kind % 256))]) ++ (put f.View)) ++ (put f.Site))) / 65536) % 256))) rfl (evp_cons (v := (.int .u8 (((more 1 ((([(byt (f.Kind % 256))]) ++ (put f.View)) ++ (put f.Site))) / 16777216) % 256))) rfl evp_nil)))) (parts_cons (by rw [u8cell]; exact byt_cell (by omega) (by omega)) (parts_cons (by rw [u8cell]; exact byt_cell (by omega) (by omega)) (parts_cons (by rw [u8cell]; exact byt_cell (by omega) (by omega)) (parts_cons (by rw [u8cell]; exact byt_cell (by omega) (by omega)) parts_nil)))) rfl (by decide) (fun v283 w284 hst => ?_))
          replace hst : St w0 w284 [rowT 5 u8E v283 ([(byt ((more 1 ((([(byt (f.Kind % 256))]) ++ (put f.View)) ++ (put f.Site))) % 256)), (byt (((more 1 ((([(byt (f.Kind % 256))]) ++ (put f.View)) ++ (put f.Site))) / 256) % 256)), (byt (((more 1 ((([(byt (f.Kind % 256))]) ++ (put f.View)) ++ (put f.Site))) / 65536) % 256)), (byt (((more 1 ((([(byt (f.Kind % 256))]) ++ (put f.View)) ++ (put f.Site))) / 16777216) % 256))]), rowT 5 u8E r278 (put f.Site), rowT 5 u8E v280 ((([(byt (f.Kind % 256))]) ++ (put f.View)) ++ (put f.Site)), .blk g1 25 #[(.int .i64 f.Kind), (.int .i64 f.View), (.int .i64 f.Site), (.int .i64 f.Seq), v_f_Body]] := hst
          refine s_cons (op_move v280 rfl ?_)
          refine s_cons (op_append (E := u8E) (xs := [(byt ((more 1 ((([(byt (f.Kind % 256))]) ++ (put f.View)) ++ (put f.Site))) % 256)), (byt (((more 1 ((([(byt (f.Kind % 256))]) ++ (put f.View)) ++ (put f.Site))) / 256) % 256)), (byt (((more 1 ((([(byt (f.Kind % 256))]) ++ (put f.View)) ++ (put f.Site))) / 65536) % 256)), (byt (((more 1 ((([(byt (f.Kind % 256))]) ++ (put f.View)) ++ (put f.Site))) / 16777216) % 256))]) (ys := ((([(byt (f.Kind % 256))]) ++ (put f.View)) ++ (put f.Site))) (z := (.int .u8 0)) (bytes := 1) hst 0 rfl Try.underlying23 (by kernel_rfl) rfl rfl rfl (hst.sl 2 rfl) (by first | omega | (simp; omega)) (by first | omega | (simp; omega)) (fun v285 w286 hst => ?_))
          replace hst : St w0 w286 [rowT 5 u8E v285 (([(byt ((more 1 ((([(byt (f.Kind % 256))]) ++ (put f.View)) ++ (put f.Site))) % 256)), (byt (((more 1 ((([(byt (f.Kind % 256))]) ++ (put f.View)) ++ (put f.Site))) / 256) % 256)), (byt (((more 1 ((([(byt (f.Kind % 256))]) ++ (put f.View)) ++ (put f.Site))) / 65536) % 256)), (byt (((more 1 ((([(byt (f.Kind % 256))]) ++ (put f.View)) ++ (put f.Site))) / 16777216) % 256))]) ++ ((([(byt (f.Kind % 256))]) ++ (put f.View)) ++ (put f.Site))), rowT 5 u8E r278 (put f.Site), rowT 5 u8E v280 ((([(byt (f.Kind % 256))]) ++ (put f.View)) ++ (put f.Site)), .blk g1 25 #[(.int .i64 f.Kind), (.int .i64 f.View), (.int .i64 f.Site), (.int .i64 f.Seq), v_f_Body]] := hst
          refine s_cons (op_assign v285 rfl ?_)
          refine s_cons (op_assign (.int .i64 0) rfl ?_)
          refine s_nil ?_
          refine then_n ?_
          refine cE_ret ?_
          refine post_r _ (res2 (v := v285) rfl (x := (.int .i64 0)) rfl) ?_
          have e287 : (([(byt ((more 1 ((([(byt (f.Kind % 256))]) ++ (put f.View)) ++ (put f.Site))) % 256)), (byt (((more 1 ((([(byt (f.Kind % 256))]) ++ (put f.View)) ++ (put f.Site))) / 256) % 256)), (byt (((more 1 ((([(byt (f.Kind % 256))]) ++ (put f.View)) ++ (put f.Site))) / 65536) % 256)), (byt (((more 1 ((([(byt (f.Kind % 256))]) ++ (put f.View)) ++ (put f.Site))) / 16777216) % 256))]) ++ ((([(byt (f.Kind % 256))]) ++ (put f.View)) ++ (put f.Site))) = (encF f).1 := by first | (have hk1 : f.Kind = 1 := (by assumption); exact enc1 hmf hk1) | (have hk2 : f.Kind = 2 := (by assumption); exact enc2 hmf hk2) | (have hk1 : ¬ f.Kind = 1 := (by assumption); have hk2 : ¬ f.Kind = 2 := (by assumption); exact enc3 hmf hk1 hk2) | rw [encF_no (by assumption)] | rw [encF_yes (by assumption)]
          replace hst : St w0 w286 [rowT 5 u8E v285 ((encF f).1), rowT 5 u8E r278 (put f.Site), rowT 5 u8E v280 ((([(byt (f.Kind % 256))]) ++ (put f.View)) ++ (put f.Site)), .blk g1 25 #[(.int .i64 f.Kind), (.int .i64 f.View), (.int .i64 f.Site), (.int .i64 f.Seq), v_f_Body]] := by rw [congrArg (fun l => rowT 5 u8E v285 l) e287] at hst; exact hst
          exact ⟨v285, (retv2 rfl (congrArg (Value.int .i64) (show 0 = (encF f).2 from by first | (have hk1 : f.Kind = 1 := (by assumption); exact enc1 hmf hk1) | (have hk2 : f.Kind = 2 := (by assumption); exact enc2 hmf hk2) | (have hk1 : ¬ f.Kind = 1 := (by assumption); have hk2 : ¬ f.Kind = 2 := (by assumption); exact enc3 hmf hk1 hk2) | rw [encF_no (by assumption)] | rw [encF_yes (by assumption)]))), hst.sub (.cons_cons _ (.cons _ (.cons _ (.cons _ .slnil))))⟩
  · refine cE_cond true (congrArg Value.bool (congrArg (! ·) b4)) (fun _ => ?_) (fun h => by cases h)
    refine cE_seq ?_
    refine cE_region rfl ?_
    refine s_cons (op_assign (.slice none 0 0) rfl ?_)
    refine s_cons (op_assign (.int .i64 1) rfl ?_)
    refine s_nil ?_
    refine then_n ?_
    refine cE_ret ?_
    refine then_r ?_
    refine post_r _ (res2 (v := (.slice none 0 0)) rfl (x := (.int .i64 1)) rfl) ?_
    replace hst : St w0 w3 [rowT 5 u8E (.slice none 0 0) ([]), .blk g1 25 #[(.int .i64 f.Kind), (.int .i64 f.View), (.int .i64 f.Site), (.int .i64 f.Seq), v_f_Body]] := hst.nilRow 5 u8E
    have e288 : [] = (encF f).1 := by first | (have hk1 : f.Kind = 1 := (by assumption); exact enc1 hmf hk1) | (have hk2 : f.Kind = 2 := (by assumption); exact enc2 hmf hk2) | (have hk1 : ¬ f.Kind = 1 := (by assumption); have hk2 : ¬ f.Kind = 2 := (by assumption); exact enc3 hmf hk1 hk2) | rw [encF_no (by assumption)] | rw [encF_yes (by assumption)]
    replace hst : St w0 w3 [rowT 5 u8E (.slice none 0 0) ((encF f).1), .blk g1 25 #[(.int .i64 f.Kind), (.int .i64 f.View), (.int .i64 f.Site), (.int .i64 f.Seq), v_f_Body]] := by rw [congrArg (fun l => rowT 5 u8E (.slice none 0 0) l) e288] at hst; exact hst
    exact ⟨(.slice none 0 0), (retv2 rfl (congrArg (Value.int .i64) (show 1 = (encF f).2 from by first | (have hk1 : f.Kind = 1 := (by assumption); exact enc1 hmf hk1) | (have hk2 : f.Kind = 2 := (by assumption); exact enc2 hmf hk2) | (have hk1 : ¬ f.Kind = 1 := (by assumption); have hk2 : ¬ f.Kind = 2 := (by assumption); exact enc3 hmf hk1 hk2) | rw [encF_no (by assumption)] | rw [encF_yes (by assumption)]))), hst.sub (.cons_cons _ (.cons _ .slnil))⟩

end Go.Proofs.Ytfljkaigfmedeaa
