/- For every input the law FrameAsks returns true, and each of its arguments reads afterwards as it read before. No conditions. -/
import Derived.Test.YtfljkaigfmedeaaO
import Derived.Test.YtfljkaigfmedeaaFD
import Derived.Test.YtfljkaigfmedeaaW42
namespace Go.Proofs.Ytfljkaigfmedeaa
open Go.RowKit Go.ChangeShapes Go.WideShapes Go.ChangeAt
set_option maxRecDepth 100000 in
theorem frameAsks_lifted (os : Os) (started : os.Started) (H : Type) (enc : TypeId × Value → H) :
    ReturnsInHanded {} Try.checked os 4 .any (Rows.frameAsksSpec.pre6 enc Try.prog Try.f4 Rows.frameAsksRow.domain false) (Rows.frameAsksSpec.post enc Try.prog Try.f4 false true false false) := by
  refine returnsInHanded_of_change (C := Try.checked) Try.own started (by kernel_rfl) Try.func4
    (ChangeSpec.witness6 (enc := enc) (C := Try.checked) false ⟨#[], #[(.agg #[(.int .i64 0), (.int .i64 0), (.int .i64 0), (.int .i64 0), (.slice none 0 0)]), (.agg #[(.int .i64 0), (.int .i64 0), (.int .i64 0), (.int .i64 0), (.slice none 0 0)]), (.slice none 0 0)], []⟩ 8 (by kernel_rfl) (by kernel_rfl) (by kernel_rfl) (by kernel_rfl)) ?_
  intro W base args ds gs before hval0 hW _ _
  have hval : ∀ (j : Nat) t v, Try.f4.params[j]? = some t → args[j]? = some v → Value.okWide Try.prog W .any base t v := hval0
  have hW0 : DataW.Whole enc Try.prog Try.f4.params.toList Rows.frameAsksSpec.vars false W args.toList ds gs before := hW
  obtain ⟨p, q, hA0, _, _, _, _⟩ := hW0
  have hA : DataW.TrodAll enc Try.prog W 0 (fun _ => true) true Try.f4.params.toList args.toList ds p := hA0
  rw [Try.params4] at hA hval
  obtain ⟨v0, vs0, d0, ds0, p0, q0, hargs, rfl, rfl, h0, r0⟩ := trodAll_cons hA
  obtain ⟨v1, vs1, d1, ds1, p1, q1, rfl, rfl, rfl, h1, r1⟩ := trodAll_cons r0
  obtain ⟨v2, vs2, d2, ds2, p2, q2, rfl, rfl, rfl, h2, r2⟩ := trodAll_cons r1
  obtain ⟨rfl, rfl, rfl⟩ := trodAll_nil r2
  obtain rfl : args = #[v0, v1, v2] := Array.toList_inj.1 hargs
  obtain ⟨x0, y0, rfl, hs0, hw0⟩ := open_frame Try.underlying25 (by kernel_rfl) ⟨rfl, rfl, rfl, rfl, rfl⟩ ⟨by kernel_rfl, by kernel_rfl, by kernel_rfl, by kernel_rfl, by kernel_rfl, by kernel_rfl⟩ Try.underlying3 Try.underlying3 Try.underlying3 Try.underlying2 Try.underlying23 Try.underlying5 (hval 0 25 v0 rfl rfl) h0
  obtain ⟨x1, y1, rfl, hs1, hw1⟩ := open_frame Try.underlying25 (by kernel_rfl) ⟨rfl, rfl, rfl, rfl, rfl⟩ ⟨by kernel_rfl, by kernel_rfl, by kernel_rfl, by kernel_rfl, by kernel_rfl, by kernel_rfl⟩ Try.underlying3 Try.underlying3 Try.underlying3 Try.underlying2 Try.underlying23 Try.underlying5 (hval 1 25 v1 rfl rfl) h1
  obtain ⟨xs2, hs2, hw2⟩ := open_sl (E := u8E) Try.underlying23 (by kernel_rfl) (opens_u8 Try.underlying5) (hval 2 23 v2 rfl rfl) h2
  refine (c_FrameAsks (w0 := W) (f := x0) (v_f_Body := y0) (h_f_Body := hs0) (g := x1) (v_g_Body := y1) (h_g_Body := hs1) (v_b := v2) (b := xs2) (h_b := hs2) (hf := by exact hw0) (hg := by exact hw1)).mono fun e W' ⟨he, hst⟩ => ⟨_, he, ?_⟩
  exact law_post (s := Rows.frameAsksSpec) Try.laidOut (by kernel_rfl) rfl Try.underlying4 rfl ⟨rfl, rfl, rfl⟩ hW hst.below
theorem frameAsks_holds : Rows.FrameAsksSaid :=
  OpenClaim.holds_of_wide 4 Try.f4 rfl rfl rfl rfl rfl rfl rfl ⟨rfl, rfl, rfl, rfl, rfl⟩ rfl rfl rfl rfl rfl (by kernel_rfl) Try.func4 (by kernel_rfl)
    (of_decide_eq_true (by kernel_rfl)) (by unfold Func.isWrapper; rw [if_neg (of_decide_eq_false (by kernel_rfl))]; exact ⟨rfl, rfl⟩)
    (fun os started H enc _ => frameAsks_lifted os started H enc)
end Go.Proofs.Ytfljkaigfmedeaa
