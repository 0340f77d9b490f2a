/- For every input the law JudgeAsks returns true, and each of its arguments reads afterwards as it read before. No conditions. -/
import Derived.Test.YtldfnkhccaglmaaXO
import Derived.Test.YtldfnkhccaglmaaXW78
namespace Go.Proofs.Ytldfnkhccaglmaa
open Go.RowKit Go.ChangeShapes Go.WideShapes Go.ChangeAt
set_option maxRecDepth 100000 in
theorem judgeAsks_lifted (os : Os) (started : os.Started) (H : Type) (enc : TypeId × Value → H) :
    ReturnsInHanded {} Try.checked os 3 .any (Rows.judgeAsksSpec.pre6 enc Try.prog Try.f3 Rows.judgeAsksRow.domain false) (Rows.judgeAsksSpec.post enc Try.prog Try.f3 false true false false) := by
  refine returnsInHanded_of_change (C := Try.checked) Try.own started (by kernel_rfl) Try.func3
    (ChangeSpec.witness6 (enc := enc) (C := Try.checked) false ⟨#[], #[(.slice none 0 0), (.slice none 0 0), (.slice none 0 0), (.slice none 0 0), (.int .i64 0), (.int .i64 0)], []⟩ 8 (by kernel_rfl) (by kernel_rfl) (by kernel_rfl) (by kernel_rfl)) ?_
  intro W base args ds gs before hval0 hW _ _
  have hval : ∀ (j : Nat) t v, Try.f3.params[j]? = some t → args[j]? = some v → Value.okWide Try.prog W .any base t v := hval0
  have hW0 : DataW.Whole enc Try.prog Try.f3.params.toList Rows.judgeAsksSpec.vars false W args.toList ds gs before := hW
  obtain ⟨p, q, hA0, _, _, _, _⟩ := hW0
  have hA : DataW.TrodAll enc Try.prog W 0 (fun _ => true) true Try.f3.params.toList args.toList ds p := hA0
  rw [Try.params3] at hA hval
  obtain ⟨v0, vs0, d0, ds0, p0, q0, hargs, rfl, rfl, h0, r0⟩ := trodAll_cons hA
  obtain ⟨v1, vs1, d1, ds1, p1, q1, rfl, rfl, rfl, h1, r1⟩ := trodAll_cons r0
  obtain ⟨v2, vs2, d2, ds2, p2, q2, rfl, rfl, rfl, h2, r2⟩ := trodAll_cons r1
  obtain ⟨v3, vs3, d3, ds3, p3, q3, rfl, rfl, rfl, h3, r3⟩ := trodAll_cons r2
  obtain ⟨v4, vs4, d4, ds4, p4, q4, rfl, rfl, rfl, h4, r4⟩ := trodAll_cons r3
  obtain ⟨v5, vs5, d5, ds5, p5, q5, rfl, rfl, rfl, h5, r5⟩ := trodAll_cons r4
  obtain ⟨rfl, rfl, rfl⟩ := trodAll_nil r5
  obtain rfl : args = #[v0, v1, v2, v3, v4, v5] := Array.toList_inj.1 hargs
  obtain ⟨xs0, hs0, hw0⟩ := open_sl (E := toldE) Try.underlying22 (by kernel_rfl) (Try.opensTold) (hval 0 22 v0 rfl rfl) h0
  obtain ⟨xs1, hs1, hw1⟩ := open_sl (E := sampE) Try.underlying23 (by kernel_rfl) (Try.opensSample) (hval 1 23 v1 rfl rfl) h1
  obtain ⟨xs2, hs2, hw2⟩ := open_sl (E := winE) Try.underlying24 (by kernel_rfl) (Try.opensW) (hval 2 24 v2 rfl rfl) h2
  obtain ⟨xs3, hs3, hw3⟩ := open_sl (E := grantE) Try.underlying25 (by kernel_rfl) (Try.opensGrant) (hval 3 25 v3 rfl rfl) h3
  obtain ⟨x4, rfl, rfl, rfl, wx4⟩ := open_int Try.underlying2 (hval 4 2 v4 rfl rfl) h4
  have bx4 := wf_bi64 wx4
  obtain ⟨x5, rfl, rfl, rfl, wx5⟩ := open_int Try.underlying2 (hval 5 2 v5 rfl rfl) h5
  have bx5 := wf_bi64 wx5
  refine (c_JudgeAsks (w0 := W) (v_t := v0) (t := xs0) (h_t := hs0) (v_h := v1) (h := xs1) (h_h := hs1) (v_l := v2) (l := xs2) (h_l := hs2) (v_gs := v3) (gs := xs3) (h_gs := hs3) (fr := x4) (to := x5) (hho := by exact hw1) (hwo := by exact hw2) (fr0 := by omega) (to0 := by omega) (fr1 := by omega) (to1 := by omega)).mono fun e W' ⟨he, hst⟩ => ⟨_, he, ?_⟩
  exact law_post (s := Rows.judgeAsksSpec) Try.laidOut (by kernel_rfl) rfl Try.underlying4 rfl ⟨rfl, rfl, rfl⟩ hW hst.below
theorem judgeAsks_holds : Rows.JudgeAsksSaid :=
  OpenClaim.holds_of_wide 3 Try.f3 rfl rfl rfl rfl rfl rfl rfl ⟨rfl, rfl, rfl, rfl, rfl⟩ rfl rfl rfl rfl rfl (by kernel_rfl) Try.func3 (by kernel_rfl)
    (of_decide_eq_true (by kernel_rfl)) (by unfold Func.isWrapper; rw [if_neg (of_decide_eq_false (by kernel_rfl))]; exact ⟨rfl, rfl⟩)
    (fun os started H enc _ => judgeAsks_lifted os started H enc)
end Go.Proofs.Ytldfnkhccaglmaa
