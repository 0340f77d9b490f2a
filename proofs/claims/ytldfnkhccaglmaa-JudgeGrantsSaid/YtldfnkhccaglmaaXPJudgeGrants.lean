/- For every input the law JudgeGrants returns true, and each of its arguments reads afterwards as it read before. No conditions. -/
import Derived.Test.YtldfnkhccaglmaaXO
import Derived.Test.YtldfnkhccaglmaaXW69
namespace Go.Proofs.Ytldfnkhccaglmaa
open Go.RowKit Go.ChangeShapes Go.WideShapes Go.ChangeAt
set_option maxRecDepth 100000 in
theorem judgeGrants_lifted (os : Os) (started : os.Started) (H : Type) (enc : TypeId × Value → H) :
    ReturnsInHanded {} Try.checked os 7 .any (Rows.judgeGrantsSpec.pre6 enc Try.prog Try.f7 Rows.judgeGrantsRow.domain false) (Rows.judgeGrantsSpec.post enc Try.prog Try.f7 false true false false) := by
  refine returnsInHanded_of_change (C := Try.checked) Try.own started (by kernel_rfl) Try.func7
    (ChangeSpec.witness6 (enc := enc) (C := Try.checked) false ⟨#[], #[(.slice none 0 0), (.int .i64 0)], []⟩ 8 (by kernel_rfl) (by kernel_rfl) (by kernel_rfl) (by kernel_rfl)) ?_
  intro W base args ds gs before hval0 hW _ _
  have hval : ∀ (j : Nat) t v, Try.f7.params[j]? = some t → args[j]? = some v → Value.okWide Try.prog W .any base t v := hval0
  have hW0 : DataW.Whole enc Try.prog Try.f7.params.toList Rows.judgeGrantsSpec.vars false W args.toList ds gs before := hW
  obtain ⟨p, q, hA0, _, _, _, _⟩ := hW0
  have hA : DataW.TrodAll enc Try.prog W 0 (fun _ => true) true Try.f7.params.toList args.toList ds p := hA0
  rw [Try.params7] at hA hval
  obtain ⟨v0, vs0, d0, ds0, p0, q0, hargs, rfl, rfl, h0, r0⟩ := trodAll_cons hA
  obtain ⟨v1, vs1, d1, ds1, p1, q1, rfl, rfl, rfl, h1, r1⟩ := trodAll_cons r0
  obtain ⟨rfl, rfl, rfl⟩ := trodAll_nil r1
  obtain rfl : args = #[v0, v1] := Array.toList_inj.1 hargs
  obtain ⟨xs0, hs0, hw0⟩ := open_sl (E := (intE .i64)) Try.underlying42 (by kernel_rfl) (opens_int Try.underlying3) (hval 0 42 v0 rfl rfl) h0
  obtain ⟨x1, rfl, rfl, rfl, wx1⟩ := open_int Try.underlying3 (hval 1 3 v1 rfl rfl) h1
  have bx1 := wf_bi64 wx1
  refine (c_JudgeGrants (w0 := W) (v_l := v0) (l := xs0) (h_l := hs0) (which := x1) (hl := by exact fun v h => i64R_of (hw0 v h)) (which0 := by omega) (which1 := by omega)).mono fun e W' ⟨he, hst⟩ => ⟨_, he, ?_⟩
  exact law_post (s := Rows.judgeGrantsSpec) Try.laidOut (by kernel_rfl) rfl Try.underlying4 rfl ⟨rfl, rfl, rfl⟩ hW hst.below
theorem judgeGrants_holds : Rows.JudgeGrantsSaid :=
  OpenClaim.holds_of_wide 7 Try.f7 rfl rfl rfl rfl rfl rfl rfl ⟨rfl, rfl, rfl, rfl, rfl⟩ rfl rfl rfl rfl rfl (by kernel_rfl) Try.func7 (by kernel_rfl)
    (of_decide_eq_true (by kernel_rfl)) (by unfold Func.isWrapper; rw [if_neg (of_decide_eq_false (by kernel_rfl))]; exact ⟨rfl, rfl⟩)
    (fun os started H enc _ => judgeGrants_lifted os started H enc)
end Go.Proofs.Ytldfnkhccaglmaa
