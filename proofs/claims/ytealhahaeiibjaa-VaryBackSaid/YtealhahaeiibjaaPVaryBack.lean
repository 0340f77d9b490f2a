/- For every input the law VaryBack returns true, and each of its arguments reads afterwards as it read before. No conditions. -/
import Derived.Test.YtealhahaeiibjaaO
import Derived.Test.YtealhahaeiibjaaW8
namespace Go.Proofs.Ytealhahaeiibjaa
open Go.RowKit Go.ChangeShapes Go.WideShapes Go.ChangeAt
set_option maxRecDepth 100000 in
theorem varyBack_lifted (os : Os) (started : os.Started) (H : Type) (enc : TypeId × Value → H) :
    ReturnsInHanded {} Try.checked os 10 .any (Rows.varyBackSpec.pre6 enc Try.prog Try.f10 Rows.varyBackRow.domain false) (Rows.varyBackSpec.post enc Try.prog Try.f10 false true false false) := by
  refine returnsInHanded_of_change (C := Try.checked) Try.own started (by kernel_rfl) Try.func10
    (ChangeSpec.witness6 (enc := enc) (C := Try.checked) false ⟨#[], #[(.slice none 0 0), (.slice none 0 0)], []⟩ 8 (by kernel_rfl) (by kernel_rfl) (by kernel_rfl) (by kernel_rfl)) ?_
  intro W base args ds gs before hval0 hW _ _
  have hval : ∀ (j : Nat) t v, Try.f10.params[j]? = some t → args[j]? = some v → Value.okWide Try.prog W .any base t v := hval0
  have hW0 : DataW.Whole enc Try.prog Try.f10.params.toList Rows.varyBackSpec.vars false W args.toList ds gs before := hW
  obtain ⟨p, q, hA0, _, _, _, _⟩ := hW0
  have hA : DataW.TrodAll enc Try.prog W 0 (fun _ => true) true Try.f10.params.toList args.toList ds p := hA0
  rw [Try.params10] at hA hval
  obtain ⟨v0, vs0, d0, ds0, p0, q0, hargs, rfl, rfl, h0, r0⟩ := trodAll_cons hA
  obtain ⟨v1, vs1, d1, ds1, p1, q1, rfl, rfl, rfl, h1, r1⟩ := trodAll_cons r0
  obtain ⟨rfl, rfl, rfl⟩ := trodAll_nil r1
  obtain rfl : args = #[v0, v1] := Array.toList_inj.1 hargs
  obtain ⟨xs0, hs0, hw0⟩ := open_sl (E := (intE .u64)) Try.underlying45 (by kernel_rfl) (opens_int Try.underlying33) (hval 0 45 v0 rfl rfl) h0
  obtain ⟨xs1, hs1, hw1⟩ := open_sl (E := u8E) Try.underlying22 (by kernel_rfl) (opens_u8 Try.underlying5) (hval 1 22 v1 rfl rfl) h1
  refine (c_VaryBack (w0 := W) (v_l := v0) (l := xs0) (h_l := hs0) (v_ahead := v1) (ahead := xs1) (h_ahead := hs1) (hw := by (intro x hx; have h := hw0 _ hx; have e1 : IntKind.u64.min = 0 := (by decide); have e2 : IntKind.u64.max = 18446744073709551615 := (by decide); exact ⟨by omega, by omega⟩))).mono fun e W' ⟨he, hst⟩ => ⟨_, he, ?_⟩
  exact law_post (s := Rows.varyBackSpec) Try.laidOut (by kernel_rfl) rfl Try.underlying4 rfl ⟨rfl, rfl, rfl⟩ hW hst.below
theorem varyBack_holds : Rows.VaryBackSaid :=
  OpenClaim.holds_of_wide 10 Try.f10 rfl rfl rfl rfl rfl rfl rfl ⟨rfl, rfl, rfl, rfl, rfl⟩ rfl rfl rfl rfl rfl (by kernel_rfl) Try.func10 (by kernel_rfl)
    (of_decide_eq_true (by kernel_rfl)) (by unfold Func.isWrapper; rw [if_neg (of_decide_eq_false (by kernel_rfl))]; exact ⟨rfl, rfl⟩)
    (fun os started H enc _ => varyBack_lifted os started H enc)
end Go.Proofs.Ytealhahaeiibjaa
