/- For every input the law FoldThrees returns true, and each of its arguments reads afterwards as it read before. No conditions. -/
import Derived.Test.YtffnhcioponbbaaO
import Derived.Test.YtffnhcioponbbaaW5
namespace Go.Proofs.Ytffnhcioponbbaa
open Go.RowKit Go.ChangeShapes Go.WideShapes Go.ChangeAt
set_option maxRecDepth 100000 in
theorem foldThrees_lifted (os : Os) (started : os.Started) (H : Type) (enc : TypeId × Value → H) :
    ReturnsInHanded {} Try.checked os 6 .any (Rows.foldThreesSpec.pre6 enc Try.prog Try.f6 Rows.foldThreesRow.domain false) (Rows.foldThreesSpec.post enc Try.prog Try.f6 false true false false) := by
  refine returnsInHanded_of_change (C := Try.checked) Try.own started (by kernel_rfl) Try.func6
    (ChangeSpec.witness6 (enc := enc) (C := Try.checked) false ⟨#[], #[(.agg #[(.int .i64 0), (.int .i64 0), (.int .i64 0), (.int .i64 0), (.int .i64 0), (.int .i64 0), (.int .i64 0)]), (.agg #[(.int .i64 0), (.int .i64 0), (.int .i64 0), (.int .i64 0), (.int .i64 0), (.int .i64 0), (.int .i64 0)]), (.agg #[(.int .i64 0), (.int .i64 0), (.int .i64 0), (.int .i64 0), (.int .i64 0), (.int .i64 0), (.int .i64 0)])], []⟩ 8 (by kernel_rfl) (by kernel_rfl) (by kernel_rfl) (by kernel_rfl)) ?_
  intro W base args ds gs before hval0 hW _ _
  have hval : ∀ (j : Nat) t v, Try.f6.params[j]? = some t → args[j]? = some v → Value.okWide Try.prog W .any base t v := hval0
  have hW0 : DataW.Whole enc Try.prog Try.f6.params.toList Rows.foldThreesSpec.vars false W args.toList ds gs before := hW
  obtain ⟨p, q, hA0, _, _, _, _⟩ := hW0
  have hA : DataW.TrodAll enc Try.prog W 0 (fun _ => true) true Try.f6.params.toList args.toList ds p := hA0
  rw [Try.params6] at hA hval
  obtain ⟨v0, vs0, d0, ds0, p0, q0, hargs, rfl, rfl, h0, r0⟩ := trodAll_cons hA
  obtain ⟨v1, vs1, d1, ds1, p1, q1, rfl, rfl, rfl, h1, r1⟩ := trodAll_cons r0
  obtain ⟨v2, vs2, d2, ds2, p2, q2, rfl, rfl, rfl, h2, r2⟩ := trodAll_cons r1
  obtain ⟨rfl, rfl, rfl⟩ := trodAll_nil r2
  obtain rfl : args = #[v0, v1, v2] := Array.toList_inj.1 hargs
  obtain ⟨x0, rfl, hw0⟩ := open_rec (Try.opensAgg) Try.underlying26 (hval 0 26 v0 rfl rfl) h0
  obtain ⟨x1, rfl, hw1⟩ := open_rec (Try.opensAgg) Try.underlying26 (hval 1 26 v1 rfl rfl) h1
  obtain ⟨x2, rfl, hw2⟩ := open_rec (Try.opensAgg) Try.underlying26 (hval 2 26 v2 rfl rfl) h2
  refine (c_FoldThrees (w0 := W) (a := x0) (b := x1) (c := x2) (ha := by exact hw0) (hb := by exact hw1) (hc := by exact hw2)).mono fun e W' ⟨he, hst⟩ => ⟨_, he, ?_⟩
  exact law_post (s := Rows.foldThreesSpec) Try.laidOut (by kernel_rfl) rfl Try.underlying4 rfl ⟨rfl, rfl, rfl⟩ hW hst.below
theorem foldThrees_holds : Rows.FoldThreesSaid :=
  OpenClaim.holds_of_wide 6 Try.f6 rfl rfl rfl rfl rfl rfl rfl ⟨rfl, rfl, rfl, rfl, rfl⟩ rfl rfl rfl rfl rfl (by kernel_rfl) Try.func6 (by kernel_rfl)
    (of_decide_eq_true (by kernel_rfl)) (by unfold Func.isWrapper; rw [if_neg (of_decide_eq_false (by kernel_rfl))]; exact ⟨rfl, rfl⟩)
    (fun os started H enc _ => foldThrees_lifted os started H enc)
end Go.Proofs.Ytffnhcioponbbaa
