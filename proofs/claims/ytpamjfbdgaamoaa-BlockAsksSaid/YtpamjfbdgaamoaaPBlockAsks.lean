/- For every input the law BlockAsks returns true, and each of its arguments reads afterwards as it read before. No conditions. -/
import Derived.Test.YtpamjfbdgaamoaaO
import Derived.Test.YtpamjfbdgaamoaaW44
namespace Go.Proofs.Ytpamjfbdgaamoaa
open Go.RowKit Go.ChangeShapes Go.WideShapes Go.ChangeAt
set_option maxRecDepth 100000 in
theorem blockAsks_lifted (os : Os) (started : os.Started) (H : Type) (enc : TypeId × Value → H) :
    ReturnsInHanded {} Try.checked os 3 .any (Rows.blockAsksSpec.pre6 enc Try.prog Try.f3 Rows.blockAsksRow.domain false) (Rows.blockAsksSpec.post enc Try.prog Try.f3 false true false false) := by
  refine returnsInHanded_of_change (C := Try.checked) Try.own started (by kernel_rfl) Try.func3
    (ChangeSpec.witness6 (enc := enc) (C := Try.checked) false ⟨#[], #[(.slice none 0 0), (.slice none 0 0), (.int .i64 0), (.slice none 0 0)], []⟩ 8 (by kernel_rfl) (by kernel_rfl) (by kernel_rfl) (by kernel_rfl)) ?_
  intro W base args ds gs before hval0 hW _ _
  have hval : ∀ (j : Nat) t v, Try.f3.params[j]? = some t → args[j]? = some v → Value.okWide Try.prog W .any base t v := hval0
  have hW0 : DataW.Whole enc Try.prog Try.f3.params.toList Rows.blockAsksSpec.vars false W args.toList ds gs before := hW
  obtain ⟨p, q, hA0, _, _, _, _⟩ := hW0
  have hA : DataW.TrodAll enc Try.prog W 0 (fun _ => true) true Try.f3.params.toList args.toList ds p := hA0
  rw [Try.params3] at hA hval
  obtain ⟨v0, vs0, d0, ds0, p0, q0, hargs, rfl, rfl, h0, r0⟩ := trodAll_cons hA
  obtain ⟨v1, vs1, d1, ds1, p1, q1, rfl, rfl, rfl, h1, r1⟩ := trodAll_cons r0
  obtain ⟨v2, vs2, d2, ds2, p2, q2, rfl, rfl, rfl, h2, r2⟩ := trodAll_cons r1
  obtain ⟨v3, vs3, d3, ds3, p3, q3, rfl, rfl, rfl, h3, r3⟩ := trodAll_cons r2
  obtain ⟨rfl, rfl, rfl⟩ := trodAll_nil r3
  obtain rfl : args = #[v0, v1, v2, v3] := Array.toList_inj.1 hargs
  obtain ⟨xs0, hs0, hw0⟩ := open_sl (E := sampE) Try.underlying22 (by kernel_rfl) (Try.opensSample) (hval 0 22 v0 rfl rfl) h0
  obtain ⟨xs1, hs1, hw1⟩ := open_sl (E := aggE) Try.underlying23 (by kernel_rfl) (Try.opensAgg) (hval 1 23 v1 rfl rfl) h1
  obtain ⟨x2, rfl, rfl, rfl, wx2⟩ := open_int Try.underlying3 (hval 2 3 v2 rfl rfl) h2
  have bx2 := wf_bi64 wx2
  obtain ⟨xs3, hs3, hw3⟩ := open_sl (E := u8E) Try.underlying24 (by kernel_rfl) (opens_u8 Try.underlying5) (hval 3 24 v3 rfl rfl) h3
  refine (c_BlockAsks (w0 := W) (v_s := v0) (s := xs0) (h_s := hs0) (v_g := v1) (g := xs1) (h_g := hs1) (k := x2) (v_b := v3) (b := xs3) (h_b := hs3) (hs := by exact hw0) (hg := by exact hw1) (k0 := by omega) (k1 := by omega)).mono fun e W' ⟨he, hst⟩ => ⟨_, he, ?_⟩
  exact law_post (s := Rows.blockAsksSpec) Try.laidOut (by kernel_rfl) rfl Try.underlying4 rfl ⟨rfl, rfl, rfl⟩ hW hst.below
theorem blockAsks_holds : Rows.BlockAsksSaid :=
  OpenClaim.holds_of_wide 3 Try.f3 rfl rfl rfl rfl rfl rfl rfl ⟨rfl, rfl, rfl, rfl, rfl⟩ rfl rfl rfl rfl rfl (by kernel_rfl) Try.func3 (by kernel_rfl)
    (of_decide_eq_true (by kernel_rfl)) (by unfold Func.isWrapper; rw [if_neg (of_decide_eq_false (by kernel_rfl))]; exact ⟨rfl, rfl⟩)
    (fun os started H enc _ => blockAsks_lifted os started H enc)
end Go.Proofs.Ytpamjfbdgaamoaa
