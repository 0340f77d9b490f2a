/- For every input the law SegmentInfos returns true, and each of its arguments reads afterwards as it read before. Conditions: the listed package-level variables begin with what the program's text lays them with (tied). -/
import Derived.Test.YtgibfidebdgffaaDoorXO
import Derived.Test.YtgibfidebdgffaaDoorTie
import Derived.Test.YtgibfidebdgffaaDoorCards
import Derived.SevenTiedAt
import Derived.Test.YtgibfidebdgffaaDoorXW62
namespace Go.Proofs.YtgibfidebdgffaaDoor
open Go.RowKit Go.ChangeShapes Go.WideShapes Go.ChangeAt
set_option maxRecDepth 100000 in
theorem segmentInfos_lifted (os : Os) (started : os.Started) (H : Type) (enc : TypeId × Value → H) :
    ReturnsInHanded {} Tryd.checked os 7 .any (fun w args => (Rows.segmentInfosSpec.pre enc Tryd.prog Tryd.f7 [] false w args ∧ laidMetH Tryd.prog laidD w) ∧ sizedMet enc Tryd.prog Tryd.f7 (OpenSpec.ofChange Rows.segmentInfosSpec) false w args) (Rows.segmentInfosSpec.post enc Tryd.prog Tryd.f7 false true false false) := by
  refine returnsInHanded_of_change_and (C := Tryd.checked) (X := fun w _ => laidMetH Tryd.prog laidD w) (fun _ _ _ hh h => h.of_heap hh) Tryd.own started (by kernel_rfl) Tryd.func7
    (ChangeSpec.witness_shaped (enc := enc) (C := Tryd.checked) (os := os) (X := fun w _ => laidMetH Tryd.prog laidD w) false (World.doorLaid Tryd.prog 400 os) #[(.int .i64 0), (.slice none 0 0), (.slice none 0 0), (.int .i64 0)] 8 rfl (World.shaped_of_RefB (by kernel_rfl) (by kernel_rfl)) (by kernel_rfl) (by kernel_rfl) (by kernel_rfl) (door_met os _)) ?_
  intro W base args ds gs before hval0 hW _ hZ0 _ _
  have hval : ∀ (j : Nat) t v, Tryd.f7.params[j]? = some t → args[j]? = some v → Value.okWide Tryd.prog W .any base t v := hval0
  have hZ : (DataW.weightsEach Tryd.prog (Tryd.f7.params.toList ++ Rows.segmentInfosSpec.plain.varTypes Tryd.prog) (ds ++ gs)).all (· ≤ reachBytes) = true := hZ0
  have hW0 : DataW.Whole enc Tryd.prog Tryd.f7.params.toList Rows.segmentInfosSpec.vars false W args.toList ds gs before := hW
  obtain ⟨p, q, hA0, _, _, _, _⟩ := hW0
  have hA : DataW.TrodAll enc Tryd.prog W 0 (fun _ => true) true Tryd.f7.params.toList args.toList ds p := hA0
  rw [Tryd.params7] at hA hval hZ
  obtain ⟨v0, vs0, d0, ds0, p0, q0, hargs, rfl, rfl, h0, r0⟩ := trodAll_cons hA
  obtain ⟨v1, vs1, d1, ds1, p1, q1, rfl, rfl, rfl, h1, r1⟩ := trodAll_cons r0
  obtain ⟨v2, vs2, d2, ds2, p2, q2, rfl, rfl, rfl, h2, r2⟩ := trodAll_cons r1
  obtain ⟨v3, vs3, d3, ds3, p3, q3, rfl, rfl, rfl, h3, r3⟩ := trodAll_cons r2
  obtain ⟨rfl, rfl, rfl⟩ := trodAll_nil r3
  obtain rfl : args = #[v0, v1, v2, v3] := Array.toList_inj.1 hargs
  obtain ⟨x0, rfl, rfl, rfl, wx0⟩ := open_int Tryd.underlying3 (hval 0 3 v0 rfl rfl) h0
  have bx0 := wf_bi64 wx0
  obtain ⟨xs1, hs1, hw1, hd1⟩ := open_slZ (E := (intE .i64)) Tryd.underlying35 (by kernel_rfl) (opens_int Tryd.underlying3) (hval 1 35 v1 rfl rfl) h1
  have hz1 : xs1.length * 8 ≤ 140737488351232 := sized_of hZ (j := 1) (t := 35) rfl rfl Tryd.underlying35 (by kernel_rfl) hd1
  obtain ⟨xs2, hs2, hw2, hd2⟩ := open_slZ (E := (intE .i64)) Tryd.underlying36 (by kernel_rfl) (opens_int Tryd.underlying2) (hval 2 36 v2 rfl rfl) h2
  have hz2 : xs2.length * 8 ≤ 140737488351232 := sized_of hZ (j := 2) (t := 36) rfl rfl Tryd.underlying36 (by kernel_rfl) hd2
  obtain ⟨x3, rfl, rfl, rfl, wx3⟩ := open_int Tryd.underlying3 (hval 3 3 v3 rfl rfl) h3
  have bx3 := wf_bi64 wx3
  refine (c_SegmentInfos (w0 := W) (nid := x0) (v_steps := v1) (steps := xs1) (h_steps := hs1) (v_values := v2) (values := xs2) (h_values := hs2) (other := x3) (hv := by exact fun v h => i64R_of (hw2 v h)) (hst_ := by exact fun v h => i64R_of (hw1 v h)) (hsl := by exact hz1) (nid0 := by omega) (other0 := by omega) (nid1 := by omega) (other1 := by omega)).mono fun e W' ⟨he, hst⟩ => ⟨_, he, ?_⟩
  exact law_post (s := Rows.segmentInfosSpec) Tryd.laidOut (by kernel_rfl) rfl Tryd.underlying4 rfl ⟨rfl, rfl, rfl⟩ hW hst.below
theorem segmentInfos_row : Rows.SegmentInfosSaid :=
  OpenClaim.holds_of_wide 7 Tryd.f7 rfl rfl rfl rfl rfl rfl rfl ⟨rfl, rfl, rfl, rfl, rfl⟩ rfl rfl rfl rfl rfl (by kernel_rfl) Tryd.func7 (by kernel_rfl)
    (of_decide_eq_true (by kernel_rfl)) (by unfold Func.isWrapper; rw [if_neg (of_decide_eq_false (by kernel_rfl))]; exact ⟨rfl, rfl⟩)
    (fun os started H enc _ => segmentInfos_lifted os started H enc)
theorem segmentInfos_holds : Rows.SegmentInfosCardSaid :=
  Claim7.holds_tied_plain_at .later [] [.data, .data, .data] true Rows.segmentInfosCard.stood.harness false
    segmentInfos_row (fun _ h => by cases h) (by kernel_rfl) (fun _ h => by cases h) segmentInfos_row_tie rfl ⟨rfl, rfl⟩ (by kernel_rfl) rfl
    (fun f fn hf hfn => by
      obtain rfl : f = 7 := Option.some.inj ((show Tryd.prog.funcNamed "twinkeep/twinkeeplaw8.SegmentInfos" = some 7 by kernel_rfl).symm.trans hf) |>.symm
      obtain rfl : fn = Tryd.f7 := (Option.some.inj (Tryd.func7.symm.trans hfn)).symm
      exact ⟨by kernel_rfl, fun j t ht => by
        rw [Tryd.params7] at ht
        have hm : t ∈ [3, 35, 36, 3] := by simpa using Array.mem_of_getElem? ht
        have hall : ([3, 35, 36, 3].all fun u => !Tryd.prog.wantsStandIn u) = true := by kernel_rfl
        exact (show Tryd.prog.wantsStandIn t = false by simpa using List.all_eq_true.1 hall t hm)⟩)
    (by kernel_rfl)
end Go.Proofs.YtgibfidebdgffaaDoor
