/- For every input the law SegmentTwo returns true, and each of its arguments reads afterwards as it read before. Conditions: the listed package-level variables begin with what the program's text lays them with (tied). -/
import Derived.Test.YtgibfidebdgffaaDoorXO
import Derived.Test.YtgibfidebdgffaaDoorTie
import Derived.Test.YtgibfidebdgffaaDoorCards
import Derived.SevenTiedAt
import Derived.Test.YtgibfidebdgffaaDoorXW61
namespace Go.Proofs.YtgibfidebdgffaaDoor
open Go.RowKit Go.ChangeShapes Go.WideShapes Go.ChangeAt
set_option maxRecDepth 100000 in
theorem segmentTwo_lifted (os : Os) (started : os.Started) (H : Type) (enc : TypeId × Value → H) :
    ReturnsInHanded {} Tryd.checked os 6 .any (fun w args => (Rows.segmentTwoSpec.pre enc Tryd.prog Tryd.f6 [] false w args ∧ laidMetH Tryd.prog laidD w) ∧ sizedMet enc Tryd.prog Tryd.f6 (OpenSpec.ofChange Rows.segmentTwoSpec) false w args) (Rows.segmentTwoSpec.post enc Tryd.prog Tryd.f6 false true false false) := by
  refine returnsInHanded_of_change_and (C := Tryd.checked) (X := fun w _ => laidMetH Tryd.prog laidD w) (fun _ _ _ hh h => h.of_heap hh) Tryd.own started (by kernel_rfl) Tryd.func6
    (ChangeSpec.witness_shaped (enc := enc) (C := Tryd.checked) (os := os) (X := fun w _ => laidMetH Tryd.prog laidD w) false (World.doorLaid Tryd.prog 400 os) #[(.int .i64 0), (.slice none 0 0), (.slice none 0 0), (.slice none 0 0)] 8 rfl (World.shaped_of_RefB (by kernel_rfl) (by kernel_rfl)) (by kernel_rfl) (by kernel_rfl) (by kernel_rfl) (door_met os _)) ?_
  intro W base args ds gs before hval0 hW _ hZ0 _ _
  have hval : ∀ (j : Nat) t v, Tryd.f6.params[j]? = some t → args[j]? = some v → Value.okWide Tryd.prog W .any base t v := hval0
  have hZ : (DataW.weightsEach Tryd.prog (Tryd.f6.params.toList ++ Rows.segmentTwoSpec.plain.varTypes Tryd.prog) (ds ++ gs)).all (· ≤ reachBytes) = true := hZ0
  have hW0 : DataW.Whole enc Tryd.prog Tryd.f6.params.toList Rows.segmentTwoSpec.vars false W args.toList ds gs before := hW
  obtain ⟨p, q, hA0, _, _, _, _⟩ := hW0
  have hA : DataW.TrodAll enc Tryd.prog W 0 (fun _ => true) true Tryd.f6.params.toList args.toList ds p := hA0
  rw [Tryd.params6] at hA hval hZ
  obtain ⟨v0, vs0, d0, ds0, p0, q0, hargs, rfl, rfl, h0, r0⟩ := trodAll_cons hA
  obtain ⟨v1, vs1, d1, ds1, p1, q1, rfl, rfl, rfl, h1, r1⟩ := trodAll_cons r0
  obtain ⟨v2, vs2, d2, ds2, p2, q2, rfl, rfl, rfl, h2, r2⟩ := trodAll_cons r1
  obtain ⟨v3, vs3, d3, ds3, p3, q3, rfl, rfl, rfl, h3, r3⟩ := trodAll_cons r2
  obtain ⟨rfl, rfl, rfl⟩ := trodAll_nil r3
  obtain rfl : args = #[v0, v1, v2, v3] := Array.toList_inj.1 hargs
  obtain ⟨x0, rfl, rfl, rfl, wx0⟩ := open_int Tryd.underlying3 (hval 0 3 v0 rfl rfl) h0
  have bx0 := wf_bi64 wx0
  obtain ⟨xs1, hs1, hw1, hd1⟩ := open_slZ (E := (intE .i64)) Tryd.underlying35 (by kernel_rfl) (opens_int Tryd.underlying3) (hval 1 35 v1 rfl rfl) h1
  have hz1 : xs1.length * 8 ≤ 140737488351232 := sized_of hZ (j := 1) (t := 35) rfl rfl Tryd.underlying35 (by kernel_rfl) hd1
  obtain ⟨xs2, hs2, hw2, hd2⟩ := open_slZ (E := (intE .i64)) Tryd.underlying35 (by kernel_rfl) (opens_int Tryd.underlying3) (hval 2 35 v2 rfl rfl) h2
  have hz2 : xs2.length * 8 ≤ 140737488351232 := sized_of hZ (j := 2) (t := 35) rfl rfl Tryd.underlying35 (by kernel_rfl) hd2
  obtain ⟨xs3, hs3, hw3, hd3⟩ := open_slZ (E := (intE .i64)) Tryd.underlying36 (by kernel_rfl) (opens_int Tryd.underlying2) (hval 3 36 v3 rfl rfl) h3
  have hz3 : xs3.length * 8 ≤ 140737488351232 := sized_of hZ (j := 3) (t := 36) rfl rfl Tryd.underlying36 (by kernel_rfl) hd3
  refine (c_SegmentTwo (w0 := W) (nid := x0) (v_a := v1) (a := xs1) (h_a := hs1) (v_b := v2) (b := xs2) (h_b := hs2) (v_values := v3) (values := xs3) (h_values := hs3) (hv := by exact fun v h => i64R_of (hw3 v h)) (ha_ := by exact fun v h => i64R_of (hw1 v h)) (hb_ := by exact fun v h => i64R_of (hw2 v h)) (hla := by exact hz1) (hlb := by exact hz2) (nid0 := by omega) (nid1 := by omega)).mono fun e W' ⟨he, hst⟩ => ⟨_, he, ?_⟩
  exact law_post (s := Rows.segmentTwoSpec) Tryd.laidOut (by kernel_rfl) rfl Tryd.underlying4 rfl ⟨rfl, rfl, rfl⟩ hW hst.below
theorem segmentTwo_row : Rows.SegmentTwoSaid :=
  OpenClaim.holds_of_wide 6 Tryd.f6 rfl rfl rfl rfl rfl rfl rfl ⟨rfl, rfl, rfl, rfl, rfl⟩ rfl rfl rfl rfl rfl (by kernel_rfl) Tryd.func6 (by kernel_rfl)
    (of_decide_eq_true (by kernel_rfl)) (by unfold Func.isWrapper; rw [if_neg (of_decide_eq_false (by kernel_rfl))]; exact ⟨rfl, rfl⟩)
    (fun os started H enc _ => segmentTwo_lifted os started H enc)
theorem segmentTwo_holds : Rows.SegmentTwoCardSaid :=
  Claim7.holds_tied_plain_at .later [] [.data, .data, .data] true Rows.segmentTwoCard.stood.harness false
    segmentTwo_row (fun _ h => by cases h) (by kernel_rfl) (fun _ h => by cases h) segmentTwo_row_tie rfl ⟨rfl, rfl⟩ (by kernel_rfl) rfl
    (fun f fn hf hfn => by
      obtain rfl : f = 6 := Option.some.inj ((show Tryd.prog.funcNamed "twinkeep/twinkeeplaw8.SegmentTwo" = some 6 by kernel_rfl).symm.trans hf) |>.symm
      obtain rfl : fn = Tryd.f6 := (Option.some.inj (Tryd.func6.symm.trans hfn)).symm
      exact ⟨by kernel_rfl, fun j t ht => by
        rw [Tryd.params6] at ht
        have hm : t ∈ [3, 35, 35, 36] := by simpa using Array.mem_of_getElem? ht
        have hall : ([3, 35, 35, 36].all fun u => !Tryd.prog.wantsStandIn u) = true := by kernel_rfl
        exact (show Tryd.prog.wantsStandIn t = false by simpa using List.all_eq_true.1 hall t hm)⟩)
    (by kernel_rfl)
end Go.Proofs.YtgibfidebdgffaaDoor
