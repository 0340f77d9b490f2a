/-
  No cell of these rows narrows 'for every input' (looked for: loops, veiled, ifaces, maps, wideKeys, modest, calm, conditions, laid).
  DERIVED. THE GIVEN ROWS OF THIS SEAT. 11 by the template 'for every input the law returns true; each argument reads behind the call as it read before'; 0 by the template 'total and deterministic' (their statements: YtffnhcioponbbaaTotals.lean).
  GIVEN WITH THE SEED: the statements are not yours to turn. If you find one false, say at which input.
  Laid BY PROGRAM, IN A SANDBOX (cutbox-rows.mjs): the forced cells as the released guide's own fill.sh prints them over the translation e6374565e9071de0… (all of the seat's roots in one cut). By AI agents, Wed Nov 11 2026. No macro, syntax, notation, axiom, sorry.
-/
import Derived.Test.YtffnhcioponbbaaChecked
import GoSem.Claim
import GoSem.ClaimJoined
import GoSem.ClaimMapViews
import Derived.JoinedTies
import Derived.KernelRfl
namespace Go.Proofs.Ytffnhcioponbbaa
/- THE CELL 'sum', in the pinned program and in every row, IS THE sha256 OF THE DUMP (.gsa) THAT YtffnhcioponbbaaProg.lean LOADS. Nothing in Lean hashes anything: it is a label: what it is worth is what the hold of that sum in a sandbox is worth. -/
noncomputable def Try.pinned : Pinned := { name := "ytffnhcioponbbaa", sum := "e6374565e9071de0268d9c3e2a019a0287d0818c48c48627161c136fab7ec507", checked := Try.checked }
namespace Rows
def none {H : Type} : Left H := { results := [], args := [] }

/-- 'twinkeeplaw3.FoldParts': WHATEVER THE INPUT: true; the input reads as it did. -/
def foldPartsSpec : ChangeSpec := { name := "foldParts", fn := fun _ => fun
  | [d1, d2] => { results := [.lit (.bool true)], args := [d1, d2] }
  | _ => none }
def foldPartsRow : OpenClaim := { program := "ytffnhcioponbbaa", sum := "e6374565e9071de0268d9c3e2a019a0287d0818c48c48627161c136fab7ec507", func := "twinkeep/twinkeeplaw3.FoldParts", spec := "foldParts", apart := false }
def FoldPartsSaid : Prop := foldPartsRow.holds Try.pinned (OpenSpec.ofChange foldPartsSpec)

/-- ITS FALSE NEIGHBOUR: 'it returns false'. Refute it at one input. -/
def foldPartsWrong : ChangeSpec := { name := "foldParts", fn := fun _ => fun
  | [d1, d2] => { results := [.lit (.bool false)], args := [d1, d2] }
  | _ => none }
def FoldPartsWrongFalsely : Prop := foldPartsRow.holds Try.pinned (OpenSpec.ofChange foldPartsWrong)

/-- 'twinkeeplaw3.FoldBounds': WHATEVER THE INPUT: true; the input reads as it did. -/
def foldBoundsSpec : ChangeSpec := { name := "foldBounds", fn := fun _ => fun
  | [d] => { results := [.lit (.bool true)], args := [d] }
  | _ => none }
def foldBoundsRow : OpenClaim := { program := "ytffnhcioponbbaa", sum := "e6374565e9071de0268d9c3e2a019a0287d0818c48c48627161c136fab7ec507", func := "twinkeep/twinkeeplaw3.FoldBounds", spec := "foldBounds", apart := false }
def FoldBoundsSaid : Prop := foldBoundsRow.holds Try.pinned (OpenSpec.ofChange foldBoundsSpec)

/-- ITS FALSE NEIGHBOUR: 'it returns false'. Refute it at one input. -/
def foldBoundsWrong : ChangeSpec := { name := "foldBounds", fn := fun _ => fun
  | [d] => { results := [.lit (.bool false)], args := [d] }
  | _ => none }
def FoldBoundsWrongFalsely : Prop := foldBoundsRow.holds Try.pinned (OpenSpec.ofChange foldBoundsWrong)

/-- 'twinkeeplaw3.FoldAdds': WHATEVER THE INPUT: true; the input reads as it did. -/
def foldAddsSpec : ChangeSpec := { name := "foldAdds", fn := fun _ => fun
  | [d1, d2] => { results := [.lit (.bool true)], args := [d1, d2] }
  | _ => none }
def foldAddsRow : OpenClaim := { program := "ytffnhcioponbbaa", sum := "e6374565e9071de0268d9c3e2a019a0287d0818c48c48627161c136fab7ec507", func := "twinkeep/twinkeeplaw3.FoldAdds", spec := "foldAdds", apart := false }
def FoldAddsSaid : Prop := foldAddsRow.holds Try.pinned (OpenSpec.ofChange foldAddsSpec)

/-- ITS FALSE NEIGHBOUR: 'it returns false'. Refute it at one input. -/
def foldAddsWrong : ChangeSpec := { name := "foldAdds", fn := fun _ => fun
  | [d1, d2] => { results := [.lit (.bool false)], args := [d1, d2] }
  | _ => none }
def FoldAddsWrongFalsely : Prop := foldAddsRow.holds Try.pinned (OpenSpec.ofChange foldAddsWrong)

/-- 'twinkeeplaw3.FoldThrees': WHATEVER THE INPUT: true; the input reads as it did. -/
def foldThreesSpec : ChangeSpec := { name := "foldThrees", fn := fun _ => fun
  | [d1, d2, d3] => { results := [.lit (.bool true)], args := [d1, d2, d3] }
  | _ => none }
def foldThreesRow : OpenClaim := { program := "ytffnhcioponbbaa", sum := "e6374565e9071de0268d9c3e2a019a0287d0818c48c48627161c136fab7ec507", func := "twinkeep/twinkeeplaw3.FoldThrees", spec := "foldThrees", apart := false }
def FoldThreesSaid : Prop := foldThreesRow.holds Try.pinned (OpenSpec.ofChange foldThreesSpec)

/-- ITS FALSE NEIGHBOUR: 'it returns false'. Refute it at one input. -/
def foldThreesWrong : ChangeSpec := { name := "foldThrees", fn := fun _ => fun
  | [d1, d2, d3] => { results := [.lit (.bool false)], args := [d1, d2, d3] }
  | _ => none }
def FoldThreesWrongFalsely : Prop := foldThreesRow.holds Try.pinned (OpenSpec.ofChange foldThreesWrong)

/-- 'twinkeeplaw3.FoldOrder': WHATEVER THE INPUT: true; the input reads as it did. -/
def foldOrderSpec : ChangeSpec := { name := "foldOrder", fn := fun _ => fun
  | [d] => { results := [.lit (.bool true)], args := [d] }
  | _ => none }
def foldOrderRow : OpenClaim := { program := "ytffnhcioponbbaa", sum := "e6374565e9071de0268d9c3e2a019a0287d0818c48c48627161c136fab7ec507", func := "twinkeep/twinkeeplaw3.FoldOrder", spec := "foldOrder", apart := false }
def FoldOrderSaid : Prop := foldOrderRow.holds Try.pinned (OpenSpec.ofChange foldOrderSpec)

/-- ITS FALSE NEIGHBOUR: 'it returns false'. Refute it at one input. -/
def foldOrderWrong : ChangeSpec := { name := "foldOrder", fn := fun _ => fun
  | [d] => { results := [.lit (.bool false)], args := [d] }
  | _ => none }
def FoldOrderWrongFalsely : Prop := foldOrderRow.holds Try.pinned (OpenSpec.ofChange foldOrderWrong)

/-- 'twinkeeplaw4.TierWrong': WHATEVER THE INPUT: true; the input reads as it did. -/
def tierWrongSpec : ChangeSpec := { name := "tierWrong", fn := fun _ => fun
  | [d1, d2, d3] => { results := [.lit (.bool true)], args := [d1, d2, d3] }
  | _ => none }
def tierWrongRow : OpenClaim := { program := "ytffnhcioponbbaa", sum := "e6374565e9071de0268d9c3e2a019a0287d0818c48c48627161c136fab7ec507", func := "twinkeep/twinkeeplaw4.TierWrong", spec := "tierWrong", apart := false }
def TierWrongSaid : Prop := tierWrongRow.holds Try.pinned (OpenSpec.ofChange tierWrongSpec)

/-- ITS FALSE NEIGHBOUR: 'it returns false'. Refute it at one input. -/
def tierWrongWrong : ChangeSpec := { name := "tierWrong", fn := fun _ => fun
  | [d1, d2, d3] => { results := [.lit (.bool false)], args := [d1, d2, d3] }
  | _ => none }
def TierWrongWrongFalsely : Prop := tierWrongRow.holds Try.pinned (OpenSpec.ofChange tierWrongWrong)

/-- 'twinkeeplaw4.TierAsks': WHATEVER THE INPUT: true; the input reads as it did. -/
def tierAsksSpec : ChangeSpec := { name := "tierAsks", fn := fun _ => fun
  | [d1, d2, d3, d4] => { results := [.lit (.bool true)], args := [d1, d2, d3, d4] }
  | _ => none }
def tierAsksRow : OpenClaim := { program := "ytffnhcioponbbaa", sum := "e6374565e9071de0268d9c3e2a019a0287d0818c48c48627161c136fab7ec507", func := "twinkeep/twinkeeplaw4.TierAsks", spec := "tierAsks", apart := false }
def TierAsksSaid : Prop := tierAsksRow.holds Try.pinned (OpenSpec.ofChange tierAsksSpec)

/-- ITS FALSE NEIGHBOUR: 'it returns false'. Refute it at one input. -/
def tierAsksWrong : ChangeSpec := { name := "tierAsks", fn := fun _ => fun
  | [d1, d2, d3, d4] => { results := [.lit (.bool false)], args := [d1, d2, d3, d4] }
  | _ => none }
def TierAsksWrongFalsely : Prop := tierAsksRow.holds Try.pinned (OpenSpec.ofChange tierAsksWrong)

/-- 'twinkeeplaw4.TierMakes': WHATEVER THE INPUT: true; the input reads as it did. -/
def tierMakesSpec : ChangeSpec := { name := "tierMakes", fn := fun _ => fun
  | [d1, d2] => { results := [.lit (.bool true)], args := [d1, d2] }
  | _ => none }
def tierMakesRow : OpenClaim := { program := "ytffnhcioponbbaa", sum := "e6374565e9071de0268d9c3e2a019a0287d0818c48c48627161c136fab7ec507", func := "twinkeep/twinkeeplaw4.TierMakes", spec := "tierMakes", apart := false }
def TierMakesSaid : Prop := tierMakesRow.holds Try.pinned (OpenSpec.ofChange tierMakesSpec)

/-- ITS FALSE NEIGHBOUR: 'it returns false'. Refute it at one input. -/
def tierMakesWrong : ChangeSpec := { name := "tierMakes", fn := fun _ => fun
  | [d1, d2] => { results := [.lit (.bool false)], args := [d1, d2] }
  | _ => none }
def TierMakesWrongFalsely : Prop := tierMakesRow.holds Try.pinned (OpenSpec.ofChange tierMakesWrong)

/-- 'twinkeeplaw4.TierSteps': WHATEVER THE INPUT: true; the input reads as it did. -/
def tierStepsSpec : ChangeSpec := { name := "tierSteps", fn := fun _ => fun
  | [d1, d2] => { results := [.lit (.bool true)], args := [d1, d2] }
  | _ => none }
def tierStepsRow : OpenClaim := { program := "ytffnhcioponbbaa", sum := "e6374565e9071de0268d9c3e2a019a0287d0818c48c48627161c136fab7ec507", func := "twinkeep/twinkeeplaw4.TierSteps", spec := "tierSteps", apart := false }
def TierStepsSaid : Prop := tierStepsRow.holds Try.pinned (OpenSpec.ofChange tierStepsSpec)

/-- ITS FALSE NEIGHBOUR: 'it returns false'. Refute it at one input. -/
def tierStepsWrong : ChangeSpec := { name := "tierSteps", fn := fun _ => fun
  | [d1, d2] => { results := [.lit (.bool false)], args := [d1, d2] }
  | _ => none }
def TierStepsWrongFalsely : Prop := tierStepsRow.holds Try.pinned (OpenSpec.ofChange tierStepsWrong)

/-- 'twinkeeplaw4.TierCounts': WHATEVER THE INPUT: true; the input reads as it did. -/
def tierCountsSpec : ChangeSpec := { name := "tierCounts", fn := fun _ => fun
  | [d1, d2, d3] => { results := [.lit (.bool true)], args := [d1, d2, d3] }
  | _ => none }
def tierCountsRow : OpenClaim := { program := "ytffnhcioponbbaa", sum := "e6374565e9071de0268d9c3e2a019a0287d0818c48c48627161c136fab7ec507", func := "twinkeep/twinkeeplaw4.TierCounts", spec := "tierCounts", apart := false }
def TierCountsSaid : Prop := tierCountsRow.holds Try.pinned (OpenSpec.ofChange tierCountsSpec)

/-- ITS FALSE NEIGHBOUR: 'it returns false'. Refute it at one input. -/
def tierCountsWrong : ChangeSpec := { name := "tierCounts", fn := fun _ => fun
  | [d1, d2, d3] => { results := [.lit (.bool false)], args := [d1, d2, d3] }
  | _ => none }
def TierCountsWrongFalsely : Prop := tierCountsRow.holds Try.pinned (OpenSpec.ofChange tierCountsWrong)

/-- 'twinkeeplaw4.TierFloors': WHATEVER THE INPUT: true; the input reads as it did. -/
def tierFloorsSpec : ChangeSpec := { name := "tierFloors", fn := fun _ => fun
  | [d1, d2] => { results := [.lit (.bool true)], args := [d1, d2] }
  | _ => none }
def tierFloorsRow : OpenClaim := { program := "ytffnhcioponbbaa", sum := "e6374565e9071de0268d9c3e2a019a0287d0818c48c48627161c136fab7ec507", func := "twinkeep/twinkeeplaw4.TierFloors", spec := "tierFloors", apart := false }
def TierFloorsSaid : Prop := tierFloorsRow.holds Try.pinned (OpenSpec.ofChange tierFloorsSpec)

/-- ITS FALSE NEIGHBOUR: 'it returns false'. Refute it at one input. -/
def tierFloorsWrong : ChangeSpec := { name := "tierFloors", fn := fun _ => fun
  | [d1, d2] => { results := [.lit (.bool false)], args := [d1, d2] }
  | _ => none }
def TierFloorsWrongFalsely : Prop := tierFloorsRow.holds Try.pinned (OpenSpec.ofChange tierFloorsWrong)

/- THE SECOND FORM. 'bulk': how many values and letters a reading holds, each counted each time it is reached (what is shared counts as often as it is met; a slice's spare places count too). A statement '..UptoSaid' is the law's where the arguments, and the package variables that the reading takes, are together of bulk at most 1048576: NARROWER than '..Said'. Prove '..Said' where nothing that the law and all that it calls make is longer than what came in: it says more and counts as full. Else prove '..UptoSaid'. A law counts once. -/
mutual
def uptoBulk {H : Type} : DataW H → Nat
  | .lit (.string bytes) => bytes.length + 1
  | .lit _ => 1
  | .nil => 1
  | .ptr d => uptoBulk d + 1
  | .slice elems spare => uptoBulkAll elems + uptoBulkAll spare + 1
  | .agg parts => uptoBulkAll parts + 1
  | .iface _ d => uptoBulk d + 1
  | .map entries => uptoBulkEntries entries + 1
  | .held _ => 1
def uptoBulkAll {H : Type} : List (DataW H) → Nat
  | [] => 0
  | d :: r => uptoBulk d + uptoBulkAll r
def uptoBulkEntries {H : Type} : List (Lit × DataW H) → Nat
  | [] => 0
  | x :: r => uptoBulkEntry x + uptoBulkEntries r
def uptoBulkEntry {H : Type} : Lit × DataW H → Nat
  | (.string bytes, d) => bytes.length + uptoBulk d + 1
  | (_, d) => uptoBulk d + 1
 end
def uptoSmall : (H : Type) → List (DataW H) → Bool := fun _ ds => decide (uptoBulkAll ds ≤ 1048576)
def OpenSpec.upto (s : _root_.Go.ChangeSpec) : _root_.Go.OpenSpec := { _root_.Go.OpenSpec.ofChange s with cond := some uptoSmall }

/-- 'twinkeeplaw3.FoldParts', WHERE WHAT IT READS IS OF BULK AT MOST 1048576: true; the input reads as it did. -/
def foldPartsUptoRow : OpenClaim := { program := "ytffnhcioponbbaa", sum := "e6374565e9071de0268d9c3e2a019a0287d0818c48c48627161c136fab7ec507", func := "twinkeep/twinkeeplaw3.FoldParts", spec := "foldParts", apart := false, narrowed := true }
def FoldPartsUptoSaid : Prop := foldPartsUptoRow.holds Try.pinned (OpenSpec.upto foldPartsSpec)

/-- 'twinkeeplaw3.FoldBounds', WHERE WHAT IT READS IS OF BULK AT MOST 1048576: true; the input reads as it did. -/
def foldBoundsUptoRow : OpenClaim := { program := "ytffnhcioponbbaa", sum := "e6374565e9071de0268d9c3e2a019a0287d0818c48c48627161c136fab7ec507", func := "twinkeep/twinkeeplaw3.FoldBounds", spec := "foldBounds", apart := false, narrowed := true }
def FoldBoundsUptoSaid : Prop := foldBoundsUptoRow.holds Try.pinned (OpenSpec.upto foldBoundsSpec)

/-- 'twinkeeplaw3.FoldAdds', WHERE WHAT IT READS IS OF BULK AT MOST 1048576: true; the input reads as it did. -/
def foldAddsUptoRow : OpenClaim := { program := "ytffnhcioponbbaa", sum := "e6374565e9071de0268d9c3e2a019a0287d0818c48c48627161c136fab7ec507", func := "twinkeep/twinkeeplaw3.FoldAdds", spec := "foldAdds", apart := false, narrowed := true }
def FoldAddsUptoSaid : Prop := foldAddsUptoRow.holds Try.pinned (OpenSpec.upto foldAddsSpec)

/-- 'twinkeeplaw3.FoldThrees', WHERE WHAT IT READS IS OF BULK AT MOST 1048576: true; the input reads as it did. -/
def foldThreesUptoRow : OpenClaim := { program := "ytffnhcioponbbaa", sum := "e6374565e9071de0268d9c3e2a019a0287d0818c48c48627161c136fab7ec507", func := "twinkeep/twinkeeplaw3.FoldThrees", spec := "foldThrees", apart := false, narrowed := true }
def FoldThreesUptoSaid : Prop := foldThreesUptoRow.holds Try.pinned (OpenSpec.upto foldThreesSpec)

/-- 'twinkeeplaw3.FoldOrder', WHERE WHAT IT READS IS OF BULK AT MOST 1048576: true; the input reads as it did. -/
def foldOrderUptoRow : OpenClaim := { program := "ytffnhcioponbbaa", sum := "e6374565e9071de0268d9c3e2a019a0287d0818c48c48627161c136fab7ec507", func := "twinkeep/twinkeeplaw3.FoldOrder", spec := "foldOrder", apart := false, narrowed := true }
def FoldOrderUptoSaid : Prop := foldOrderUptoRow.holds Try.pinned (OpenSpec.upto foldOrderSpec)

/-- 'twinkeeplaw4.TierWrong', WHERE WHAT IT READS IS OF BULK AT MOST 1048576: true; the input reads as it did. -/
def tierWrongUptoRow : OpenClaim := { program := "ytffnhcioponbbaa", sum := "e6374565e9071de0268d9c3e2a019a0287d0818c48c48627161c136fab7ec507", func := "twinkeep/twinkeeplaw4.TierWrong", spec := "tierWrong", apart := false, narrowed := true }
def TierWrongUptoSaid : Prop := tierWrongUptoRow.holds Try.pinned (OpenSpec.upto tierWrongSpec)

/-- 'twinkeeplaw4.TierAsks', WHERE WHAT IT READS IS OF BULK AT MOST 1048576: true; the input reads as it did. -/
def tierAsksUptoRow : OpenClaim := { program := "ytffnhcioponbbaa", sum := "e6374565e9071de0268d9c3e2a019a0287d0818c48c48627161c136fab7ec507", func := "twinkeep/twinkeeplaw4.TierAsks", spec := "tierAsks", apart := false, narrowed := true }
def TierAsksUptoSaid : Prop := tierAsksUptoRow.holds Try.pinned (OpenSpec.upto tierAsksSpec)

/-- 'twinkeeplaw4.TierMakes', WHERE WHAT IT READS IS OF BULK AT MOST 1048576: true; the input reads as it did. -/
def tierMakesUptoRow : OpenClaim := { program := "ytffnhcioponbbaa", sum := "e6374565e9071de0268d9c3e2a019a0287d0818c48c48627161c136fab7ec507", func := "twinkeep/twinkeeplaw4.TierMakes", spec := "tierMakes", apart := false, narrowed := true }
def TierMakesUptoSaid : Prop := tierMakesUptoRow.holds Try.pinned (OpenSpec.upto tierMakesSpec)

/-- 'twinkeeplaw4.TierSteps', WHERE WHAT IT READS IS OF BULK AT MOST 1048576: true; the input reads as it did. -/
def tierStepsUptoRow : OpenClaim := { program := "ytffnhcioponbbaa", sum := "e6374565e9071de0268d9c3e2a019a0287d0818c48c48627161c136fab7ec507", func := "twinkeep/twinkeeplaw4.TierSteps", spec := "tierSteps", apart := false, narrowed := true }
def TierStepsUptoSaid : Prop := tierStepsUptoRow.holds Try.pinned (OpenSpec.upto tierStepsSpec)

/-- 'twinkeeplaw4.TierCounts', WHERE WHAT IT READS IS OF BULK AT MOST 1048576: true; the input reads as it did. -/
def tierCountsUptoRow : OpenClaim := { program := "ytffnhcioponbbaa", sum := "e6374565e9071de0268d9c3e2a019a0287d0818c48c48627161c136fab7ec507", func := "twinkeep/twinkeeplaw4.TierCounts", spec := "tierCounts", apart := false, narrowed := true }
def TierCountsUptoSaid : Prop := tierCountsUptoRow.holds Try.pinned (OpenSpec.upto tierCountsSpec)

/-- 'twinkeeplaw4.TierFloors', WHERE WHAT IT READS IS OF BULK AT MOST 1048576: true; the input reads as it did. -/
def tierFloorsUptoRow : OpenClaim := { program := "ytffnhcioponbbaa", sum := "e6374565e9071de0268d9c3e2a019a0287d0818c48c48627161c136fab7ec507", func := "twinkeep/twinkeeplaw4.TierFloors", spec := "tierFloors", apart := false, narrowed := true }
def TierFloorsUptoSaid : Prop := tierFloorsUptoRow.holds Try.pinned (OpenSpec.upto tierFloorsSpec)

end Rows
end Go.Proofs.Ytffnhcioponbbaa
