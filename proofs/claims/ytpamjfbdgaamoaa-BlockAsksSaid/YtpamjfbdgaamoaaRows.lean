/-
  No cell of these rows narrows 'for every input' (looked for: loops, veiled, ifaces, maps, wideKeys, modest, calm, conditions, laid).
  DERIVED. THE GIVEN ROWS OF THIS SEAT. 5 by the template 'for every input the law returns true; each argument reads behind the call as it read before'; 0 by the template 'total and deterministic' (their statements: YtpamjfbdgaamoaaTotals.lean).
  GIVEN WITH THE SEED: the statements are not yours to turn. If you find one false, say at which input.
  Laid BY PROGRAM, IN A SANDBOX (cutbox-rows.mjs): the forced cells as the released guide's own fill.sh prints them over the translation 757a7c3103953fbc… (all of the seat's roots in one cut). By AI agents, Wed Nov 11 2026. No macro, syntax, notation, axiom, sorry.
-/
import Derived.Test.YtpamjfbdgaamoaaChecked
import GoSem.Claim
import GoSem.ClaimJoined
import GoSem.ClaimMapViews
import Derived.JoinedTies
import Derived.KernelRfl
namespace Go.Proofs.Ytpamjfbdgaamoaa
/- THE CELL 'sum', in the pinned program and in every row, IS THE sha256 OF THE DUMP (.gsa) THAT YtpamjfbdgaamoaaProg.lean LOADS. Nothing in Lean hashes anything: it is a label: what it is worth is what the hold of that sum in a sandbox is worth. -/
noncomputable def Try.pinned : Pinned := { name := "ytpamjfbdgaamoaa", sum := "757a7c3103953fbc8e2680518ed7b99d695a31df94e06df312d30ada40e66e37", checked := Try.checked }
namespace Rows
def none {H : Type} : Left H := { results := [], args := [] }

/-- 'twinkeeplaw6.BlockAsks': WHATEVER THE INPUT: true; the input reads as it did. -/
def blockAsksSpec : ChangeSpec := { name := "blockAsks", fn := fun _ => fun
  | [d1, d2, d3, d4] => { results := [.lit (.bool true)], args := [d1, d2, d3, d4] }
  | _ => none }
def blockAsksRow : OpenClaim := { program := "ytpamjfbdgaamoaa", sum := "757a7c3103953fbc8e2680518ed7b99d695a31df94e06df312d30ada40e66e37", func := "twinkeep/twinkeeplaw6.BlockAsks", spec := "blockAsks", unfollowed := true, recurses := true, apart := false }
def BlockAsksSaid : Prop := blockAsksRow.holds Try.pinned (OpenSpec.ofChange blockAsksSpec)

/-- ITS FALSE NEIGHBOUR: 'it returns false'. Refute it at one input. -/
def blockAsksWrong : ChangeSpec := { name := "blockAsks", fn := fun _ => fun
  | [d1, d2, d3, d4] => { results := [.lit (.bool false)], args := [d1, d2, d3, d4] }
  | _ => none }
def BlockAsksWrongFalsely : Prop := blockAsksRow.holds Try.pinned (OpenSpec.ofChange blockAsksWrong)

/-- 'twinkeeplaw6.BlockBack': WHATEVER THE INPUT: true; the input reads as it did. -/
def blockBackSpec : ChangeSpec := { name := "blockBack", fn := fun _ => fun
  | [d1, d2, d3, d4] => { results := [.lit (.bool true)], args := [d1, d2, d3, d4] }
  | _ => none }
def blockBackRow : OpenClaim := { program := "ytpamjfbdgaamoaa", sum := "757a7c3103953fbc8e2680518ed7b99d695a31df94e06df312d30ada40e66e37", func := "twinkeep/twinkeeplaw6.BlockBack", spec := "blockBack", unfollowed := true, recurses := true, apart := false }
def BlockBackSaid : Prop := blockBackRow.holds Try.pinned (OpenSpec.ofChange blockBackSpec)

/-- ITS FALSE NEIGHBOUR: 'it returns false'. Refute it at one input. -/
def blockBackWrong : ChangeSpec := { name := "blockBack", fn := fun _ => fun
  | [d1, d2, d3, d4] => { results := [.lit (.bool false)], args := [d1, d2, d3, d4] }
  | _ => none }
def BlockBackWrongFalsely : Prop := blockBackRow.holds Try.pinned (OpenSpec.ofChange blockBackWrong)

/-- 'twinkeeplaw6.BlockSteady': WHATEVER THE INPUT: true; the input reads as it did. -/
def blockSteadySpec : ChangeSpec := { name := "blockSteady", fn := fun _ => fun
  | [d1, d2, d3] => { results := [.lit (.bool true)], args := [d1, d2, d3] }
  | _ => none }
def blockSteadyRow : OpenClaim := { program := "ytpamjfbdgaamoaa", sum := "757a7c3103953fbc8e2680518ed7b99d695a31df94e06df312d30ada40e66e37", func := "twinkeep/twinkeeplaw6.BlockSteady", spec := "blockSteady", unfollowed := true, recurses := true, apart := false }
def BlockSteadySaid : Prop := blockSteadyRow.holds Try.pinned (OpenSpec.ofChange blockSteadySpec)

/-- ITS FALSE NEIGHBOUR: 'it returns false'. Refute it at one input. -/
def blockSteadyWrong : ChangeSpec := { name := "blockSteady", fn := fun _ => fun
  | [d1, d2, d3] => { results := [.lit (.bool false)], args := [d1, d2, d3] }
  | _ => none }
def BlockSteadyWrongFalsely : Prop := blockSteadyRow.holds Try.pinned (OpenSpec.ofChange blockSteadyWrong)

/-- 'twinkeeplaw6.BlockReads': WHATEVER THE INPUT: true; the input reads as it did. -/
def blockReadsSpec : ChangeSpec := { name := "blockReads", fn := fun _ => fun
  | [d1, d2] => { results := [.lit (.bool true)], args := [d1, d2] }
  | _ => none }
def blockReadsRow : OpenClaim := { program := "ytpamjfbdgaamoaa", sum := "757a7c3103953fbc8e2680518ed7b99d695a31df94e06df312d30ada40e66e37", func := "twinkeep/twinkeeplaw6.BlockReads", spec := "blockReads", unfollowed := true, recurses := true, apart := false }
def BlockReadsSaid : Prop := blockReadsRow.holds Try.pinned (OpenSpec.ofChange blockReadsSpec)

/-- ITS FALSE NEIGHBOUR: 'it returns false'. Refute it at one input. -/
def blockReadsWrong : ChangeSpec := { name := "blockReads", fn := fun _ => fun
  | [d1, d2] => { results := [.lit (.bool false)], args := [d1, d2] }
  | _ => none }
def BlockReadsWrongFalsely : Prop := blockReadsRow.holds Try.pinned (OpenSpec.ofChange blockReadsWrong)

/-- 'twinkeeplaw6.BlockBounds': WHATEVER THE INPUT: true; the input reads as it did. -/
def blockBoundsSpec : ChangeSpec := { name := "blockBounds", fn := fun _ => fun
  | [d1, d2] => { results := [.lit (.bool true)], args := [d1, d2] }
  | _ => none }
def blockBoundsRow : OpenClaim := { program := "ytpamjfbdgaamoaa", sum := "757a7c3103953fbc8e2680518ed7b99d695a31df94e06df312d30ada40e66e37", func := "twinkeep/twinkeeplaw6.BlockBounds", spec := "blockBounds", unfollowed := true, recurses := true, apart := false }
def BlockBoundsSaid : Prop := blockBoundsRow.holds Try.pinned (OpenSpec.ofChange blockBoundsSpec)

/-- ITS FALSE NEIGHBOUR: 'it returns false'. Refute it at one input. -/
def blockBoundsWrong : ChangeSpec := { name := "blockBounds", fn := fun _ => fun
  | [d1, d2] => { results := [.lit (.bool false)], args := [d1, d2] }
  | _ => none }
def BlockBoundsWrongFalsely : Prop := blockBoundsRow.holds Try.pinned (OpenSpec.ofChange blockBoundsWrong)

/- THE SECOND FORM. 'bulk': how many values and letters a reading holds, each counted each time it is reached (what is shared counts as often as it is met; a slice's spare places count too). A statement '..UptoSaid' is the law's where the arguments, and the package variables that the reading takes, are together of bulk at most 1048576: NARROWER than '..Said'. Prove '..Said' where nothing that the law and all that it calls make is longer than what came in: it says more and counts as full. Else prove '..UptoSaid'. A law counts once. -/
mutual
def uptoBulk {H : Type} : DataW H → Nat
  | .lit (.string bytes) => bytes.length + 1
  | .lit _ => 1
  | .nil => 1
  | .ptr d => uptoBulk d + 1
  | .slice elems spare => uptoBulkAll elems + uptoBulkAll spare + 1
  | .agg parts => uptoBulkAll parts + 1
  | .iface _ d => uptoBulk d + 1
  | .map entries => uptoBulkEntries entries + 1
  | .held _ => 1
def uptoBulkAll {H : Type} : List (DataW H) → Nat
  | [] => 0
  | d :: r => uptoBulk d + uptoBulkAll r
def uptoBulkEntries {H : Type} : List (Lit × DataW H) → Nat
  | [] => 0
  | x :: r => uptoBulkEntry x + uptoBulkEntries r
def uptoBulkEntry {H : Type} : Lit × DataW H → Nat
  | (.string bytes, d) => bytes.length + uptoBulk d + 1
  | (_, d) => uptoBulk d + 1
 end
def uptoSmall : (H : Type) → List (DataW H) → Bool := fun _ ds => decide (uptoBulkAll ds ≤ 1048576)
def OpenSpec.upto (s : _root_.Go.ChangeSpec) : _root_.Go.OpenSpec := { _root_.Go.OpenSpec.ofChange s with cond := some uptoSmall }

/-- 'twinkeeplaw6.BlockAsks', WHERE WHAT IT READS IS OF BULK AT MOST 1048576: true; the input reads as it did. -/
def blockAsksUptoRow : OpenClaim := { program := "ytpamjfbdgaamoaa", sum := "757a7c3103953fbc8e2680518ed7b99d695a31df94e06df312d30ada40e66e37", func := "twinkeep/twinkeeplaw6.BlockAsks", spec := "blockAsks", unfollowed := true, recurses := true, apart := false, narrowed := true }
def BlockAsksUptoSaid : Prop := blockAsksUptoRow.holds Try.pinned (OpenSpec.upto blockAsksSpec)

/-- 'twinkeeplaw6.BlockBack', WHERE WHAT IT READS IS OF BULK AT MOST 1048576: true; the input reads as it did. -/
def blockBackUptoRow : OpenClaim := { program := "ytpamjfbdgaamoaa", sum := "757a7c3103953fbc8e2680518ed7b99d695a31df94e06df312d30ada40e66e37", func := "twinkeep/twinkeeplaw6.BlockBack", spec := "blockBack", unfollowed := true, recurses := true, apart := false, narrowed := true }
def BlockBackUptoSaid : Prop := blockBackUptoRow.holds Try.pinned (OpenSpec.upto blockBackSpec)

/-- 'twinkeeplaw6.BlockSteady', WHERE WHAT IT READS IS OF BULK AT MOST 1048576: true; the input reads as it did. -/
def blockSteadyUptoRow : OpenClaim := { program := "ytpamjfbdgaamoaa", sum := "757a7c3103953fbc8e2680518ed7b99d695a31df94e06df312d30ada40e66e37", func := "twinkeep/twinkeeplaw6.BlockSteady", spec := "blockSteady", unfollowed := true, recurses := true, apart := false, narrowed := true }
def BlockSteadyUptoSaid : Prop := blockSteadyUptoRow.holds Try.pinned (OpenSpec.upto blockSteadySpec)

/-- 'twinkeeplaw6.BlockReads', WHERE WHAT IT READS IS OF BULK AT MOST 1048576: true; the input reads as it did. -/
def blockReadsUptoRow : OpenClaim := { program := "ytpamjfbdgaamoaa", sum := "757a7c3103953fbc8e2680518ed7b99d695a31df94e06df312d30ada40e66e37", func := "twinkeep/twinkeeplaw6.BlockReads", spec := "blockReads", unfollowed := true, recurses := true, apart := false, narrowed := true }
def BlockReadsUptoSaid : Prop := blockReadsUptoRow.holds Try.pinned (OpenSpec.upto blockReadsSpec)

/-- 'twinkeeplaw6.BlockBounds', WHERE WHAT IT READS IS OF BULK AT MOST 1048576: true; the input reads as it did. -/
def blockBoundsUptoRow : OpenClaim := { program := "ytpamjfbdgaamoaa", sum := "757a7c3103953fbc8e2680518ed7b99d695a31df94e06df312d30ada40e66e37", func := "twinkeep/twinkeeplaw6.BlockBounds", spec := "blockBounds", unfollowed := true, recurses := true, apart := false, narrowed := true }
def BlockBoundsUptoSaid : Prop := blockBoundsUptoRow.holds Try.pinned (OpenSpec.upto blockBoundsSpec)

end Rows
end Go.Proofs.Ytpamjfbdgaamoaa
