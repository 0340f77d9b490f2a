/-
  No cell of these rows narrows 'for every input' (looked for: loops, veiled, ifaces, maps, wideKeys, modest, calm, conditions, laid).
  DERIVED. THE GIVEN ROWS OF THIS SEAT. 5 by the template 'for every input the law returns true; each argument reads behind the call as it read before'; 0 by the template 'total and deterministic' (their statements: YtfljkaigfmedeaaTotals.lean).
  GIVEN WITH THE SEED: the statements are not yours to turn. If you find one false, say at which input.
  Laid BY PROGRAM, IN A SANDBOX (cutbox-rows.mjs): the forced cells as the released guide's own fill.sh prints them over the translation cb54bec6e6a1b76b… (all of the seat's roots in one cut). By AI agents, Wed Nov 11 2026. No macro, syntax, notation, axiom, sorry.
-/
import Derived.Test.YtfljkaigfmedeaaChecked
import GoSem.Claim
import GoSem.ClaimJoined
import GoSem.ClaimMapViews
import Derived.JoinedTies
import Derived.KernelRfl
namespace Go.Proofs.Ytfljkaigfmedeaa
/- THE CELL 'sum', in the pinned program and in every row, IS THE sha256 OF THE DUMP (.gsa) THAT YtfljkaigfmedeaaProg.lean LOADS. Nothing in Lean hashes anything: it is a label: what it is worth is what the hold of that sum in a sandbox is worth. -/
noncomputable def Try.pinned : Pinned := { name := "ytfljkaigfmedeaa", sum := "cb54bec6e6a1b76b44350fce6af933d7e713e1ab2bcfcea76cabe6f6fc430f3a", checked := Try.checked }
namespace Rows
def none {H : Type} : Left H := { results := [], args := [] }

/-- 'twinkeeplaw13.FrameLong': WHATEVER THE INPUT: true; the input reads as it did. -/
def frameLongSpec : ChangeSpec := { name := "frameLong", fn := fun _ => fun
  | [d1, d2] => { results := [.lit (.bool true)], args := [d1, d2] }
  | _ => none }
def frameLongRow : OpenClaim := { program := "ytfljkaigfmedeaa", sum := "cb54bec6e6a1b76b44350fce6af933d7e713e1ab2bcfcea76cabe6f6fc430f3a", func := "twinkeep/twinkeeplaw13.FrameLong", spec := "frameLong", unfollowed := true, recurses := true, apart := false }
def FrameLongSaid : Prop := frameLongRow.holds Try.pinned (OpenSpec.ofChange frameLongSpec)

/-- ITS FALSE NEIGHBOUR: 'it returns false'. Refute it at one input. -/
def frameLongWrong : ChangeSpec := { name := "frameLong", fn := fun _ => fun
  | [d1, d2] => { results := [.lit (.bool false)], args := [d1, d2] }
  | _ => none }
def FrameLongWrongFalsely : Prop := frameLongRow.holds Try.pinned (OpenSpec.ofChange frameLongWrong)

/-- 'twinkeeplaw13.FrameAsks': WHATEVER THE INPUT: true; the input reads as it did. -/
def frameAsksSpec : ChangeSpec := { name := "frameAsks", fn := fun _ => fun
  | [d1, d2, d3] => { results := [.lit (.bool true)], args := [d1, d2, d3] }
  | _ => none }
def frameAsksRow : OpenClaim := { program := "ytfljkaigfmedeaa", sum := "cb54bec6e6a1b76b44350fce6af933d7e713e1ab2bcfcea76cabe6f6fc430f3a", func := "twinkeep/twinkeeplaw13.FrameAsks", spec := "frameAsks", unfollowed := true, recurses := true, apart := false }
def FrameAsksSaid : Prop := frameAsksRow.holds Try.pinned (OpenSpec.ofChange frameAsksSpec)

/-- ITS FALSE NEIGHBOUR: 'it returns false'. Refute it at one input. -/
def frameAsksWrong : ChangeSpec := { name := "frameAsks", fn := fun _ => fun
  | [d1, d2, d3] => { results := [.lit (.bool false)], args := [d1, d2, d3] }
  | _ => none }
def FrameAsksWrongFalsely : Prop := frameAsksRow.holds Try.pinned (OpenSpec.ofChange frameAsksWrong)

/-- 'twinkeeplaw13.FrameSpoilt': WHATEVER THE INPUT: true; the input reads as it did. -/
def frameSpoiltSpec : ChangeSpec := { name := "frameSpoilt", fn := fun _ => fun
  | [d1, d2, d3] => { results := [.lit (.bool true)], args := [d1, d2, d3] }
  | _ => none }
def frameSpoiltRow : OpenClaim := { program := "ytfljkaigfmedeaa", sum := "cb54bec6e6a1b76b44350fce6af933d7e713e1ab2bcfcea76cabe6f6fc430f3a", func := "twinkeep/twinkeeplaw13.FrameSpoilt", spec := "frameSpoilt", unfollowed := true, recurses := true, apart := false }
def FrameSpoiltSaid : Prop := frameSpoiltRow.holds Try.pinned (OpenSpec.ofChange frameSpoiltSpec)

/-- ITS FALSE NEIGHBOUR: 'it returns false'. Refute it at one input. -/
def frameSpoiltWrong : ChangeSpec := { name := "frameSpoilt", fn := fun _ => fun
  | [d1, d2, d3] => { results := [.lit (.bool false)], args := [d1, d2, d3] }
  | _ => none }
def FrameSpoiltWrongFalsely : Prop := frameSpoiltRow.holds Try.pinned (OpenSpec.ofChange frameSpoiltWrong)

/-- 'twinkeeplaw13.FrameKinds': WHATEVER THE INPUT: true; the input reads as it did. -/
def frameKindsSpec : ChangeSpec := { name := "frameKinds", fn := fun _ => fun
  | [d1, d2] => { results := [.lit (.bool true)], args := [d1, d2] }
  | _ => none }
def frameKindsRow : OpenClaim := { program := "ytfljkaigfmedeaa", sum := "cb54bec6e6a1b76b44350fce6af933d7e713e1ab2bcfcea76cabe6f6fc430f3a", func := "twinkeep/twinkeeplaw13.FrameKinds", spec := "frameKinds", unfollowed := true, recurses := true, apart := false }
def FrameKindsSaid : Prop := frameKindsRow.holds Try.pinned (OpenSpec.ofChange frameKindsSpec)

/-- ITS FALSE NEIGHBOUR: 'it returns false'. Refute it at one input. -/
def frameKindsWrong : ChangeSpec := { name := "frameKinds", fn := fun _ => fun
  | [d1, d2] => { results := [.lit (.bool false)], args := [d1, d2] }
  | _ => none }
def FrameKindsWrongFalsely : Prop := frameKindsRow.holds Try.pinned (OpenSpec.ofChange frameKindsWrong)

/-- 'twinkeeplaw13.FrameViews': WHATEVER THE INPUT: true; the input reads as it did. -/
def frameViewsSpec : ChangeSpec := { name := "frameViews", fn := fun _ => fun
  | [d1, d2] => { results := [.lit (.bool true)], args := [d1, d2] }
  | _ => none }
def frameViewsRow : OpenClaim := { program := "ytfljkaigfmedeaa", sum := "cb54bec6e6a1b76b44350fce6af933d7e713e1ab2bcfcea76cabe6f6fc430f3a", func := "twinkeep/twinkeeplaw13.FrameViews", spec := "frameViews", unfollowed := true, recurses := true, apart := false }
def FrameViewsSaid : Prop := frameViewsRow.holds Try.pinned (OpenSpec.ofChange frameViewsSpec)

/-- ITS FALSE NEIGHBOUR: 'it returns false'. Refute it at one input. -/
def frameViewsWrong : ChangeSpec := { name := "frameViews", fn := fun _ => fun
  | [d1, d2] => { results := [.lit (.bool false)], args := [d1, d2] }
  | _ => none }
def FrameViewsWrongFalsely : Prop := frameViewsRow.holds Try.pinned (OpenSpec.ofChange frameViewsWrong)

/- THE SECOND FORM. 'bulk': how many values and letters a reading holds, each counted each time it is reached (what is shared counts as often as it is met; a slice's spare places count too). A statement '..UptoSaid' is the law's where the arguments, and the package variables that the reading takes, are together of bulk at most 1048576: NARROWER than '..Said'. Prove '..Said' where nothing that the law and all that it calls make is longer than what came in: it says more and counts as full. Else prove '..UptoSaid'. A law counts once. -/
mutual
def uptoBulk {H : Type} : DataW H → Nat
  | .lit (.string bytes) => bytes.length + 1
  | .lit _ => 1
  | .nil => 1
  | .ptr d => uptoBulk d + 1
  | .slice elems spare => uptoBulkAll elems + uptoBulkAll spare + 1
  | .agg parts => uptoBulkAll parts + 1
  | .iface _ d => uptoBulk d + 1
  | .map entries => uptoBulkEntries entries + 1
  | .held _ => 1
def uptoBulkAll {H : Type} : List (DataW H) → Nat
  | [] => 0
  | d :: r => uptoBulk d + uptoBulkAll r
def uptoBulkEntries {H : Type} : List (Lit × DataW H) → Nat
  | [] => 0
  | x :: r => uptoBulkEntry x + uptoBulkEntries r
def uptoBulkEntry {H : Type} : Lit × DataW H → Nat
  | (.string bytes, d) => bytes.length + uptoBulk d + 1
  | (_, d) => uptoBulk d + 1
 end
def uptoSmall : (H : Type) → List (DataW H) → Bool := fun _ ds => decide (uptoBulkAll ds ≤ 1048576)
def OpenSpec.upto (s : _root_.Go.ChangeSpec) : _root_.Go.OpenSpec := { _root_.Go.OpenSpec.ofChange s with cond := some uptoSmall }

/-- 'twinkeeplaw13.FrameLong', WHERE WHAT IT READS IS OF BULK AT MOST 1048576: true; the input reads as it did. -/
def frameLongUptoRow : OpenClaim := { program := "ytfljkaigfmedeaa", sum := "cb54bec6e6a1b76b44350fce6af933d7e713e1ab2bcfcea76cabe6f6fc430f3a", func := "twinkeep/twinkeeplaw13.FrameLong", spec := "frameLong", unfollowed := true, recurses := true, apart := false, narrowed := true }
def FrameLongUptoSaid : Prop := frameLongUptoRow.holds Try.pinned (OpenSpec.upto frameLongSpec)

/-- 'twinkeeplaw13.FrameAsks', WHERE WHAT IT READS IS OF BULK AT MOST 1048576: true; the input reads as it did. -/
def frameAsksUptoRow : OpenClaim := { program := "ytfljkaigfmedeaa", sum := "cb54bec6e6a1b76b44350fce6af933d7e713e1ab2bcfcea76cabe6f6fc430f3a", func := "twinkeep/twinkeeplaw13.FrameAsks", spec := "frameAsks", unfollowed := true, recurses := true, apart := false, narrowed := true }
def FrameAsksUptoSaid : Prop := frameAsksUptoRow.holds Try.pinned (OpenSpec.upto frameAsksSpec)

/-- 'twinkeeplaw13.FrameSpoilt', WHERE WHAT IT READS IS OF BULK AT MOST 1048576: true; the input reads as it did. -/
def frameSpoiltUptoRow : OpenClaim := { program := "ytfljkaigfmedeaa", sum := "cb54bec6e6a1b76b44350fce6af933d7e713e1ab2bcfcea76cabe6f6fc430f3a", func := "twinkeep/twinkeeplaw13.FrameSpoilt", spec := "frameSpoilt", unfollowed := true, recurses := true, apart := false, narrowed := true }
def FrameSpoiltUptoSaid : Prop := frameSpoiltUptoRow.holds Try.pinned (OpenSpec.upto frameSpoiltSpec)

/-- 'twinkeeplaw13.FrameKinds', WHERE WHAT IT READS IS OF BULK AT MOST 1048576: true; the input reads as it did. -/
def frameKindsUptoRow : OpenClaim := { program := "ytfljkaigfmedeaa", sum := "cb54bec6e6a1b76b44350fce6af933d7e713e1ab2bcfcea76cabe6f6fc430f3a", func := "twinkeep/twinkeeplaw13.FrameKinds", spec := "frameKinds", unfollowed := true, recurses := true, apart := false, narrowed := true }
def FrameKindsUptoSaid : Prop := frameKindsUptoRow.holds Try.pinned (OpenSpec.upto frameKindsSpec)

/-- 'twinkeeplaw13.FrameViews', WHERE WHAT IT READS IS OF BULK AT MOST 1048576: true; the input reads as it did. -/
def frameViewsUptoRow : OpenClaim := { program := "ytfljkaigfmedeaa", sum := "cb54bec6e6a1b76b44350fce6af933d7e713e1ab2bcfcea76cabe6f6fc430f3a", func := "twinkeep/twinkeeplaw13.FrameViews", spec := "frameViews", unfollowed := true, recurses := true, apart := false, narrowed := true }
def FrameViewsUptoSaid : Prop := frameViewsUptoRow.holds Try.pinned (OpenSpec.upto frameViewsSpec)

end Rows
end Go.Proofs.Ytfljkaigfmedeaa
