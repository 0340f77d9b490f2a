/-
  No cell of these rows narrows 'for every input' (looked for: loops, veiled, ifaces, maps, wideKeys, modest, calm, conditions, laid).
  DERIVED. THE GIVEN ROWS OF THIS SEAT. 7 by the template 'for every input the law returns true; each argument reads behind the call as it read before'; 0 by the template 'total and deterministic' (their statements: YthanfecefjfbjaaTotals.lean).
  GIVEN WITH THE SEED: the statements are not yours to turn. If you find one false, say at which input.
  Laid BY PROGRAM, IN A SANDBOX (cutbox-rows.mjs): the forced cells as the released guide's own fill.sh prints them over the translation 7f42da285b8582e3… (all of the seat's roots in one cut). By AI agents, Wed Nov 11 2026. No macro, syntax, notation, axiom, sorry.
-/
import Derived.Test.YthanfecefjfbjaaChecked
import GoSem.Claim
import GoSem.ClaimJoined
import GoSem.ClaimMapViews
import Derived.JoinedTies
import Derived.KernelRfl
namespace Go.Proofs.Ythanfecefjfbjaa
/- THE CELL 'sum', in the pinned program and in every row, IS THE sha256 OF THE DUMP (.gsa) THAT YthanfecefjfbjaaProg.lean LOADS. Nothing in Lean hashes anything: it is a label: what it is worth is what the hold of that sum in a sandbox is worth. -/
noncomputable def Try.pinned : Pinned := { name := "ythanfecefjfbjaa", sum := "7f42da285b8582e3a2bd8d4e65248f7a955d57e7119299bf85df403ca236252d", checked := Try.checked }
namespace Rows
def none {H : Type} : Left H := { results := [], args := [] }

/-- 'twinkeeplaw22.AskAsks': WHATEVER THE INPUT: true; the input reads as it did. -/
def askAsksSpec : ChangeSpec := { name := "askAsks", fn := fun _ => fun
  | [d1, d2, d3, d4, d5, d6] => { results := [.lit (.bool true)], args := [d1, d2, d3, d4, d5, d6] }
  | _ => none }
def askAsksRow : OpenClaim := { program := "ythanfecefjfbjaa", sum := "7f42da285b8582e3a2bd8d4e65248f7a955d57e7119299bf85df403ca236252d", func := "twinkeep/twinkeeplaw22.AskAsks", spec := "askAsks", unfollowed := true, recurses := true, apart := false }
def AskAsksSaid : Prop := askAsksRow.holds Try.pinned (OpenSpec.ofChange askAsksSpec)

/-- ITS FALSE NEIGHBOUR: 'it returns false'. Refute it at one input. -/
def askAsksWrong : ChangeSpec := { name := "askAsks", fn := fun _ => fun
  | [d1, d2, d3, d4, d5, d6] => { results := [.lit (.bool false)], args := [d1, d2, d3, d4, d5, d6] }
  | _ => none }
def AskAsksWrongFalsely : Prop := askAsksRow.holds Try.pinned (OpenSpec.ofChange askAsksWrong)

/-- 'twinkeeplaw22.AskRows': WHATEVER THE INPUT: true; the input reads as it did. -/
def askRowsSpec : ChangeSpec := { name := "askRows", fn := fun _ => fun
  | [d1, d2, d3, d4, d5, d6] => { results := [.lit (.bool true)], args := [d1, d2, d3, d4, d5, d6] }
  | _ => none }
def askRowsRow : OpenClaim := { program := "ythanfecefjfbjaa", sum := "7f42da285b8582e3a2bd8d4e65248f7a955d57e7119299bf85df403ca236252d", func := "twinkeep/twinkeeplaw22.AskRows", spec := "askRows", unfollowed := true, recurses := true, apart := false }
def AskRowsSaid : Prop := askRowsRow.holds Try.pinned (OpenSpec.ofChange askRowsSpec)

/-- ITS FALSE NEIGHBOUR: 'it returns false'. Refute it at one input. -/
def askRowsWrong : ChangeSpec := { name := "askRows", fn := fun _ => fun
  | [d1, d2, d3, d4, d5, d6] => { results := [.lit (.bool false)], args := [d1, d2, d3, d4, d5, d6] }
  | _ => none }
def AskRowsWrongFalsely : Prop := askRowsRow.holds Try.pinned (OpenSpec.ofChange askRowsWrong)

/-- 'twinkeeplaw22.AskAll': WHATEVER THE INPUT: true; the input reads as it did. -/
def askAllSpec : ChangeSpec := { name := "askAll", fn := fun _ => fun
  | [d1, d2, d3, d4] => { results := [.lit (.bool true)], args := [d1, d2, d3, d4] }
  | _ => none }
def askAllRow : OpenClaim := { program := "ythanfecefjfbjaa", sum := "7f42da285b8582e3a2bd8d4e65248f7a955d57e7119299bf85df403ca236252d", func := "twinkeep/twinkeeplaw22.AskAll", spec := "askAll", unfollowed := true, recurses := true, apart := false }
def AskAllSaid : Prop := askAllRow.holds Try.pinned (OpenSpec.ofChange askAllSpec)

/-- ITS FALSE NEIGHBOUR: 'it returns false'. Refute it at one input. -/
def askAllWrong : ChangeSpec := { name := "askAll", fn := fun _ => fun
  | [d1, d2, d3, d4] => { results := [.lit (.bool false)], args := [d1, d2, d3, d4] }
  | _ => none }
def AskAllWrongFalsely : Prop := askAllRow.holds Try.pinned (OpenSpec.ofChange askAllWrong)

/-- 'twinkeeplaw22.AskFine': WHATEVER THE INPUT: true; the input reads as it did. -/
def askFineSpec : ChangeSpec := { name := "askFine", fn := fun _ => fun
  | [d1, d2, d3, d4, d5, d6] => { results := [.lit (.bool true)], args := [d1, d2, d3, d4, d5, d6] }
  | _ => none }
def askFineRow : OpenClaim := { program := "ythanfecefjfbjaa", sum := "7f42da285b8582e3a2bd8d4e65248f7a955d57e7119299bf85df403ca236252d", func := "twinkeep/twinkeeplaw22.AskFine", spec := "askFine", unfollowed := true, recurses := true, apart := false }
def AskFineSaid : Prop := askFineRow.holds Try.pinned (OpenSpec.ofChange askFineSpec)

/-- ITS FALSE NEIGHBOUR: 'it returns false'. Refute it at one input. -/
def askFineWrong : ChangeSpec := { name := "askFine", fn := fun _ => fun
  | [d1, d2, d3, d4, d5, d6] => { results := [.lit (.bool false)], args := [d1, d2, d3, d4, d5, d6] }
  | _ => none }
def AskFineWrongFalsely : Prop := askFineRow.holds Try.pinned (OpenSpec.ofChange askFineWrong)

/-- 'twinkeeplaw22.AskHead': WHATEVER THE INPUT: true; the input reads as it did. -/
def askHeadSpec : ChangeSpec := { name := "askHead", fn := fun _ => fun
  | [d1, d2, d3, d4] => { results := [.lit (.bool true)], args := [d1, d2, d3, d4] }
  | _ => none }
def askHeadRow : OpenClaim := { program := "ythanfecefjfbjaa", sum := "7f42da285b8582e3a2bd8d4e65248f7a955d57e7119299bf85df403ca236252d", func := "twinkeep/twinkeeplaw22.AskHead", spec := "askHead", unfollowed := true, recurses := true, apart := false }
def AskHeadSaid : Prop := askHeadRow.holds Try.pinned (OpenSpec.ofChange askHeadSpec)

/-- ITS FALSE NEIGHBOUR: 'it returns false'. Refute it at one input. -/
def askHeadWrong : ChangeSpec := { name := "askHead", fn := fun _ => fun
  | [d1, d2, d3, d4] => { results := [.lit (.bool false)], args := [d1, d2, d3, d4] }
  | _ => none }
def AskHeadWrongFalsely : Prop := askHeadRow.holds Try.pinned (OpenSpec.ofChange askHeadWrong)

/-- 'twinkeeplaw22.AskCuts': WHATEVER THE INPUT: true; the input reads as it did. -/
def askCutsSpec : ChangeSpec := { name := "askCuts", fn := fun _ => fun
  | [d1, d2, d3, d4] => { results := [.lit (.bool true)], args := [d1, d2, d3, d4] }
  | _ => none }
def askCutsRow : OpenClaim := { program := "ythanfecefjfbjaa", sum := "7f42da285b8582e3a2bd8d4e65248f7a955d57e7119299bf85df403ca236252d", func := "twinkeep/twinkeeplaw22.AskCuts", spec := "askCuts", unfollowed := true, recurses := true, apart := false }
def AskCutsSaid : Prop := askCutsRow.holds Try.pinned (OpenSpec.ofChange askCutsSpec)

/-- ITS FALSE NEIGHBOUR: 'it returns false'. Refute it at one input. -/
def askCutsWrong : ChangeSpec := { name := "askCuts", fn := fun _ => fun
  | [d1, d2, d3, d4] => { results := [.lit (.bool false)], args := [d1, d2, d3, d4] }
  | _ => none }
def AskCutsWrongFalsely : Prop := askCutsRow.holds Try.pinned (OpenSpec.ofChange askCutsWrong)

/-- 'twinkeeplaw22.AskWide': WHATEVER THE INPUT: true; the input reads as it did. -/
def askWideSpec : ChangeSpec := { name := "askWide", fn := fun _ => fun
  | [d1, d2, d3, d4, d5, d6, d7] => { results := [.lit (.bool true)], args := [d1, d2, d3, d4, d5, d6, d7] }
  | _ => none }
def askWideRow : OpenClaim := { program := "ythanfecefjfbjaa", sum := "7f42da285b8582e3a2bd8d4e65248f7a955d57e7119299bf85df403ca236252d", func := "twinkeep/twinkeeplaw22.AskWide", spec := "askWide", unfollowed := true, recurses := true, apart := false }
def AskWideSaid : Prop := askWideRow.holds Try.pinned (OpenSpec.ofChange askWideSpec)

/-- ITS FALSE NEIGHBOUR: 'it returns false'. Refute it at one input. -/
def askWideWrong : ChangeSpec := { name := "askWide", fn := fun _ => fun
  | [d1, d2, d3, d4, d5, d6, d7] => { results := [.lit (.bool false)], args := [d1, d2, d3, d4, d5, d6, d7] }
  | _ => none }
def AskWideWrongFalsely : Prop := askWideRow.holds Try.pinned (OpenSpec.ofChange askWideWrong)

/- THE SECOND FORM. 'bulk': how many values and letters a reading holds, each counted each time it is reached (what is shared counts as often as it is met; a slice's spare places count too). A statement '..UptoSaid' is the law's where the arguments, and the package variables that the reading takes, are together of bulk at most 1048576: NARROWER than '..Said'. Prove '..Said' where nothing that the law and all that it calls make is longer than what came in: it says more and counts as full. Else prove '..UptoSaid'. A law counts once. -/
mutual
def uptoBulk {H : Type} : DataW H → Nat
  | .lit (.string bytes) => bytes.length + 1
  | .lit _ => 1
  | .nil => 1
  | .ptr d => uptoBulk d + 1
  | .slice elems spare => uptoBulkAll elems + uptoBulkAll spare + 1
  | .agg parts => uptoBulkAll parts + 1
  | .iface _ d => uptoBulk d + 1
  | .map entries => uptoBulkEntries entries + 1
  | .held _ => 1
def uptoBulkAll {H : Type} : List (DataW H) → Nat
  | [] => 0
  | d :: r => uptoBulk d + uptoBulkAll r
def uptoBulkEntries {H : Type} : List (Lit × DataW H) → Nat
  | [] => 0
  | x :: r => uptoBulkEntry x + uptoBulkEntries r
def uptoBulkEntry {H : Type} : Lit × DataW H → Nat
  | (.string bytes, d) => bytes.length + uptoBulk d + 1
  | (_, d) => uptoBulk d + 1
 end
def uptoSmall : (H : Type) → List (DataW H) → Bool := fun _ ds => decide (uptoBulkAll ds ≤ 1048576)
def OpenSpec.upto (s : _root_.Go.ChangeSpec) : _root_.Go.OpenSpec := { _root_.Go.OpenSpec.ofChange s with cond := some uptoSmall }

/-- 'twinkeeplaw22.AskAsks', WHERE WHAT IT READS IS OF BULK AT MOST 1048576: true; the input reads as it did. -/
def askAsksUptoRow : OpenClaim := { program := "ythanfecefjfbjaa", sum := "7f42da285b8582e3a2bd8d4e65248f7a955d57e7119299bf85df403ca236252d", func := "twinkeep/twinkeeplaw22.AskAsks", spec := "askAsks", unfollowed := true, recurses := true, apart := false, narrowed := true }
def AskAsksUptoSaid : Prop := askAsksUptoRow.holds Try.pinned (OpenSpec.upto askAsksSpec)

/-- 'twinkeeplaw22.AskRows', WHERE WHAT IT READS IS OF BULK AT MOST 1048576: true; the input reads as it did. -/
def askRowsUptoRow : OpenClaim := { program := "ythanfecefjfbjaa", sum := "7f42da285b8582e3a2bd8d4e65248f7a955d57e7119299bf85df403ca236252d", func := "twinkeep/twinkeeplaw22.AskRows", spec := "askRows", unfollowed := true, recurses := true, apart := false, narrowed := true }
def AskRowsUptoSaid : Prop := askRowsUptoRow.holds Try.pinned (OpenSpec.upto askRowsSpec)

/-- 'twinkeeplaw22.AskAll', WHERE WHAT IT READS IS OF BULK AT MOST 1048576: true; the input reads as it did. -/
def askAllUptoRow : OpenClaim := { program := "ythanfecefjfbjaa", sum := "7f42da285b8582e3a2bd8d4e65248f7a955d57e7119299bf85df403ca236252d", func := "twinkeep/twinkeeplaw22.AskAll", spec := "askAll", unfollowed := true, recurses := true, apart := false, narrowed := true }
def AskAllUptoSaid : Prop := askAllUptoRow.holds Try.pinned (OpenSpec.upto askAllSpec)

/-- 'twinkeeplaw22.AskFine', WHERE WHAT IT READS IS OF BULK AT MOST 1048576: true; the input reads as it did. -/
def askFineUptoRow : OpenClaim := { program := "ythanfecefjfbjaa", sum := "7f42da285b8582e3a2bd8d4e65248f7a955d57e7119299bf85df403ca236252d", func := "twinkeep/twinkeeplaw22.AskFine", spec := "askFine", unfollowed := true, recurses := true, apart := false, narrowed := true }
def AskFineUptoSaid : Prop := askFineUptoRow.holds Try.pinned (OpenSpec.upto askFineSpec)

/-- 'twinkeeplaw22.AskHead', WHERE WHAT IT READS IS OF BULK AT MOST 1048576: true; the input reads as it did. -/
def askHeadUptoRow : OpenClaim := { program := "ythanfecefjfbjaa", sum := "7f42da285b8582e3a2bd8d4e65248f7a955d57e7119299bf85df403ca236252d", func := "twinkeep/twinkeeplaw22.AskHead", spec := "askHead", unfollowed := true, recurses := true, apart := false, narrowed := true }
def AskHeadUptoSaid : Prop := askHeadUptoRow.holds Try.pinned (OpenSpec.upto askHeadSpec)

/-- 'twinkeeplaw22.AskCuts', WHERE WHAT IT READS IS OF BULK AT MOST 1048576: true; the input reads as it did. -/
def askCutsUptoRow : OpenClaim := { program := "ythanfecefjfbjaa", sum := "7f42da285b8582e3a2bd8d4e65248f7a955d57e7119299bf85df403ca236252d", func := "twinkeep/twinkeeplaw22.AskCuts", spec := "askCuts", unfollowed := true, recurses := true, apart := false, narrowed := true }
def AskCutsUptoSaid : Prop := askCutsUptoRow.holds Try.pinned (OpenSpec.upto askCutsSpec)

/-- 'twinkeeplaw22.AskWide', WHERE WHAT IT READS IS OF BULK AT MOST 1048576: true; the input reads as it did. -/
def askWideUptoRow : OpenClaim := { program := "ythanfecefjfbjaa", sum := "7f42da285b8582e3a2bd8d4e65248f7a955d57e7119299bf85df403ca236252d", func := "twinkeep/twinkeeplaw22.AskWide", spec := "askWide", unfollowed := true, recurses := true, apart := false, narrowed := true }
def AskWideUptoSaid : Prop := askWideUptoRow.holds Try.pinned (OpenSpec.upto askWideSpec)

end Rows
end Go.Proofs.Ythanfecefjfbjaa
