/-
  No cell of these rows narrows 'for every input' (looked for: loops, veiled, ifaces, maps, wideKeys, modest, calm, conditions, laid).
  DERIVED. THE GIVEN ROWS OF THIS SEAT. 5 by the template 'for every input the law returns true; each argument reads behind the call as it read before'; 0 by the template 'total and deterministic' (their statements: YtldfnkhccaglmaaTotals.lean).
  GIVEN WITH THE SEED: the statements are not yours to turn. If you find one false, say at which input.
  Laid BY PROGRAM, IN A SANDBOX (cutbox-rows.mjs): the forced cells as the released guide's own fill.sh prints them over the translation 1f77ba5f8d0c64a4… (all of the seat's roots in one cut). By AI agents, Wed Nov 11 2026. No macro, syntax, notation, axiom, sorry.
-/
import Derived.Test.YtldfnkhccaglmaaChecked
import GoSem.Claim
import GoSem.ClaimJoined
import GoSem.ClaimMapViews
import Derived.JoinedTies
import Derived.KernelRfl
namespace Go.Proofs.Ytldfnkhccaglmaa
/- THE CELL 'sum', in the pinned program and in every row, IS THE sha256 OF THE DUMP (.gsa) THAT YtldfnkhccaglmaaProg.lean LOADS. Nothing in Lean hashes anything: it is a label: what it is worth is what the hold of that sum in a sandbox is worth. -/
noncomputable def Try.pinned : Pinned := { name := "ytldfnkhccaglmaa", sum := "1f77ba5f8d0c64a4981988027d871e6b89222a626f511ebc85006222fbc6242f", checked := Try.checked }
namespace Rows
def none {H : Type} : Left H := { results := [], args := [] }

/-- 'twinkeeplaw23.JudgeAsks': WHATEVER THE INPUT: true; the input reads as it did. -/
def judgeAsksSpec : ChangeSpec := { name := "judgeAsks", fn := fun _ => fun
  | [d1, d2, d3, d4, d5, d6] => { results := [.lit (.bool true)], args := [d1, d2, d3, d4, d5, d6] }
  | _ => none }
def judgeAsksRow : OpenClaim := { program := "ytldfnkhccaglmaa", sum := "1f77ba5f8d0c64a4981988027d871e6b89222a626f511ebc85006222fbc6242f", func := "twinkeep/twinkeeplaw23.JudgeAsks", spec := "judgeAsks", unfollowed := true, recurses := true, plainKeys := false, apart := false }
def JudgeAsksSaid : Prop := judgeAsksRow.holds Try.pinned (OpenSpec.ofChange judgeAsksSpec)

/-- ITS FALSE NEIGHBOUR: 'it returns false'. Refute it at one input. -/
def judgeAsksWrong : ChangeSpec := { name := "judgeAsks", fn := fun _ => fun
  | [d1, d2, d3, d4, d5, d6] => { results := [.lit (.bool false)], args := [d1, d2, d3, d4, d5, d6] }
  | _ => none }
def JudgeAsksWrongFalsely : Prop := judgeAsksRow.holds Try.pinned (OpenSpec.ofChange judgeAsksWrong)

/-- 'twinkeeplaw23.JudgeRows': WHATEVER THE INPUT: true; the input reads as it did. -/
def judgeRowsSpec : ChangeSpec := { name := "judgeRows", fn := fun _ => fun
  | [d1, d2, d3, d4, d5, d6, d7] => { results := [.lit (.bool true)], args := [d1, d2, d3, d4, d5, d6, d7] }
  | _ => none }
def judgeRowsRow : OpenClaim := { program := "ytldfnkhccaglmaa", sum := "1f77ba5f8d0c64a4981988027d871e6b89222a626f511ebc85006222fbc6242f", func := "twinkeep/twinkeeplaw23.JudgeRows", spec := "judgeRows", unfollowed := true, recurses := true, plainKeys := false, apart := false }
def JudgeRowsSaid : Prop := judgeRowsRow.holds Try.pinned (OpenSpec.ofChange judgeRowsSpec)

/-- ITS FALSE NEIGHBOUR: 'it returns false'. Refute it at one input. -/
def judgeRowsWrong : ChangeSpec := { name := "judgeRows", fn := fun _ => fun
  | [d1, d2, d3, d4, d5, d6, d7] => { results := [.lit (.bool false)], args := [d1, d2, d3, d4, d5, d6, d7] }
  | _ => none }
def JudgeRowsWrongFalsely : Prop := judgeRowsRow.holds Try.pinned (OpenSpec.ofChange judgeRowsWrong)

/-- 'twinkeeplaw23.JudgeSafe': WHATEVER THE INPUT: true; the input reads as it did. -/
def judgeSafeSpec : ChangeSpec := { name := "judgeSafe", fn := fun _ => fun
  | [d1, d2, d3] => { results := [.lit (.bool true)], args := [d1, d2, d3] }
  | _ => none }
def judgeSafeRow : OpenClaim := { program := "ytldfnkhccaglmaa", sum := "1f77ba5f8d0c64a4981988027d871e6b89222a626f511ebc85006222fbc6242f", func := "twinkeep/twinkeeplaw23.JudgeSafe", spec := "judgeSafe", unfollowed := true, recurses := true, plainKeys := false, apart := false }
def JudgeSafeSaid : Prop := judgeSafeRow.holds Try.pinned (OpenSpec.ofChange judgeSafeSpec)

/-- ITS FALSE NEIGHBOUR: 'it returns false'. Refute it at one input. -/
def judgeSafeWrong : ChangeSpec := { name := "judgeSafe", fn := fun _ => fun
  | [d1, d2, d3] => { results := [.lit (.bool false)], args := [d1, d2, d3] }
  | _ => none }
def JudgeSafeWrongFalsely : Prop := judgeSafeRow.holds Try.pinned (OpenSpec.ofChange judgeSafeWrong)

/-- 'twinkeeplaw23.JudgeTurned': WHATEVER THE INPUT: true; the input reads as it did. -/
def judgeTurnedSpec : ChangeSpec := { name := "judgeTurned", fn := fun _ => fun
  | [d1, d2, d3, d4, d5, d6] => { results := [.lit (.bool true)], args := [d1, d2, d3, d4, d5, d6] }
  | _ => none }
def judgeTurnedRow : OpenClaim := { program := "ytldfnkhccaglmaa", sum := "1f77ba5f8d0c64a4981988027d871e6b89222a626f511ebc85006222fbc6242f", func := "twinkeep/twinkeeplaw23.JudgeTurned", spec := "judgeTurned", unfollowed := true, recurses := true, plainKeys := false, apart := false }
def JudgeTurnedSaid : Prop := judgeTurnedRow.holds Try.pinned (OpenSpec.ofChange judgeTurnedSpec)

/-- ITS FALSE NEIGHBOUR: 'it returns false'. Refute it at one input. -/
def judgeTurnedWrong : ChangeSpec := { name := "judgeTurned", fn := fun _ => fun
  | [d1, d2, d3, d4, d5, d6] => { results := [.lit (.bool false)], args := [d1, d2, d3, d4, d5, d6] }
  | _ => none }
def JudgeTurnedWrongFalsely : Prop := judgeTurnedRow.holds Try.pinned (OpenSpec.ofChange judgeTurnedWrong)

/-- 'twinkeeplaw23.JudgeGrants': WHATEVER THE INPUT: true; the input reads as it did. -/
def judgeGrantsSpec : ChangeSpec := { name := "judgeGrants", fn := fun _ => fun
  | [d1, d2] => { results := [.lit (.bool true)], args := [d1, d2] }
  | _ => none }
def judgeGrantsRow : OpenClaim := { program := "ytldfnkhccaglmaa", sum := "1f77ba5f8d0c64a4981988027d871e6b89222a626f511ebc85006222fbc6242f", func := "twinkeep/twinkeeplaw23.JudgeGrants", spec := "judgeGrants", unfollowed := true, recurses := true, plainKeys := false, apart := false }
def JudgeGrantsSaid : Prop := judgeGrantsRow.holds Try.pinned (OpenSpec.ofChange judgeGrantsSpec)

/-- ITS FALSE NEIGHBOUR: 'it returns false'. Refute it at one input. -/
def judgeGrantsWrong : ChangeSpec := { name := "judgeGrants", fn := fun _ => fun
  | [d1, d2] => { results := [.lit (.bool false)], args := [d1, d2] }
  | _ => none }
def JudgeGrantsWrongFalsely : Prop := judgeGrantsRow.holds Try.pinned (OpenSpec.ofChange judgeGrantsWrong)

/- THE SECOND FORM. 'bulk': how many values and letters a reading holds, each counted each time it is reached (what is shared counts as often as it is met; a slice's spare places count too). A statement '..UptoSaid' is the law's where the arguments, and the package variables that the reading takes, are together of bulk at most 1048576: NARROWER than '..Said'. Prove '..Said' where nothing that the law and all that it calls make is longer than what came in: it says more and counts as full. Else prove '..UptoSaid'. A law counts once. -/
mutual
def uptoBulk {H : Type} : DataW H → Nat
  | .lit (.string bytes) => bytes.length + 1
  | .lit _ => 1
  | .nil => 1
  | .ptr d => uptoBulk d + 1
  | .slice elems spare => uptoBulkAll elems + uptoBulkAll spare + 1
  | .agg parts => uptoBulkAll parts + 1
  | .iface _ d => uptoBulk d + 1
  | .map entries => uptoBulkEntries entries + 1
  | .held _ => 1
def uptoBulkAll {H : Type} : List (DataW H) → Nat
  | [] => 0
  | d :: r => uptoBulk d + uptoBulkAll r
def uptoBulkEntries {H : Type} : List (Lit × DataW H) → Nat
  | [] => 0
  | x :: r => uptoBulkEntry x + uptoBulkEntries r
def uptoBulkEntry {H : Type} : Lit × DataW H → Nat
  | (.string bytes, d) => bytes.length + uptoBulk d + 1
  | (_, d) => uptoBulk d + 1
 end
def uptoSmall : (H : Type) → List (DataW H) → Bool := fun _ ds => decide (uptoBulkAll ds ≤ 1048576)
def OpenSpec.upto (s : _root_.Go.ChangeSpec) : _root_.Go.OpenSpec := { _root_.Go.OpenSpec.ofChange s with cond := some uptoSmall }

/-- 'twinkeeplaw23.JudgeAsks', WHERE WHAT IT READS IS OF BULK AT MOST 1048576: true; the input reads as it did. -/
def judgeAsksUptoRow : OpenClaim := { program := "ytldfnkhccaglmaa", sum := "1f77ba5f8d0c64a4981988027d871e6b89222a626f511ebc85006222fbc6242f", func := "twinkeep/twinkeeplaw23.JudgeAsks", spec := "judgeAsks", unfollowed := true, recurses := true, plainKeys := false, apart := false, narrowed := true }
def JudgeAsksUptoSaid : Prop := judgeAsksUptoRow.holds Try.pinned (OpenSpec.upto judgeAsksSpec)

/-- 'twinkeeplaw23.JudgeRows', WHERE WHAT IT READS IS OF BULK AT MOST 1048576: true; the input reads as it did. -/
def judgeRowsUptoRow : OpenClaim := { program := "ytldfnkhccaglmaa", sum := "1f77ba5f8d0c64a4981988027d871e6b89222a626f511ebc85006222fbc6242f", func := "twinkeep/twinkeeplaw23.JudgeRows", spec := "judgeRows", unfollowed := true, recurses := true, plainKeys := false, apart := false, narrowed := true }
def JudgeRowsUptoSaid : Prop := judgeRowsUptoRow.holds Try.pinned (OpenSpec.upto judgeRowsSpec)

/-- 'twinkeeplaw23.JudgeSafe', WHERE WHAT IT READS IS OF BULK AT MOST 1048576: true; the input reads as it did. -/
def judgeSafeUptoRow : OpenClaim := { program := "ytldfnkhccaglmaa", sum := "1f77ba5f8d0c64a4981988027d871e6b89222a626f511ebc85006222fbc6242f", func := "twinkeep/twinkeeplaw23.JudgeSafe", spec := "judgeSafe", unfollowed := true, recurses := true, plainKeys := false, apart := false, narrowed := true }
def JudgeSafeUptoSaid : Prop := judgeSafeUptoRow.holds Try.pinned (OpenSpec.upto judgeSafeSpec)

/-- 'twinkeeplaw23.JudgeTurned', WHERE WHAT IT READS IS OF BULK AT MOST 1048576: true; the input reads as it did. -/
def judgeTurnedUptoRow : OpenClaim := { program := "ytldfnkhccaglmaa", sum := "1f77ba5f8d0c64a4981988027d871e6b89222a626f511ebc85006222fbc6242f", func := "twinkeep/twinkeeplaw23.JudgeTurned", spec := "judgeTurned", unfollowed := true, recurses := true, plainKeys := false, apart := false, narrowed := true }
def JudgeTurnedUptoSaid : Prop := judgeTurnedUptoRow.holds Try.pinned (OpenSpec.upto judgeTurnedSpec)

/-- 'twinkeeplaw23.JudgeGrants', WHERE WHAT IT READS IS OF BULK AT MOST 1048576: true; the input reads as it did. -/
def judgeGrantsUptoRow : OpenClaim := { program := "ytldfnkhccaglmaa", sum := "1f77ba5f8d0c64a4981988027d871e6b89222a626f511ebc85006222fbc6242f", func := "twinkeep/twinkeeplaw23.JudgeGrants", spec := "judgeGrants", unfollowed := true, recurses := true, plainKeys := false, apart := false, narrowed := true }
def JudgeGrantsUptoSaid : Prop := judgeGrantsUptoRow.holds Try.pinned (OpenSpec.upto judgeGrantsSpec)

end Rows
end Go.Proofs.Ytldfnkhccaglmaa
