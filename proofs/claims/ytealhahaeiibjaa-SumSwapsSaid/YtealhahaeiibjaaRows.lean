/-
  No cell of these rows narrows 'for every input' (looked for: loops, veiled, ifaces, maps, wideKeys, modest, calm, conditions, laid).
  DERIVED. THE GIVEN ROWS OF THIS SEAT. 11 by the template 'for every input the law returns true; each argument reads behind the call as it read before'; 0 by the template 'total and deterministic' (their statements: YtealhahaeiibjaaTotals.lean).
  GIVEN WITH THE SEED: the statements are not yours to turn. If you find one false, say at which input.
  Laid BY PROGRAM, IN A SANDBOX (cutbox-rows.mjs): the forced cells as the released guide's own fill.sh prints them over the translation 0505d87746f9594d… (all of the seat's roots in one cut). By AI agents, Wed Nov 11 2026. No macro, syntax, notation, axiom, sorry.
-/
import Derived.Test.YtealhahaeiibjaaChecked
import GoSem.Claim
import GoSem.ClaimJoined
import GoSem.ClaimMapViews
import Derived.JoinedTies
import Derived.KernelRfl
namespace Go.Proofs.Ytealhahaeiibjaa
/- THE CELL 'sum', in the pinned program and in every row, IS THE sha256 OF THE DUMP (.gsa) THAT YtealhahaeiibjaaProg.lean LOADS. Nothing in Lean hashes anything: it is a label: what it is worth is what the hold of that sum in a sandbox is worth. -/
noncomputable def Try.pinned : Pinned := { name := "ytealhahaeiibjaa", sum := "0505d87746f9594d6e10632aea85b425727324ac7a411aea8ddb35f361e7520b", checked := Try.checked }
namespace Rows
def none {H : Type} : Left H := { results := [], args := [] }

/-- 'twinkeeplaw2.SumAsks': WHATEVER THE INPUT: true; the input reads as it did. -/
def sumAsksSpec : ChangeSpec := { name := "sumAsks", fn := fun _ => fun
  | [d1, d2] => { results := [.lit (.bool true)], args := [d1, d2] }
  | _ => none }
def sumAsksRow : OpenClaim := { program := "ytealhahaeiibjaa", sum := "0505d87746f9594d6e10632aea85b425727324ac7a411aea8ddb35f361e7520b", func := "twinkeep/twinkeeplaw2.SumAsks", spec := "sumAsks", apart := false }
def SumAsksSaid : Prop := sumAsksRow.holds Try.pinned (OpenSpec.ofChange sumAsksSpec)

/-- ITS FALSE NEIGHBOUR: 'it returns false'. Refute it at one input. -/
def sumAsksWrong : ChangeSpec := { name := "sumAsks", fn := fun _ => fun
  | [d1, d2] => { results := [.lit (.bool false)], args := [d1, d2] }
  | _ => none }
def SumAsksWrongFalsely : Prop := sumAsksRow.holds Try.pinned (OpenSpec.ofChange sumAsksWrong)

/-- 'twinkeeplaw2.SumParts': WHATEVER THE INPUT: true; the input reads as it did. -/
def sumPartsSpec : ChangeSpec := { name := "sumParts", fn := fun _ => fun
  | [d1, d2] => { results := [.lit (.bool true)], args := [d1, d2] }
  | _ => none }
def sumPartsRow : OpenClaim := { program := "ytealhahaeiibjaa", sum := "0505d87746f9594d6e10632aea85b425727324ac7a411aea8ddb35f361e7520b", func := "twinkeep/twinkeeplaw2.SumParts", spec := "sumParts", apart := false }
def SumPartsSaid : Prop := sumPartsRow.holds Try.pinned (OpenSpec.ofChange sumPartsSpec)

/-- ITS FALSE NEIGHBOUR: 'it returns false'. Refute it at one input. -/
def sumPartsWrong : ChangeSpec := { name := "sumParts", fn := fun _ => fun
  | [d1, d2] => { results := [.lit (.bool false)], args := [d1, d2] }
  | _ => none }
def SumPartsWrongFalsely : Prop := sumPartsRow.holds Try.pinned (OpenSpec.ofChange sumPartsWrong)

/-- 'twinkeeplaw2.SumTells': WHATEVER THE INPUT: true; the input reads as it did. -/
def sumTellsSpec : ChangeSpec := { name := "sumTells", fn := fun _ => fun
  | [d1, d2, d3] => { results := [.lit (.bool true)], args := [d1, d2, d3] }
  | _ => none }
def sumTellsRow : OpenClaim := { program := "ytealhahaeiibjaa", sum := "0505d87746f9594d6e10632aea85b425727324ac7a411aea8ddb35f361e7520b", func := "twinkeep/twinkeeplaw2.SumTells", spec := "sumTells", apart := false }
def SumTellsSaid : Prop := sumTellsRow.holds Try.pinned (OpenSpec.ofChange sumTellsSpec)

/-- ITS FALSE NEIGHBOUR: 'it returns false'. Refute it at one input. -/
def sumTellsWrong : ChangeSpec := { name := "sumTells", fn := fun _ => fun
  | [d1, d2, d3] => { results := [.lit (.bool false)], args := [d1, d2, d3] }
  | _ => none }
def SumTellsWrongFalsely : Prop := sumTellsRow.holds Try.pinned (OpenSpec.ofChange sumTellsWrong)

/-- 'twinkeeplaw2.SumSwaps': WHATEVER THE INPUT: true; the input reads as it did. -/
def sumSwapsSpec : ChangeSpec := { name := "sumSwaps", fn := fun _ => fun
  | [d1, d2] => { results := [.lit (.bool true)], args := [d1, d2] }
  | _ => none }
def sumSwapsRow : OpenClaim := { program := "ytealhahaeiibjaa", sum := "0505d87746f9594d6e10632aea85b425727324ac7a411aea8ddb35f361e7520b", func := "twinkeep/twinkeeplaw2.SumSwaps", spec := "sumSwaps", apart := false }
def SumSwapsSaid : Prop := sumSwapsRow.holds Try.pinned (OpenSpec.ofChange sumSwapsSpec)

/-- ITS FALSE NEIGHBOUR: 'it returns false'. Refute it at one input. -/
def sumSwapsWrong : ChangeSpec := { name := "sumSwaps", fn := fun _ => fun
  | [d1, d2] => { results := [.lit (.bool false)], args := [d1, d2] }
  | _ => none }
def SumSwapsWrongFalsely : Prop := sumSwapsRow.holds Try.pinned (OpenSpec.ofChange sumSwapsWrong)

/-- 'twinkeeplaw2.SumFronts': WHATEVER THE INPUT: true; the input reads as it did. -/
def sumFrontsSpec : ChangeSpec := { name := "sumFronts", fn := fun _ => fun
  | [d1, d2] => { results := [.lit (.bool true)], args := [d1, d2] }
  | _ => none }
def sumFrontsRow : OpenClaim := { program := "ytealhahaeiibjaa", sum := "0505d87746f9594d6e10632aea85b425727324ac7a411aea8ddb35f361e7520b", func := "twinkeep/twinkeeplaw2.SumFronts", spec := "sumFronts", apart := false }
def SumFrontsSaid : Prop := sumFrontsRow.holds Try.pinned (OpenSpec.ofChange sumFrontsSpec)

/-- ITS FALSE NEIGHBOUR: 'it returns false'. Refute it at one input. -/
def sumFrontsWrong : ChangeSpec := { name := "sumFronts", fn := fun _ => fun
  | [d1, d2] => { results := [.lit (.bool false)], args := [d1, d2] }
  | _ => none }
def SumFrontsWrongFalsely : Prop := sumFrontsRow.holds Try.pinned (OpenSpec.ofChange sumFrontsWrong)

/-- 'twinkeeplaw1.VaryOrders': WHATEVER THE INPUT: true; the input reads as it did. -/
def varyOrdersSpec : ChangeSpec := { name := "varyOrders", fn := fun _ => fun
  | [d1, d2] => { results := [.lit (.bool true)], args := [d1, d2] }
  | _ => none }
def varyOrdersRow : OpenClaim := { program := "ytealhahaeiibjaa", sum := "0505d87746f9594d6e10632aea85b425727324ac7a411aea8ddb35f361e7520b", func := "twinkeep/twinkeeplaw1.VaryOrders", spec := "varyOrders", apart := false }
def VaryOrdersSaid : Prop := varyOrdersRow.holds Try.pinned (OpenSpec.ofChange varyOrdersSpec)

/-- ITS FALSE NEIGHBOUR: 'it returns false'. Refute it at one input. -/
def varyOrdersWrong : ChangeSpec := { name := "varyOrders", fn := fun _ => fun
  | [d1, d2] => { results := [.lit (.bool false)], args := [d1, d2] }
  | _ => none }
def VaryOrdersWrongFalsely : Prop := varyOrdersRow.holds Try.pinned (OpenSpec.ofChange varyOrdersWrong)

/-- 'twinkeeplaw1.VaryAsks': WHATEVER THE INPUT: true; the input reads as it did. -/
def varyAsksSpec : ChangeSpec := { name := "varyAsks", fn := fun _ => fun
  | [d1, d2, d3, d4] => { results := [.lit (.bool true)], args := [d1, d2, d3, d4] }
  | _ => none }
def varyAsksRow : OpenClaim := { program := "ytealhahaeiibjaa", sum := "0505d87746f9594d6e10632aea85b425727324ac7a411aea8ddb35f361e7520b", func := "twinkeep/twinkeeplaw1.VaryAsks", spec := "varyAsks", apart := false }
def VaryAsksSaid : Prop := varyAsksRow.holds Try.pinned (OpenSpec.ofChange varyAsksSpec)

/-- ITS FALSE NEIGHBOUR: 'it returns false'. Refute it at one input. -/
def varyAsksWrong : ChangeSpec := { name := "varyAsks", fn := fun _ => fun
  | [d1, d2, d3, d4] => { results := [.lit (.bool false)], args := [d1, d2, d3, d4] }
  | _ => none }
def VaryAsksWrongFalsely : Prop := varyAsksRow.holds Try.pinned (OpenSpec.ofChange varyAsksWrong)

/-- 'twinkeeplaw1.VaryBack': WHATEVER THE INPUT: true; the input reads as it did. -/
def varyBackSpec : ChangeSpec := { name := "varyBack", fn := fun _ => fun
  | [d1, d2] => { results := [.lit (.bool true)], args := [d1, d2] }
  | _ => none }
def varyBackRow : OpenClaim := { program := "ytealhahaeiibjaa", sum := "0505d87746f9594d6e10632aea85b425727324ac7a411aea8ddb35f361e7520b", func := "twinkeep/twinkeeplaw1.VaryBack", spec := "varyBack", apart := false }
def VaryBackSaid : Prop := varyBackRow.holds Try.pinned (OpenSpec.ofChange varyBackSpec)

/-- ITS FALSE NEIGHBOUR: 'it returns false'. Refute it at one input. -/
def varyBackWrong : ChangeSpec := { name := "varyBack", fn := fun _ => fun
  | [d1, d2] => { results := [.lit (.bool false)], args := [d1, d2] }
  | _ => none }
def VaryBackWrongFalsely : Prop := varyBackRow.holds Try.pinned (OpenSpec.ofChange varyBackWrong)

/-- 'twinkeeplaw1.VarySizes': WHATEVER THE INPUT: true; the input reads as it did. -/
def varySizesSpec : ChangeSpec := { name := "varySizes", fn := fun _ => fun
  | [d1, d2, d3] => { results := [.lit (.bool true)], args := [d1, d2, d3] }
  | _ => none }
def varySizesRow : OpenClaim := { program := "ytealhahaeiibjaa", sum := "0505d87746f9594d6e10632aea85b425727324ac7a411aea8ddb35f361e7520b", func := "twinkeep/twinkeeplaw1.VarySizes", spec := "varySizes", apart := false }
def VarySizesSaid : Prop := varySizesRow.holds Try.pinned (OpenSpec.ofChange varySizesSpec)

/-- ITS FALSE NEIGHBOUR: 'it returns false'. Refute it at one input. -/
def varySizesWrong : ChangeSpec := { name := "varySizes", fn := fun _ => fun
  | [d1, d2, d3] => { results := [.lit (.bool false)], args := [d1, d2, d3] }
  | _ => none }
def VarySizesWrongFalsely : Prop := varySizesRow.holds Try.pinned (OpenSpec.ofChange varySizesWrong)

/-- 'twinkeeplaw1.VaryZigs': WHATEVER THE INPUT: true; the input reads as it did. -/
def varyZigsSpec : ChangeSpec := { name := "varyZigs", fn := fun _ => fun
  | [d1, d2] => { results := [.lit (.bool true)], args := [d1, d2] }
  | _ => none }
def varyZigsRow : OpenClaim := { program := "ytealhahaeiibjaa", sum := "0505d87746f9594d6e10632aea85b425727324ac7a411aea8ddb35f361e7520b", func := "twinkeep/twinkeeplaw1.VaryZigs", spec := "varyZigs", apart := false }
def VaryZigsSaid : Prop := varyZigsRow.holds Try.pinned (OpenSpec.ofChange varyZigsSpec)

/-- ITS FALSE NEIGHBOUR: 'it returns false'. Refute it at one input. -/
def varyZigsWrong : ChangeSpec := { name := "varyZigs", fn := fun _ => fun
  | [d1, d2] => { results := [.lit (.bool false)], args := [d1, d2] }
  | _ => none }
def VaryZigsWrongFalsely : Prop := varyZigsRow.holds Try.pinned (OpenSpec.ofChange varyZigsWrong)

/-- 'twinkeeplaw1.VaryCuts': WHATEVER THE INPUT: true; the input reads as it did. -/
def varyCutsSpec : ChangeSpec := { name := "varyCuts", fn := fun _ => fun
  | [d1, d2, d3] => { results := [.lit (.bool true)], args := [d1, d2, d3] }
  | _ => none }
def varyCutsRow : OpenClaim := { program := "ytealhahaeiibjaa", sum := "0505d87746f9594d6e10632aea85b425727324ac7a411aea8ddb35f361e7520b", func := "twinkeep/twinkeeplaw1.VaryCuts", spec := "varyCuts", apart := false }
def VaryCutsSaid : Prop := varyCutsRow.holds Try.pinned (OpenSpec.ofChange varyCutsSpec)

/-- ITS FALSE NEIGHBOUR: 'it returns false'. Refute it at one input. -/
def varyCutsWrong : ChangeSpec := { name := "varyCuts", fn := fun _ => fun
  | [d1, d2, d3] => { results := [.lit (.bool false)], args := [d1, d2, d3] }
  | _ => none }
def VaryCutsWrongFalsely : Prop := varyCutsRow.holds Try.pinned (OpenSpec.ofChange varyCutsWrong)

/- THE SECOND FORM. 'bulk': how many values and letters a reading holds, each counted each time it is reached (what is shared counts as often as it is met; a slice's spare places count too). A statement '..UptoSaid' is the law's where the arguments, and the package variables that the reading takes, are together of bulk at most 1048576: NARROWER than '..Said'. Prove '..Said' where nothing that the law and all that it calls make is longer than what came in: it says more and counts as full. Else prove '..UptoSaid'. A law counts once. -/
mutual
def uptoBulk {H : Type} : DataW H → Nat
  | .lit (.string bytes) => bytes.length + 1
  | .lit _ => 1
  | .nil => 1
  | .ptr d => uptoBulk d + 1
  | .slice elems spare => uptoBulkAll elems + uptoBulkAll spare + 1
  | .agg parts => uptoBulkAll parts + 1
  | .iface _ d => uptoBulk d + 1
  | .map entries => uptoBulkEntries entries + 1
  | .held _ => 1
def uptoBulkAll {H : Type} : List (DataW H) → Nat
  | [] => 0
  | d :: r => uptoBulk d + uptoBulkAll r
def uptoBulkEntries {H : Type} : List (Lit × DataW H) → Nat
  | [] => 0
  | x :: r => uptoBulkEntry x + uptoBulkEntries r
def uptoBulkEntry {H : Type} : Lit × DataW H → Nat
  | (.string bytes, d) => bytes.length + uptoBulk d + 1
  | (_, d) => uptoBulk d + 1
 end
def uptoSmall : (H : Type) → List (DataW H) → Bool := fun _ ds => decide (uptoBulkAll ds ≤ 1048576)
def OpenSpec.upto (s : _root_.Go.ChangeSpec) : _root_.Go.OpenSpec := { _root_.Go.OpenSpec.ofChange s with cond := some uptoSmall }

/-- 'twinkeeplaw2.SumAsks', WHERE WHAT IT READS IS OF BULK AT MOST 1048576: true; the input reads as it did. -/
def sumAsksUptoRow : OpenClaim := { program := "ytealhahaeiibjaa", sum := "0505d87746f9594d6e10632aea85b425727324ac7a411aea8ddb35f361e7520b", func := "twinkeep/twinkeeplaw2.SumAsks", spec := "sumAsks", apart := false, narrowed := true }
def SumAsksUptoSaid : Prop := sumAsksUptoRow.holds Try.pinned (OpenSpec.upto sumAsksSpec)

/-- 'twinkeeplaw2.SumParts', WHERE WHAT IT READS IS OF BULK AT MOST 1048576: true; the input reads as it did. -/
def sumPartsUptoRow : OpenClaim := { program := "ytealhahaeiibjaa", sum := "0505d87746f9594d6e10632aea85b425727324ac7a411aea8ddb35f361e7520b", func := "twinkeep/twinkeeplaw2.SumParts", spec := "sumParts", apart := false, narrowed := true }
def SumPartsUptoSaid : Prop := sumPartsUptoRow.holds Try.pinned (OpenSpec.upto sumPartsSpec)

/-- 'twinkeeplaw2.SumTells', WHERE WHAT IT READS IS OF BULK AT MOST 1048576: true; the input reads as it did. -/
def sumTellsUptoRow : OpenClaim := { program := "ytealhahaeiibjaa", sum := "0505d87746f9594d6e10632aea85b425727324ac7a411aea8ddb35f361e7520b", func := "twinkeep/twinkeeplaw2.SumTells", spec := "sumTells", apart := false, narrowed := true }
def SumTellsUptoSaid : Prop := sumTellsUptoRow.holds Try.pinned (OpenSpec.upto sumTellsSpec)

/-- 'twinkeeplaw2.SumSwaps', WHERE WHAT IT READS IS OF BULK AT MOST 1048576: true; the input reads as it did. -/
def sumSwapsUptoRow : OpenClaim := { program := "ytealhahaeiibjaa", sum := "0505d87746f9594d6e10632aea85b425727324ac7a411aea8ddb35f361e7520b", func := "twinkeep/twinkeeplaw2.SumSwaps", spec := "sumSwaps", apart := false, narrowed := true }
def SumSwapsUptoSaid : Prop := sumSwapsUptoRow.holds Try.pinned (OpenSpec.upto sumSwapsSpec)

/-- 'twinkeeplaw2.SumFronts', WHERE WHAT IT READS IS OF BULK AT MOST 1048576: true; the input reads as it did. -/
def sumFrontsUptoRow : OpenClaim := { program := "ytealhahaeiibjaa", sum := "0505d87746f9594d6e10632aea85b425727324ac7a411aea8ddb35f361e7520b", func := "twinkeep/twinkeeplaw2.SumFronts", spec := "sumFronts", apart := false, narrowed := true }
def SumFrontsUptoSaid : Prop := sumFrontsUptoRow.holds Try.pinned (OpenSpec.upto sumFrontsSpec)

/-- 'twinkeeplaw1.VaryOrders', WHERE WHAT IT READS IS OF BULK AT MOST 1048576: true; the input reads as it did. -/
def varyOrdersUptoRow : OpenClaim := { program := "ytealhahaeiibjaa", sum := "0505d87746f9594d6e10632aea85b425727324ac7a411aea8ddb35f361e7520b", func := "twinkeep/twinkeeplaw1.VaryOrders", spec := "varyOrders", apart := false, narrowed := true }
def VaryOrdersUptoSaid : Prop := varyOrdersUptoRow.holds Try.pinned (OpenSpec.upto varyOrdersSpec)

/-- 'twinkeeplaw1.VaryAsks', WHERE WHAT IT READS IS OF BULK AT MOST 1048576: true; the input reads as it did. -/
def varyAsksUptoRow : OpenClaim := { program := "ytealhahaeiibjaa", sum := "0505d87746f9594d6e10632aea85b425727324ac7a411aea8ddb35f361e7520b", func := "twinkeep/twinkeeplaw1.VaryAsks", spec := "varyAsks", apart := false, narrowed := true }
def VaryAsksUptoSaid : Prop := varyAsksUptoRow.holds Try.pinned (OpenSpec.upto varyAsksSpec)

/-- 'twinkeeplaw1.VaryBack', WHERE WHAT IT READS IS OF BULK AT MOST 1048576: true; the input reads as it did. -/
def varyBackUptoRow : OpenClaim := { program := "ytealhahaeiibjaa", sum := "0505d87746f9594d6e10632aea85b425727324ac7a411aea8ddb35f361e7520b", func := "twinkeep/twinkeeplaw1.VaryBack", spec := "varyBack", apart := false, narrowed := true }
def VaryBackUptoSaid : Prop := varyBackUptoRow.holds Try.pinned (OpenSpec.upto varyBackSpec)

/-- 'twinkeeplaw1.VarySizes', WHERE WHAT IT READS IS OF BULK AT MOST 1048576: true; the input reads as it did. -/
def varySizesUptoRow : OpenClaim := { program := "ytealhahaeiibjaa", sum := "0505d87746f9594d6e10632aea85b425727324ac7a411aea8ddb35f361e7520b", func := "twinkeep/twinkeeplaw1.VarySizes", spec := "varySizes", apart := false, narrowed := true }
def VarySizesUptoSaid : Prop := varySizesUptoRow.holds Try.pinned (OpenSpec.upto varySizesSpec)

/-- 'twinkeeplaw1.VaryZigs', WHERE WHAT IT READS IS OF BULK AT MOST 1048576: true; the input reads as it did. -/
def varyZigsUptoRow : OpenClaim := { program := "ytealhahaeiibjaa", sum := "0505d87746f9594d6e10632aea85b425727324ac7a411aea8ddb35f361e7520b", func := "twinkeep/twinkeeplaw1.VaryZigs", spec := "varyZigs", apart := false, narrowed := true }
def VaryZigsUptoSaid : Prop := varyZigsUptoRow.holds Try.pinned (OpenSpec.upto varyZigsSpec)

/-- 'twinkeeplaw1.VaryCuts', WHERE WHAT IT READS IS OF BULK AT MOST 1048576: true; the input reads as it did. -/
def varyCutsUptoRow : OpenClaim := { program := "ytealhahaeiibjaa", sum := "0505d87746f9594d6e10632aea85b425727324ac7a411aea8ddb35f361e7520b", func := "twinkeep/twinkeeplaw1.VaryCuts", spec := "varyCuts", apart := false, narrowed := true }
def VaryCutsUptoSaid : Prop := varyCutsUptoRow.holds Try.pinned (OpenSpec.upto varyCutsSpec)

end Rows
end Go.Proofs.Ytealhahaeiibjaa
