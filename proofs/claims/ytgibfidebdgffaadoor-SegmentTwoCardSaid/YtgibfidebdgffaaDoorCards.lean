/-
  DERIVED. GIVEN WITH THE SEED: THE CARDS: each row of YtgibfidebdgffaaDoorRows.lean that lists a variable, with what it lists TIED to the program's text (the seventh form; the later family's looks); each row that meets fmt, with fmt's text TOLD by the authors' own Lean function (tested against real Go, not proved from fmt's source: count such statements apart). THE CARD IS WHAT COUNTS. Prove the row's statement (the work); the ties are given (YtgibfidebdgffaaDoorTie.lean); close each card by the builder's one call (the guide's Derived/Test/ToyasCard.lean, 'card_holds'). Laid BY PROGRAM, IN A SANDBOX (cutbox-door.mjs). By AI agents, Wed Nov 11 2026. No macro, syntax, notation, axiom, sorry.
-/
import Derived.Test.YtgibfidebdgffaaDoorRows
import GoSem.ClaimSeven
namespace Go.Proofs.YtgibfidebdgffaaDoor
namespace Rows

/-- THE TIED CARD OF 'twinkeeplaw8.SegmentBounds'. -/
def segmentBoundsCard : Claim7 := { stood := { row := segmentBoundsRow, standIns := [], harness := (true, "4a2c3cfad1e96d579f3fdd468e82c3e4d89bd90eb8b06ed7c671233e30acba88"), looks := false }, kinds := [], alts := [], laidByText := true, laidKinds := [.data, .data, .data], laidTests := true, laidLooks := .later }
def SegmentBoundsCardSaid : Prop := Claim7.holds Tryd.pinned (.plain (OpenSpec.ofChange segmentBoundsSpec)) segmentBoundsCard

/-- THE TIED CARD OF 'twinkeeplaw8.SegmentBack'. -/
def segmentBackCard : Claim7 := { stood := { row := segmentBackRow, standIns := [], harness := (true, "4a2c3cfad1e96d579f3fdd468e82c3e4d89bd90eb8b06ed7c671233e30acba88"), looks := false }, kinds := [], alts := [], laidByText := true, laidKinds := [.data, .data, .data], laidTests := true, laidLooks := .later }
def SegmentBackCardSaid : Prop := Claim7.holds Tryd.pinned (.plain (OpenSpec.ofChange segmentBackSpec)) segmentBackCard

/-- THE TIED CARD OF 'twinkeeplaw8.SegmentRolls'. -/
def segmentRollsCard : Claim7 := { stood := { row := segmentRollsRow, standIns := [], harness := (true, "4a2c3cfad1e96d579f3fdd468e82c3e4d89bd90eb8b06ed7c671233e30acba88"), looks := false }, kinds := [], alts := [], laidByText := true, laidKinds := [.data, .data, .data], laidTests := true, laidLooks := .later }
def SegmentRollsCardSaid : Prop := Claim7.holds Tryd.pinned (.plain (OpenSpec.ofChange segmentRollsSpec)) segmentRollsCard

/-- THE TIED CARD OF 'twinkeeplaw8.SegmentTwo'. -/
def segmentTwoCard : Claim7 := { stood := { row := segmentTwoRow, standIns := [], harness := (true, "4a2c3cfad1e96d579f3fdd468e82c3e4d89bd90eb8b06ed7c671233e30acba88"), looks := false }, kinds := [], alts := [], laidByText := true, laidKinds := [.data, .data, .data], laidTests := true, laidLooks := .later }
def SegmentTwoCardSaid : Prop := Claim7.holds Tryd.pinned (.plain (OpenSpec.ofChange segmentTwoSpec)) segmentTwoCard

/-- THE TIED CARD OF 'twinkeeplaw8.SegmentInfos'. -/
def segmentInfosCard : Claim7 := { stood := { row := segmentInfosRow, standIns := [], harness := (true, "4a2c3cfad1e96d579f3fdd468e82c3e4d89bd90eb8b06ed7c671233e30acba88"), looks := false }, kinds := [], alts := [], laidByText := true, laidKinds := [.data, .data, .data], laidTests := true, laidLooks := .later }
def SegmentInfosCardSaid : Prop := Claim7.holds Tryd.pinned (.plain (OpenSpec.ofChange segmentInfosSpec)) segmentInfosCard

/-- THE SECOND FORM's CARD OF 'twinkeeplaw8.SegmentBounds'. -/
def segmentBoundsUptoCard : Claim7 := { stood := { row := segmentBoundsUptoRow, standIns := [], harness := (true, "4a2c3cfad1e96d579f3fdd468e82c3e4d89bd90eb8b06ed7c671233e30acba88"), looks := false }, kinds := [], alts := [], laidByText := true, laidKinds := [.data, .data, .data], laidTests := true, laidLooks := .later }
def SegmentBoundsUptoCardSaid : Prop := Claim7.holds Tryd.pinned (.plain (OpenSpec.upto segmentBoundsSpec)) segmentBoundsUptoCard

/-- THE SECOND FORM's CARD OF 'twinkeeplaw8.SegmentBack'. -/
def segmentBackUptoCard : Claim7 := { stood := { row := segmentBackUptoRow, standIns := [], harness := (true, "4a2c3cfad1e96d579f3fdd468e82c3e4d89bd90eb8b06ed7c671233e30acba88"), looks := false }, kinds := [], alts := [], laidByText := true, laidKinds := [.data, .data, .data], laidTests := true, laidLooks := .later }
def SegmentBackUptoCardSaid : Prop := Claim7.holds Tryd.pinned (.plain (OpenSpec.upto segmentBackSpec)) segmentBackUptoCard

/-- THE SECOND FORM's CARD OF 'twinkeeplaw8.SegmentRolls'. -/
def segmentRollsUptoCard : Claim7 := { stood := { row := segmentRollsUptoRow, standIns := [], harness := (true, "4a2c3cfad1e96d579f3fdd468e82c3e4d89bd90eb8b06ed7c671233e30acba88"), looks := false }, kinds := [], alts := [], laidByText := true, laidKinds := [.data, .data, .data], laidTests := true, laidLooks := .later }
def SegmentRollsUptoCardSaid : Prop := Claim7.holds Tryd.pinned (.plain (OpenSpec.upto segmentRollsSpec)) segmentRollsUptoCard

/-- THE SECOND FORM's CARD OF 'twinkeeplaw8.SegmentTwo'. -/
def segmentTwoUptoCard : Claim7 := { stood := { row := segmentTwoUptoRow, standIns := [], harness := (true, "4a2c3cfad1e96d579f3fdd468e82c3e4d89bd90eb8b06ed7c671233e30acba88"), looks := false }, kinds := [], alts := [], laidByText := true, laidKinds := [.data, .data, .data], laidTests := true, laidLooks := .later }
def SegmentTwoUptoCardSaid : Prop := Claim7.holds Tryd.pinned (.plain (OpenSpec.upto segmentTwoSpec)) segmentTwoUptoCard

/-- THE SECOND FORM's CARD OF 'twinkeeplaw8.SegmentInfos'. -/
def segmentInfosUptoCard : Claim7 := { stood := { row := segmentInfosUptoRow, standIns := [], harness := (true, "4a2c3cfad1e96d579f3fdd468e82c3e4d89bd90eb8b06ed7c671233e30acba88"), looks := false }, kinds := [], alts := [], laidByText := true, laidKinds := [.data, .data, .data], laidTests := true, laidLooks := .later }
def SegmentInfosUptoCardSaid : Prop := Claim7.holds Tryd.pinned (.plain (OpenSpec.upto segmentInfosSpec)) segmentInfosUptoCard
end Rows
end Go.Proofs.YtgibfidebdgffaaDoor
