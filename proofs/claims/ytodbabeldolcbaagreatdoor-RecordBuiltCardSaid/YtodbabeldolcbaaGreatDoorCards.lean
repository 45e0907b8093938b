/-
  DERIVED. GIVEN WITH THE SEED: THE CARDS: each row of YtodbabeldolcbaaGreatDoorRows.lean that lists a variable, with what it lists TIED to the program's text (the seventh form; the later family's looks); each row that meets fmt, with fmt's text TOLD by the authors' own Lean function (tested against real Go, not proved from fmt's source: count such statements apart). THE CARD IS WHAT COUNTS. Prove the row's statement (the work); the ties are given (YtodbabeldolcbaaGreatDoorTie.lean); close each card by the builder's one call (the guide's Derived/Test/ToyasCard.lean, 'card_holds'). Laid BY PROGRAM, IN A SANDBOX (cutbox-door.mjs). By AI agents, Wed Nov 11 2026. No macro, syntax, notation, axiom, sorry.
-/
import Derived.Test.YtodbabeldolcbaaGreatDoorRows
import GoSem.ClaimSeven
namespace Go.Proofs.YtodbabeldolcbaaGreatDoor
namespace Rows

/-- THE TIED CARD OF 'kauditlaw25.LogfileDecodes'. -/
def logfileDecodesCard : Claim7 := { stood := { row := logfileDecodesRow, standIns := [], harness := (true, "3c04dd434b7c98c68a24eab7e38d4489607d5732e061e774e4557403c6b995db"), looks := true }, kinds := [], alts := [], laidByText := true, laidKinds := [.data, .data, .data, .data, .sentinel, .sentinel, .data, .widerDeep, .pinned], laidTests := true, laidLooks := .later }
def LogfileDecodesCardSaid : Prop := Claim7.holds Tryz.pinned (.plain (OpenSpec.ofChange logfileDecodesSpec)) logfileDecodesCard

/-- THE TIED CARD OF 'kauditlaw25.LogfileBack'. -/
def logfileBackCard : Claim7 := { stood := { row := logfileBackRow, standIns := [], harness := (true, "3c04dd434b7c98c68a24eab7e38d4489607d5732e061e774e4557403c6b995db"), looks := true }, kinds := [], alts := [], laidByText := true, laidKinds := [.data, .data, .data, .data, .sentinel, .sentinel, .data, .widerDeep, .pinned], laidTests := true, laidLooks := .later }
def LogfileBackCardSaid : Prop := Claim7.holds Tryz.pinned (.plain (OpenSpec.ofChange logfileBackSpec)) logfileBackCard

/-- THE TIED CARD OF 'kauditlaw03.RecordBuilt'. -/
def recordBuiltCard : Claim7 := { stood := { row := recordBuiltRow, standIns := [], harness := (true, "3c04dd434b7c98c68a24eab7e38d4489607d5732e061e774e4557403c6b995db"), looks := true }, kinds := [], alts := [], laidByText := true, laidKinds := [.data, .data, .data, .data, .sentinel, .sentinel, .data, .widerDeep, .pinned], laidTests := true, laidLooks := .later }
def RecordBuiltCardSaid : Prop := Claim7.holds Tryz.pinned (.plain (OpenSpec.ofChange recordBuiltSpec)) recordBuiltCard

/-- THE SECOND FORM's CARD OF 'kauditlaw25.LogfileDecodes'. -/
def logfileDecodesUptoCard : Claim7 := { stood := { row := logfileDecodesUptoRow, standIns := [], harness := (true, "3c04dd434b7c98c68a24eab7e38d4489607d5732e061e774e4557403c6b995db"), looks := true }, kinds := [], alts := [], laidByText := true, laidKinds := [.data, .data, .data, .data, .sentinel, .sentinel, .data, .widerDeep, .pinned], laidTests := true, laidLooks := .later }
def LogfileDecodesUptoCardSaid : Prop := Claim7.holds Tryz.pinned (.plain (OpenSpec.upto logfileDecodesSpec)) logfileDecodesUptoCard

/-- THE SECOND FORM's CARD OF 'kauditlaw25.LogfileBack'. -/
def logfileBackUptoCard : Claim7 := { stood := { row := logfileBackUptoRow, standIns := [], harness := (true, "3c04dd434b7c98c68a24eab7e38d4489607d5732e061e774e4557403c6b995db"), looks := true }, kinds := [], alts := [], laidByText := true, laidKinds := [.data, .data, .data, .data, .sentinel, .sentinel, .data, .widerDeep, .pinned], laidTests := true, laidLooks := .later }
def LogfileBackUptoCardSaid : Prop := Claim7.holds Tryz.pinned (.plain (OpenSpec.upto logfileBackSpec)) logfileBackUptoCard

/-- THE SECOND FORM's CARD OF 'kauditlaw03.RecordBuilt'. -/
def recordBuiltUptoCard : Claim7 := { stood := { row := recordBuiltUptoRow, standIns := [], harness := (true, "3c04dd434b7c98c68a24eab7e38d4489607d5732e061e774e4557403c6b995db"), looks := true }, kinds := [], alts := [], laidByText := true, laidKinds := [.data, .data, .data, .data, .sentinel, .sentinel, .data, .widerDeep, .pinned], laidTests := true, laidLooks := .later }
def RecordBuiltUptoCardSaid : Prop := Claim7.holds Tryz.pinned (.plain (OpenSpec.upto recordBuiltSpec)) recordBuiltUptoCard
end Rows
end Go.Proofs.YtodbabeldolcbaaGreatDoor
