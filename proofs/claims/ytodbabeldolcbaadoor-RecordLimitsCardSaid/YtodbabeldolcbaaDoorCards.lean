/-
  DERIVED. GIVEN WITH THE SEED: THE CARDS: each row of YtodbabeldolcbaaDoorRows.lean that lists a variable, with what it lists TIED to the program's text (the seventh form; the later family's looks); each row that meets fmt, with fmt's text TOLD by the authors' own Lean function (tested against real Go, not proved from fmt's source: count such statements apart). THE CARD IS WHAT COUNTS. Prove the row's statement (the work); the ties are given (YtodbabeldolcbaaDoorTie.lean); close each card by the builder's one call (the guide's Derived/Test/ToyasCard.lean, 'card_holds'). Laid BY PROGRAM, IN A SANDBOX (cutbox-door.mjs). By AI agents, Wed Nov 11 2026. No macro, syntax, notation, axiom, sorry.
-/
import Derived.Test.YtodbabeldolcbaaDoorRows
import GoSem.ClaimSeven
namespace Go.Proofs.YtodbabeldolcbaaDoor
namespace Rows

/-- THE TIED CARD OF 'kauditlaw02.ValueParses'. -/
def valueParsesCard : Claim7 := { stood := { row := valueParsesRow, standIns := [], harness := (true, "f6b93238dd3b93313aec582c53a5b8252d09d7cdc3ed12caa9ad640698d95b51"), looks := true }, kinds := [], alts := [], laidByText := true, laidKinds := [.data, .data, .data, .sentinel, .sentinel, .data], laidTests := true, laidLooks := .later }
def ValueParsesCardSaid : Prop := Claim7.holds Tryd.pinned (.plain (OpenSpec.ofChange valueParsesSpec)) valueParsesCard

/-- THE TIED CARD OF 'kauditlaw02.ValueBuilt'. -/
def valueBuiltCard : Claim7 := { stood := { row := valueBuiltRow, standIns := [], harness := (true, "f6b93238dd3b93313aec582c53a5b8252d09d7cdc3ed12caa9ad640698d95b51"), looks := true }, kinds := [], alts := [], laidByText := true, laidKinds := [.data, .data, .data, .sentinel, .sentinel, .data], laidTests := true, laidLooks := .later }
def ValueBuiltCardSaid : Prop := Claim7.holds Tryd.pinned (.plain (OpenSpec.ofChange valueBuiltSpec)) valueBuiltCard

/-- THE TIED CARD OF 'kauditlaw02.ValueBack'. -/
def valueBackCard : Claim7 := { stood := { row := valueBackRow, standIns := [], harness := (true, "f6b93238dd3b93313aec582c53a5b8252d09d7cdc3ed12caa9ad640698d95b51"), looks := true }, kinds := [], alts := [], laidByText := true, laidKinds := [.data, .data, .data, .sentinel, .sentinel, .data], laidTests := true, laidLooks := .later }
def ValueBackCardSaid : Prop := Claim7.holds Tryd.pinned (.plain (OpenSpec.ofChange valueBackSpec)) valueBackCard

/-- THE TIED CARD OF 'kauditlaw03.RecordParses'. -/
def recordParsesCard : Claim7 := { stood := { row := recordParsesRow, standIns := [], harness := (true, "f6b93238dd3b93313aec582c53a5b8252d09d7cdc3ed12caa9ad640698d95b51"), looks := true }, kinds := [], alts := [], laidByText := true, laidKinds := [.data, .data, .data, .data, .sentinel, .sentinel, .data, .widerDeep, .pinned], laidTests := true, laidLooks := .later }
def RecordParsesCardSaid : Prop := Claim7.holds Tryd.pinned (.plain (OpenSpec.ofChange recordParsesSpec)) recordParsesCard

/-- THE TIED CARD OF 'kauditlaw03.RecordBack'. -/
def recordBackCard : Claim7 := { stood := { row := recordBackRow, standIns := [], harness := (true, "f6b93238dd3b93313aec582c53a5b8252d09d7cdc3ed12caa9ad640698d95b51"), looks := true }, kinds := [], alts := [], laidByText := true, laidKinds := [.data, .data, .data, .data, .sentinel, .sentinel, .data, .widerDeep, .pinned], laidTests := true, laidLooks := .later }
def RecordBackCardSaid : Prop := Claim7.holds Tryd.pinned (.plain (OpenSpec.ofChange recordBackSpec)) recordBackCard

/-- THE TIED CARD OF 'kauditlaw03.RecordLimits'. -/
def recordLimitsCard : Claim7 := { stood := { row := recordLimitsRow, standIns := [], harness := (true, "f6b93238dd3b93313aec582c53a5b8252d09d7cdc3ed12caa9ad640698d95b51"), looks := true }, kinds := [], alts := [], laidByText := true, laidKinds := [.data, .data, .data, .data, .sentinel, .sentinel, .data, .widerDeep, .pinned], laidTests := true, laidLooks := .later }
def RecordLimitsCardSaid : Prop := Claim7.holds Tryd.pinned (.plain (OpenSpec.ofChange recordLimitsSpec)) recordLimitsCard

/-- THE SECOND FORM's CARD OF 'kauditlaw02.ValueParses'. -/
def valueParsesUptoCard : Claim7 := { stood := { row := valueParsesUptoRow, standIns := [], harness := (true, "f6b93238dd3b93313aec582c53a5b8252d09d7cdc3ed12caa9ad640698d95b51"), looks := true }, kinds := [], alts := [], laidByText := true, laidKinds := [.data, .data, .data, .sentinel, .sentinel, .data], laidTests := true, laidLooks := .later }
def ValueParsesUptoCardSaid : Prop := Claim7.holds Tryd.pinned (.plain (OpenSpec.upto valueParsesSpec)) valueParsesUptoCard

/-- THE SECOND FORM's CARD OF 'kauditlaw02.ValueBuilt'. -/
def valueBuiltUptoCard : Claim7 := { stood := { row := valueBuiltUptoRow, standIns := [], harness := (true, "f6b93238dd3b93313aec582c53a5b8252d09d7cdc3ed12caa9ad640698d95b51"), looks := true }, kinds := [], alts := [], laidByText := true, laidKinds := [.data, .data, .data, .sentinel, .sentinel, .data], laidTests := true, laidLooks := .later }
def ValueBuiltUptoCardSaid : Prop := Claim7.holds Tryd.pinned (.plain (OpenSpec.upto valueBuiltSpec)) valueBuiltUptoCard

/-- THE SECOND FORM's CARD OF 'kauditlaw02.ValueBack'. -/
def valueBackUptoCard : Claim7 := { stood := { row := valueBackUptoRow, standIns := [], harness := (true, "f6b93238dd3b93313aec582c53a5b8252d09d7cdc3ed12caa9ad640698d95b51"), looks := true }, kinds := [], alts := [], laidByText := true, laidKinds := [.data, .data, .data, .sentinel, .sentinel, .data], laidTests := true, laidLooks := .later }
def ValueBackUptoCardSaid : Prop := Claim7.holds Tryd.pinned (.plain (OpenSpec.upto valueBackSpec)) valueBackUptoCard

/-- THE SECOND FORM's CARD OF 'kauditlaw03.RecordParses'. -/
def recordParsesUptoCard : Claim7 := { stood := { row := recordParsesUptoRow, standIns := [], harness := (true, "f6b93238dd3b93313aec582c53a5b8252d09d7cdc3ed12caa9ad640698d95b51"), looks := true }, kinds := [], alts := [], laidByText := true, laidKinds := [.data, .data, .data, .data, .sentinel, .sentinel, .data, .widerDeep, .pinned], laidTests := true, laidLooks := .later }
def RecordParsesUptoCardSaid : Prop := Claim7.holds Tryd.pinned (.plain (OpenSpec.upto recordParsesSpec)) recordParsesUptoCard

/-- THE SECOND FORM's CARD OF 'kauditlaw03.RecordBack'. -/
def recordBackUptoCard : Claim7 := { stood := { row := recordBackUptoRow, standIns := [], harness := (true, "f6b93238dd3b93313aec582c53a5b8252d09d7cdc3ed12caa9ad640698d95b51"), looks := true }, kinds := [], alts := [], laidByText := true, laidKinds := [.data, .data, .data, .data, .sentinel, .sentinel, .data, .widerDeep, .pinned], laidTests := true, laidLooks := .later }
def RecordBackUptoCardSaid : Prop := Claim7.holds Tryd.pinned (.plain (OpenSpec.upto recordBackSpec)) recordBackUptoCard

/-- THE SECOND FORM's CARD OF 'kauditlaw03.RecordLimits'. -/
def recordLimitsUptoCard : Claim7 := { stood := { row := recordLimitsUptoRow, standIns := [], harness := (true, "f6b93238dd3b93313aec582c53a5b8252d09d7cdc3ed12caa9ad640698d95b51"), looks := true }, kinds := [], alts := [], laidByText := true, laidKinds := [.data, .data, .data, .data, .sentinel, .sentinel, .data, .widerDeep, .pinned], laidTests := true, laidLooks := .later }
def RecordLimitsUptoCardSaid : Prop := Claim7.holds Tryd.pinned (.plain (OpenSpec.upto recordLimitsSpec)) recordLimitsUptoCard
end Rows
end Go.Proofs.YtodbabeldolcbaaDoor
