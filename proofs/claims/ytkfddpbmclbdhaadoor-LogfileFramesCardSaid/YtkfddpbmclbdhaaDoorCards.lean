/-
  DERIVED. GIVEN WITH THE SEED: THE CARDS: each row of YtkfddpbmclbdhaaDoorRows.lean that lists a variable, with what it lists TIED to the program's text (the seventh form; the later family's looks); each row that meets fmt, with fmt's text TOLD by the authors' own Lean function (tested against real Go, not proved from fmt's source: count such statements apart). THE CARD IS WHAT COUNTS. Prove the row's statement (the work); the ties are given (YtkfddpbmclbdhaaDoorTie.lean); close each card by the builder's one call (the guide's Derived/Test/ToyasCard.lean, 'card_holds'). Laid BY PROGRAM, IN A SANDBOX (cutbox-door.mjs). By AI agents, Wed Nov 11 2026. No macro, syntax, notation, axiom, sorry.
-/
import Derived.Test.YtkfddpbmclbdhaaDoorRows
import GoSem.ClaimSeven
namespace Go.Proofs.YtkfddpbmclbdhaaDoor
namespace Rows

/-- THE TIED CARD OF 'kauditlaw02.ValueQuotes'. -/
def valueQuotesCard : Claim7 := { stood := { row := valueQuotesRow, standIns := [], harness := (true, "28c1f9ef838b38a82d152d977f80b65d70822f94e13a72d96990e4abd9686c47"), looks := false }, kinds := [], alts := [], laidByText := true, laidKinds := [.data], laidTests := true, laidLooks := .later }
def ValueQuotesCardSaid : Prop := Claim7.holds Tryd.pinned (.plain (OpenSpec.ofChange valueQuotesSpec)) valueQuotesCard

/-- THE TIED CARD OF 'kauditlaw02.ValueUnquotes'. -/
def valueUnquotesCard : Claim7 := { stood := { row := valueUnquotesRow, standIns := [], harness := (true, "28c1f9ef838b38a82d152d977f80b65d70822f94e13a72d96990e4abd9686c47"), looks := false }, kinds := [], alts := [], laidByText := true, laidKinds := [.data], laidTests := true, laidLooks := .later }
def ValueUnquotesCardSaid : Prop := Claim7.holds Tryd.pinned (.plain (OpenSpec.ofChange valueUnquotesSpec)) valueUnquotesCard

/-- THE TIED CARD OF 'kauditlaw02.ValueLimits'. -/
def valueLimitsCard : Claim7 := { stood := { row := valueLimitsRow, standIns := [], harness := (true, "28c1f9ef838b38a82d152d977f80b65d70822f94e13a72d96990e4abd9686c47"), looks := false }, kinds := [], alts := [], laidByText := true, laidKinds := [.data], laidTests := true, laidLooks := .later }
def ValueLimitsCardSaid : Prop := Claim7.holds Tryd.pinned (.plain (OpenSpec.ofChange valueLimitsSpec)) valueLimitsCard

/-- THE TIED CARD OF 'kauditlaw02.ValuePairs'. -/
def valuePairsCard : Claim7 := { stood := { row := valuePairsRow, standIns := [], harness := (true, "28c1f9ef838b38a82d152d977f80b65d70822f94e13a72d96990e4abd9686c47"), looks := false }, kinds := [], alts := [], laidByText := true, laidKinds := [.data, .data, .data, .data], laidTests := true, laidLooks := .later }
def ValuePairsCardSaid : Prop := Claim7.holds Tryd.pinned (.plain (OpenSpec.ofChange valuePairsSpec)) valuePairsCard

/-- THE TIED CARD OF 'kauditlaw02.ValueDiffer'. -/
def valueDifferCard : Claim7 := { stood := { row := valueDifferRow, standIns := [], harness := (true, "28c1f9ef838b38a82d152d977f80b65d70822f94e13a72d96990e4abd9686c47"), looks := false }, kinds := [], alts := [], laidByText := true, laidKinds := [.data, .data, .data, .data], laidTests := true, laidLooks := .later }
def ValueDifferCardSaid : Prop := Claim7.holds Tryd.pinned (.plain (OpenSpec.ofChange valueDifferSpec)) valueDifferCard

/-- THE TIED CARD OF 'kauditlaw03.RecordChecks'. -/
def recordChecksCard : Claim7 := { stood := { row := recordChecksRow, standIns := [], harness := (true, "28c1f9ef838b38a82d152d977f80b65d70822f94e13a72d96990e4abd9686c47"), looks := false }, kinds := [], alts := [], laidByText := true, laidKinds := [.data, .data, .data, .data, .widerDeep], laidTests := true, laidLooks := .later }
def RecordChecksCardSaid : Prop := Claim7.holds Tryd.pinned (.plain (OpenSpec.ofChange recordChecksSpec)) recordChecksCard

/-- THE TIED CARD OF 'kauditlaw03.RecordDiffer'. -/
def recordDifferCard : Claim7 := { stood := { row := recordDifferRow, standIns := [], harness := (true, "28c1f9ef838b38a82d152d977f80b65d70822f94e13a72d96990e4abd9686c47"), looks := false }, kinds := [], alts := [], laidByText := true, laidKinds := [.data, .data, .data, .data, .widerDeep], laidTests := true, laidLooks := .later }
def RecordDifferCardSaid : Prop := Claim7.holds Tryd.pinned (.plain (OpenSpec.ofChange recordDifferSpec)) recordDifferCard

/-- THE TIED CARD OF 'kauditlaw03.RecordGets'. -/
def recordGetsCard : Claim7 := { stood := { row := recordGetsRow, standIns := [], harness := (true, "28c1f9ef838b38a82d152d977f80b65d70822f94e13a72d96990e4abd9686c47"), looks := false }, kinds := [], alts := [], laidByText := true, laidKinds := [.data, .data, .data, .data, .widerDeep], laidTests := true, laidLooks := .later }
def RecordGetsCardSaid : Prop := Claim7.holds Tryd.pinned (.plain (OpenSpec.ofChange recordGetsSpec)) recordGetsCard

/-- THE TIED CARD OF 'kauditlaw03.RecordNames'. -/
def recordNamesCard : Claim7 := { stood := { row := recordNamesRow, standIns := [], harness := (true, "28c1f9ef838b38a82d152d977f80b65d70822f94e13a72d96990e4abd9686c47"), looks := false }, kinds := [], alts := [], laidByText := true, laidKinds := [.data, .data, .data, .data, .widerDeep], laidTests := true, laidLooks := .later }
def RecordNamesCardSaid : Prop := Claim7.holds Tryd.pinned (.plain (OpenSpec.ofChange recordNamesSpec)) recordNamesCard

/-- THE TIED CARD OF 'kauditlaw25.LogfileChecks'. -/
def logfileChecksCard : Claim7 := { stood := { row := logfileChecksRow, standIns := [], harness := (true, "28c1f9ef838b38a82d152d977f80b65d70822f94e13a72d96990e4abd9686c47"), looks := false }, kinds := [], alts := [], laidByText := true, laidKinds := [.data, .data, .data, .data, .widerDeep], laidTests := true, laidLooks := .later }
def LogfileChecksCardSaid : Prop := Claim7.holds Tryd.pinned (.plain (OpenSpec.ofChange logfileChecksSpec)) logfileChecksCard

/-- THE TIED CARD OF 'kauditlaw25.LogfileEncodes'. -/
def logfileEncodesCard : Claim7 := { stood := { row := logfileEncodesRow, standIns := [], harness := (true, "28c1f9ef838b38a82d152d977f80b65d70822f94e13a72d96990e4abd9686c47"), looks := false }, kinds := [], alts := [], laidByText := true, laidKinds := [.data, .data, .data, .data, .widerDeep], laidTests := true, laidLooks := .later }
def LogfileEncodesCardSaid : Prop := Claim7.holds Tryd.pinned (.plain (OpenSpec.ofChange logfileEncodesSpec)) logfileEncodesCard

/-- THE TIED CARD OF 'kauditlaw25.LogfileFrames'. -/
def logfileFramesCard : Claim7 := { stood := { row := logfileFramesRow, standIns := [], harness := (true, "28c1f9ef838b38a82d152d977f80b65d70822f94e13a72d96990e4abd9686c47"), looks := false }, kinds := [], alts := [], laidByText := true, laidKinds := [.data, .data, .data, .data, .widerDeep], laidTests := true, laidLooks := .later }
def LogfileFramesCardSaid : Prop := Claim7.holds Tryd.pinned (.plain (OpenSpec.ofChange logfileFramesSpec)) logfileFramesCard

/-- THE TIED CARD OF 'kauditlaw25.LogfileScans'. -/
def logfileScansCard : Claim7 := { stood := { row := logfileScansRow, standIns := [], harness := (true, "28c1f9ef838b38a82d152d977f80b65d70822f94e13a72d96990e4abd9686c47"), looks := false }, kinds := [], alts := [], laidByText := true, laidKinds := [.data, .data, .data, .data, .widerDeep], laidTests := true, laidLooks := .later }
def LogfileScansCardSaid : Prop := Claim7.holds Tryd.pinned (.plain (OpenSpec.ofChange logfileScansSpec)) logfileScansCard

/-- THE TIED CARD OF 'kauditlaw25.LogfilePrefix'. -/
def logfilePrefixCard : Claim7 := { stood := { row := logfilePrefixRow, standIns := [], harness := (true, "28c1f9ef838b38a82d152d977f80b65d70822f94e13a72d96990e4abd9686c47"), looks := false }, kinds := [], alts := [], laidByText := true, laidKinds := [.data, .data, .data, .data, .widerDeep], laidTests := true, laidLooks := .later }
def LogfilePrefixCardSaid : Prop := Claim7.holds Tryd.pinned (.plain (OpenSpec.ofChange logfilePrefixSpec)) logfilePrefixCard

/-- THE TIED CARD OF 'kauditlaw25.LogfileAgain'. -/
def logfileAgainCard : Claim7 := { stood := { row := logfileAgainRow, standIns := [], harness := (true, "28c1f9ef838b38a82d152d977f80b65d70822f94e13a72d96990e4abd9686c47"), looks := false }, kinds := [], alts := [], laidByText := true, laidKinds := [.data, .data, .data, .data, .widerDeep], laidTests := true, laidLooks := .later }
def LogfileAgainCardSaid : Prop := Claim7.holds Tryd.pinned (.plain (OpenSpec.ofChange logfileAgainSpec)) logfileAgainCard

/-- THE TIED CARD OF 'kauditlaw25.LogfileKeys'. -/
def logfileKeysCard : Claim7 := { stood := { row := logfileKeysRow, standIns := [], harness := (true, "28c1f9ef838b38a82d152d977f80b65d70822f94e13a72d96990e4abd9686c47"), looks := false }, kinds := [], alts := [], laidByText := true, laidKinds := [.data, .data, .data, .data, .widerDeep], laidTests := true, laidLooks := .later }
def LogfileKeysCardSaid : Prop := Claim7.holds Tryd.pinned (.plain (OpenSpec.ofChange logfileKeysSpec)) logfileKeysCard

/-- THE SECOND FORM's CARD OF 'kauditlaw02.ValueQuotes'. -/
def valueQuotesUptoCard : Claim7 := { stood := { row := valueQuotesUptoRow, standIns := [], harness := (true, "28c1f9ef838b38a82d152d977f80b65d70822f94e13a72d96990e4abd9686c47"), looks := false }, kinds := [], alts := [], laidByText := true, laidKinds := [.data], laidTests := true, laidLooks := .later }
def ValueQuotesUptoCardSaid : Prop := Claim7.holds Tryd.pinned (.plain (OpenSpec.upto valueQuotesSpec)) valueQuotesUptoCard

/-- THE SECOND FORM's CARD OF 'kauditlaw02.ValueUnquotes'. -/
def valueUnquotesUptoCard : Claim7 := { stood := { row := valueUnquotesUptoRow, standIns := [], harness := (true, "28c1f9ef838b38a82d152d977f80b65d70822f94e13a72d96990e4abd9686c47"), looks := false }, kinds := [], alts := [], laidByText := true, laidKinds := [.data], laidTests := true, laidLooks := .later }
def ValueUnquotesUptoCardSaid : Prop := Claim7.holds Tryd.pinned (.plain (OpenSpec.upto valueUnquotesSpec)) valueUnquotesUptoCard

/-- THE SECOND FORM's CARD OF 'kauditlaw02.ValueLimits'. -/
def valueLimitsUptoCard : Claim7 := { stood := { row := valueLimitsUptoRow, standIns := [], harness := (true, "28c1f9ef838b38a82d152d977f80b65d70822f94e13a72d96990e4abd9686c47"), looks := false }, kinds := [], alts := [], laidByText := true, laidKinds := [.data], laidTests := true, laidLooks := .later }
def ValueLimitsUptoCardSaid : Prop := Claim7.holds Tryd.pinned (.plain (OpenSpec.upto valueLimitsSpec)) valueLimitsUptoCard

/-- THE SECOND FORM's CARD OF 'kauditlaw02.ValuePairs'. -/
def valuePairsUptoCard : Claim7 := { stood := { row := valuePairsUptoRow, standIns := [], harness := (true, "28c1f9ef838b38a82d152d977f80b65d70822f94e13a72d96990e4abd9686c47"), looks := false }, kinds := [], alts := [], laidByText := true, laidKinds := [.data, .data, .data, .data], laidTests := true, laidLooks := .later }
def ValuePairsUptoCardSaid : Prop := Claim7.holds Tryd.pinned (.plain (OpenSpec.upto valuePairsSpec)) valuePairsUptoCard

/-- THE SECOND FORM's CARD OF 'kauditlaw02.ValueDiffer'. -/
def valueDifferUptoCard : Claim7 := { stood := { row := valueDifferUptoRow, standIns := [], harness := (true, "28c1f9ef838b38a82d152d977f80b65d70822f94e13a72d96990e4abd9686c47"), looks := false }, kinds := [], alts := [], laidByText := true, laidKinds := [.data, .data, .data, .data], laidTests := true, laidLooks := .later }
def ValueDifferUptoCardSaid : Prop := Claim7.holds Tryd.pinned (.plain (OpenSpec.upto valueDifferSpec)) valueDifferUptoCard

/-- THE SECOND FORM's CARD OF 'kauditlaw03.RecordChecks'. -/
def recordChecksUptoCard : Claim7 := { stood := { row := recordChecksUptoRow, standIns := [], harness := (true, "28c1f9ef838b38a82d152d977f80b65d70822f94e13a72d96990e4abd9686c47"), looks := false }, kinds := [], alts := [], laidByText := true, laidKinds := [.data, .data, .data, .data, .widerDeep], laidTests := true, laidLooks := .later }
def RecordChecksUptoCardSaid : Prop := Claim7.holds Tryd.pinned (.plain (OpenSpec.upto recordChecksSpec)) recordChecksUptoCard

/-- THE SECOND FORM's CARD OF 'kauditlaw03.RecordDiffer'. -/
def recordDifferUptoCard : Claim7 := { stood := { row := recordDifferUptoRow, standIns := [], harness := (true, "28c1f9ef838b38a82d152d977f80b65d70822f94e13a72d96990e4abd9686c47"), looks := false }, kinds := [], alts := [], laidByText := true, laidKinds := [.data, .data, .data, .data, .widerDeep], laidTests := true, laidLooks := .later }
def RecordDifferUptoCardSaid : Prop := Claim7.holds Tryd.pinned (.plain (OpenSpec.upto recordDifferSpec)) recordDifferUptoCard

/-- THE SECOND FORM's CARD OF 'kauditlaw03.RecordGets'. -/
def recordGetsUptoCard : Claim7 := { stood := { row := recordGetsUptoRow, standIns := [], harness := (true, "28c1f9ef838b38a82d152d977f80b65d70822f94e13a72d96990e4abd9686c47"), looks := false }, kinds := [], alts := [], laidByText := true, laidKinds := [.data, .data, .data, .data, .widerDeep], laidTests := true, laidLooks := .later }
def RecordGetsUptoCardSaid : Prop := Claim7.holds Tryd.pinned (.plain (OpenSpec.upto recordGetsSpec)) recordGetsUptoCard

/-- THE SECOND FORM's CARD OF 'kauditlaw03.RecordNames'. -/
def recordNamesUptoCard : Claim7 := { stood := { row := recordNamesUptoRow, standIns := [], harness := (true, "28c1f9ef838b38a82d152d977f80b65d70822f94e13a72d96990e4abd9686c47"), looks := false }, kinds := [], alts := [], laidByText := true, laidKinds := [.data, .data, .data, .data, .widerDeep], laidTests := true, laidLooks := .later }
def RecordNamesUptoCardSaid : Prop := Claim7.holds Tryd.pinned (.plain (OpenSpec.upto recordNamesSpec)) recordNamesUptoCard

/-- THE SECOND FORM's CARD OF 'kauditlaw25.LogfileChecks'. -/
def logfileChecksUptoCard : Claim7 := { stood := { row := logfileChecksUptoRow, standIns := [], harness := (true, "28c1f9ef838b38a82d152d977f80b65d70822f94e13a72d96990e4abd9686c47"), looks := false }, kinds := [], alts := [], laidByText := true, laidKinds := [.data, .data, .data, .data, .widerDeep], laidTests := true, laidLooks := .later }
def LogfileChecksUptoCardSaid : Prop := Claim7.holds Tryd.pinned (.plain (OpenSpec.upto logfileChecksSpec)) logfileChecksUptoCard

/-- THE SECOND FORM's CARD OF 'kauditlaw25.LogfileEncodes'. -/
def logfileEncodesUptoCard : Claim7 := { stood := { row := logfileEncodesUptoRow, standIns := [], harness := (true, "28c1f9ef838b38a82d152d977f80b65d70822f94e13a72d96990e4abd9686c47"), looks := false }, kinds := [], alts := [], laidByText := true, laidKinds := [.data, .data, .data, .data, .widerDeep], laidTests := true, laidLooks := .later }
def LogfileEncodesUptoCardSaid : Prop := Claim7.holds Tryd.pinned (.plain (OpenSpec.upto logfileEncodesSpec)) logfileEncodesUptoCard

/-- THE SECOND FORM's CARD OF 'kauditlaw25.LogfileFrames'. -/
def logfileFramesUptoCard : Claim7 := { stood := { row := logfileFramesUptoRow, standIns := [], harness := (true, "28c1f9ef838b38a82d152d977f80b65d70822f94e13a72d96990e4abd9686c47"), looks := false }, kinds := [], alts := [], laidByText := true, laidKinds := [.data, .data, .data, .data, .widerDeep], laidTests := true, laidLooks := .later }
def LogfileFramesUptoCardSaid : Prop := Claim7.holds Tryd.pinned (.plain (OpenSpec.upto logfileFramesSpec)) logfileFramesUptoCard

/-- THE SECOND FORM's CARD OF 'kauditlaw25.LogfileScans'. -/
def logfileScansUptoCard : Claim7 := { stood := { row := logfileScansUptoRow, standIns := [], harness := (true, "28c1f9ef838b38a82d152d977f80b65d70822f94e13a72d96990e4abd9686c47"), looks := false }, kinds := [], alts := [], laidByText := true, laidKinds := [.data, .data, .data, .data, .widerDeep], laidTests := true, laidLooks := .later }
def LogfileScansUptoCardSaid : Prop := Claim7.holds Tryd.pinned (.plain (OpenSpec.upto logfileScansSpec)) logfileScansUptoCard

/-- THE SECOND FORM's CARD OF 'kauditlaw25.LogfilePrefix'. -/
def logfilePrefixUptoCard : Claim7 := { stood := { row := logfilePrefixUptoRow, standIns := [], harness := (true, "28c1f9ef838b38a82d152d977f80b65d70822f94e13a72d96990e4abd9686c47"), looks := false }, kinds := [], alts := [], laidByText := true, laidKinds := [.data, .data, .data, .data, .widerDeep], laidTests := true, laidLooks := .later }
def LogfilePrefixUptoCardSaid : Prop := Claim7.holds Tryd.pinned (.plain (OpenSpec.upto logfilePrefixSpec)) logfilePrefixUptoCard

/-- THE SECOND FORM's CARD OF 'kauditlaw25.LogfileAgain'. -/
def logfileAgainUptoCard : Claim7 := { stood := { row := logfileAgainUptoRow, standIns := [], harness := (true, "28c1f9ef838b38a82d152d977f80b65d70822f94e13a72d96990e4abd9686c47"), looks := false }, kinds := [], alts := [], laidByText := true, laidKinds := [.data, .data, .data, .data, .widerDeep], laidTests := true, laidLooks := .later }
def LogfileAgainUptoCardSaid : Prop := Claim7.holds Tryd.pinned (.plain (OpenSpec.upto logfileAgainSpec)) logfileAgainUptoCard

/-- THE SECOND FORM's CARD OF 'kauditlaw25.LogfileKeys'. -/
def logfileKeysUptoCard : Claim7 := { stood := { row := logfileKeysUptoRow, standIns := [], harness := (true, "28c1f9ef838b38a82d152d977f80b65d70822f94e13a72d96990e4abd9686c47"), looks := false }, kinds := [], alts := [], laidByText := true, laidKinds := [.data, .data, .data, .data, .widerDeep], laidTests := true, laidLooks := .later }
def LogfileKeysUptoCardSaid : Prop := Claim7.holds Tryd.pinned (.plain (OpenSpec.upto logfileKeysSpec)) logfileKeysUptoCard
end Rows
end Go.Proofs.YtkfddpbmclbdhaaDoor
