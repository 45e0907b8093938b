/-
  DERIVED. GIVEN WITH THE SEED: THE PROGRAM's TIES (one call each: nine closed facts by the kernel) AND EACH ROW's TIE, after the 31st guide's Derived/Test/Toyas{Tie, Card}.lean. No idea stands in it: it is a product of the set-up. Laid BY PROGRAM, IN A SANDBOX (cutbox-door.mjs). By AI agents, Wed Nov 11 2026. No macro, syntax, notation, axiom, sorry.
-/
import Derived.Test.YtkfddpbmclbdhaaDoorRows
import Derived.LaidByTextLater
import Derived.SevenTiedAt
import Derived.LaidSub
import Derived.LaidOnce
namespace Go.Proofs.YtkfddpbmclbdhaaDoor
open Go
set_option maxRecDepth 100000
theorem seatTie1 : Tryd.prog.laidByTextLater [("math/bits.deBruijn32tab", Rows.laid_math_bits_deBruijn32tab), ("math/bits.deBruijn64tab", Rows.laid_math_bits_deBruijn64tab), ("internal/strconv.uint64pow10", Rows.laid_internal_strconv_uint64pow10), ("kaudit/value.digits", Rows.laid_kaudit_value_digits), ("kaudit/record.kinds", Rows.laid_kaudit_record_kinds)] [.data, .data, .data, .data, .widerDeep] true :=
  Program.laidByTextLater_by_one 44 8 65 (by kernel_rfl) (by kernel_rfl) (by kernel_rfl) (by kernel_rfl) (by kernel_rfl) (by kernel_rfl) (fun _ _ => by kernel_rfl)
theorem noOwnUnsafe : Tryd.pinned.checked.prog.headLifts.contains "ownunsafe" = false := by kernel_rfl
theorem tie : Tryd.prog.laidByTextLater [("kaudit/value.digits", Rows.laid_kaudit_value_digits)] [.data] true :=
  Program.laidByTextLater.sub seatTie1 ["kaudit/value.digits"] (by kernel_rfl) (by kernel_rfl)
theorem valueQuotes_row_tie : Rows.valueQuotesRow.laidByTextAt .later Tryd.pinned [.data] true :=
  OpenClaim.laidByTextAt_later rfl rfl tie noOwnUnsafe
theorem valueUnquotes_row_tie : Rows.valueUnquotesRow.laidByTextAt .later Tryd.pinned [.data] true :=
  OpenClaim.laidByTextAt_later rfl rfl tie noOwnUnsafe
theorem valueLimits_row_tie : Rows.valueLimitsRow.laidByTextAt .later Tryd.pinned [.data] true :=
  OpenClaim.laidByTextAt_later rfl rfl tie noOwnUnsafe
theorem tie2 : Tryd.prog.laidByTextLater [("math/bits.deBruijn32tab", Rows.laid_math_bits_deBruijn32tab), ("math/bits.deBruijn64tab", Rows.laid_math_bits_deBruijn64tab), ("internal/strconv.uint64pow10", Rows.laid_internal_strconv_uint64pow10), ("kaudit/value.digits", Rows.laid_kaudit_value_digits)] [.data, .data, .data, .data] true :=
  Program.laidByTextLater.sub seatTie1 ["math/bits.deBruijn32tab", "math/bits.deBruijn64tab", "internal/strconv.uint64pow10", "kaudit/value.digits"] (by kernel_rfl) (by kernel_rfl)
theorem valuePairs_row_tie : Rows.valuePairsRow.laidByTextAt .later Tryd.pinned [.data, .data, .data, .data] true :=
  OpenClaim.laidByTextAt_later rfl rfl tie2 noOwnUnsafe
theorem valueDiffer_row_tie : Rows.valueDifferRow.laidByTextAt .later Tryd.pinned [.data, .data, .data, .data] true :=
  OpenClaim.laidByTextAt_later rfl rfl tie2 noOwnUnsafe
theorem tie3 : Tryd.prog.laidByTextLater [("math/bits.deBruijn32tab", Rows.laid_math_bits_deBruijn32tab), ("math/bits.deBruijn64tab", Rows.laid_math_bits_deBruijn64tab), ("internal/strconv.uint64pow10", Rows.laid_internal_strconv_uint64pow10), ("kaudit/value.digits", Rows.laid_kaudit_value_digits), ("kaudit/record.kinds", Rows.laid_kaudit_record_kinds)] [.data, .data, .data, .data, .widerDeep] true :=
  Program.laidByTextLater.sub seatTie1 ["math/bits.deBruijn32tab", "math/bits.deBruijn64tab", "internal/strconv.uint64pow10", "kaudit/value.digits", "kaudit/record.kinds"] (by kernel_rfl) (by kernel_rfl)
theorem recordChecks_row_tie : Rows.recordChecksRow.laidByTextAt .later Tryd.pinned [.data, .data, .data, .data, .widerDeep] true :=
  OpenClaim.laidByTextAt_later rfl rfl tie3 noOwnUnsafe
theorem recordDiffer_row_tie : Rows.recordDifferRow.laidByTextAt .later Tryd.pinned [.data, .data, .data, .data, .widerDeep] true :=
  OpenClaim.laidByTextAt_later rfl rfl tie3 noOwnUnsafe
theorem recordGets_row_tie : Rows.recordGetsRow.laidByTextAt .later Tryd.pinned [.data, .data, .data, .data, .widerDeep] true :=
  OpenClaim.laidByTextAt_later rfl rfl tie3 noOwnUnsafe
theorem recordNames_row_tie : Rows.recordNamesRow.laidByTextAt .later Tryd.pinned [.data, .data, .data, .data, .widerDeep] true :=
  OpenClaim.laidByTextAt_later rfl rfl tie3 noOwnUnsafe
theorem logfileChecks_row_tie : Rows.logfileChecksRow.laidByTextAt .later Tryd.pinned [.data, .data, .data, .data, .widerDeep] true :=
  OpenClaim.laidByTextAt_later rfl rfl tie3 noOwnUnsafe
theorem logfileEncodes_row_tie : Rows.logfileEncodesRow.laidByTextAt .later Tryd.pinned [.data, .data, .data, .data, .widerDeep] true :=
  OpenClaim.laidByTextAt_later rfl rfl tie3 noOwnUnsafe
theorem logfileFrames_row_tie : Rows.logfileFramesRow.laidByTextAt .later Tryd.pinned [.data, .data, .data, .data, .widerDeep] true :=
  OpenClaim.laidByTextAt_later rfl rfl tie3 noOwnUnsafe
theorem logfileScans_row_tie : Rows.logfileScansRow.laidByTextAt .later Tryd.pinned [.data, .data, .data, .data, .widerDeep] true :=
  OpenClaim.laidByTextAt_later rfl rfl tie3 noOwnUnsafe
theorem logfilePrefix_row_tie : Rows.logfilePrefixRow.laidByTextAt .later Tryd.pinned [.data, .data, .data, .data, .widerDeep] true :=
  OpenClaim.laidByTextAt_later rfl rfl tie3 noOwnUnsafe
theorem logfileAgain_row_tie : Rows.logfileAgainRow.laidByTextAt .later Tryd.pinned [.data, .data, .data, .data, .widerDeep] true :=
  OpenClaim.laidByTextAt_later rfl rfl tie3 noOwnUnsafe
theorem logfileKeys_row_tie : Rows.logfileKeysRow.laidByTextAt .later Tryd.pinned [.data, .data, .data, .data, .widerDeep] true :=
  OpenClaim.laidByTextAt_later rfl rfl tie3 noOwnUnsafe
theorem valueQuotesUpto_row_tie : Rows.valueQuotesUptoRow.laidByTextAt .later Tryd.pinned [.data] true :=
  OpenClaim.laidByTextAt_later rfl rfl tie noOwnUnsafe
theorem valueUnquotesUpto_row_tie : Rows.valueUnquotesUptoRow.laidByTextAt .later Tryd.pinned [.data] true :=
  OpenClaim.laidByTextAt_later rfl rfl tie noOwnUnsafe
theorem valueLimitsUpto_row_tie : Rows.valueLimitsUptoRow.laidByTextAt .later Tryd.pinned [.data] true :=
  OpenClaim.laidByTextAt_later rfl rfl tie noOwnUnsafe
theorem valuePairsUpto_row_tie : Rows.valuePairsUptoRow.laidByTextAt .later Tryd.pinned [.data, .data, .data, .data] true :=
  OpenClaim.laidByTextAt_later rfl rfl tie2 noOwnUnsafe
theorem valueDifferUpto_row_tie : Rows.valueDifferUptoRow.laidByTextAt .later Tryd.pinned [.data, .data, .data, .data] true :=
  OpenClaim.laidByTextAt_later rfl rfl tie2 noOwnUnsafe
theorem recordChecksUpto_row_tie : Rows.recordChecksUptoRow.laidByTextAt .later Tryd.pinned [.data, .data, .data, .data, .widerDeep] true :=
  OpenClaim.laidByTextAt_later rfl rfl tie3 noOwnUnsafe
theorem recordDifferUpto_row_tie : Rows.recordDifferUptoRow.laidByTextAt .later Tryd.pinned [.data, .data, .data, .data, .widerDeep] true :=
  OpenClaim.laidByTextAt_later rfl rfl tie3 noOwnUnsafe
theorem recordGetsUpto_row_tie : Rows.recordGetsUptoRow.laidByTextAt .later Tryd.pinned [.data, .data, .data, .data, .widerDeep] true :=
  OpenClaim.laidByTextAt_later rfl rfl tie3 noOwnUnsafe
theorem recordNamesUpto_row_tie : Rows.recordNamesUptoRow.laidByTextAt .later Tryd.pinned [.data, .data, .data, .data, .widerDeep] true :=
  OpenClaim.laidByTextAt_later rfl rfl tie3 noOwnUnsafe
theorem logfileChecksUpto_row_tie : Rows.logfileChecksUptoRow.laidByTextAt .later Tryd.pinned [.data, .data, .data, .data, .widerDeep] true :=
  OpenClaim.laidByTextAt_later rfl rfl tie3 noOwnUnsafe
theorem logfileEncodesUpto_row_tie : Rows.logfileEncodesUptoRow.laidByTextAt .later Tryd.pinned [.data, .data, .data, .data, .widerDeep] true :=
  OpenClaim.laidByTextAt_later rfl rfl tie3 noOwnUnsafe
theorem logfileFramesUpto_row_tie : Rows.logfileFramesUptoRow.laidByTextAt .later Tryd.pinned [.data, .data, .data, .data, .widerDeep] true :=
  OpenClaim.laidByTextAt_later rfl rfl tie3 noOwnUnsafe
theorem logfileScansUpto_row_tie : Rows.logfileScansUptoRow.laidByTextAt .later Tryd.pinned [.data, .data, .data, .data, .widerDeep] true :=
  OpenClaim.laidByTextAt_later rfl rfl tie3 noOwnUnsafe
theorem logfilePrefixUpto_row_tie : Rows.logfilePrefixUptoRow.laidByTextAt .later Tryd.pinned [.data, .data, .data, .data, .widerDeep] true :=
  OpenClaim.laidByTextAt_later rfl rfl tie3 noOwnUnsafe
theorem logfileAgainUpto_row_tie : Rows.logfileAgainUptoRow.laidByTextAt .later Tryd.pinned [.data, .data, .data, .data, .widerDeep] true :=
  OpenClaim.laidByTextAt_later rfl rfl tie3 noOwnUnsafe
theorem logfileKeysUpto_row_tie : Rows.logfileKeysUptoRow.laidByTextAt .later Tryd.pinned [.data, .data, .data, .data, .widerDeep] true :=
  OpenClaim.laidByTextAt_later rfl rfl tie3 noOwnUnsafe
end Go.Proofs.YtkfddpbmclbdhaaDoor
