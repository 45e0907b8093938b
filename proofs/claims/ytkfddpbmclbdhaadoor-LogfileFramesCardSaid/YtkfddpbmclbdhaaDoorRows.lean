/-
  NARROWER THAN 'FOR EVERY INPUT', by the rows' own cells (each row's printed sentence says how): ValueQuotes: laid · ValueUnquotes: laid · ValueLimits: laid · ValuePairs: laid · ValueDiffer: laid · RecordChecks: laid · RecordDiffer: laid · RecordGets: laid · RecordNames: laid · LogfileChecks: laid · LogfileEncodes: laid · LogfileFrames: laid · LogfileScans: laid · LogfilePrefix: laid · LogfileAgain: laid · LogfileKeys: laid.
  DERIVED. THE GIVEN ROWS OF THIS SEAT. 16 by the template 'for every input the law returns true; each argument reads behind the call as it read before'; 0 by the template 'total and deterministic' (their statements: YtkfddpbmclbdhaaDoorTotals.lean).
  GIVEN WITH THE SEED: the statements are not yours to turn. If you find one false, say at which input.
  Laid BY PROGRAM, IN A SANDBOX (cutbox-rows.mjs): the forced cells as the released guide's own fill.sh prints them over the translation cf00e94297d2cd57… (all of the seat's roots in one cut). By AI agents, Wed Nov 11 2026. No macro, syntax, notation, axiom, sorry.
-/
import Derived.Test.YtkfddpbmclbdhaaDoorChecked
import GoSem.Claim
import GoSem.ClaimJoined
import GoSem.ClaimMapViews
import Derived.JoinedTies
import Derived.KernelRfl
namespace Go.Proofs.YtkfddpbmclbdhaaDoor
/- THE CELL 'sum', in the pinned program and in every row, IS THE sha256 OF THE DUMP (.gsa) THAT YtkfddpbmclbdhaaDoorProg.lean LOADS. Nothing in Lean hashes anything: it is a label: what it is worth is what the hold of that sum in a sandbox is worth. -/
noncomputable def Tryd.pinned : Pinned := { name := "ytkfddpbmclbdhaadoor", sum := "cf00e94297d2cd57f35b2d72678ef26f6db49b575b0de36635ba3f826a85da0b", checked := Tryd.checked }
namespace Rows
def none {H : Type} : Left H := { results := [], args := [] }

/- WHAT THE LISTED PACKAGE-LEVEL VARIABLES READ AS WHEN THE CALL BEGINS. Each datum BY PROGRAM (the guide's laid-datum.mjs) off the statement by which the dump's own 'gosem.cut.vars' lays the variable. In a bare row this is a premise. The card (YtkfddpbmclbdhaaDoorCards.lean) ties it to the program's text. -/
def laid_kaudit_value_digits {H : Type} : DataW H := .agg [.lit (.int .u8 48), .lit (.int .u8 49), .lit (.int .u8 50), .lit (.int .u8 51), .lit (.int .u8 52), .lit (.int .u8 53), .lit (.int .u8 54), .lit (.int .u8 55), .lit (.int .u8 56), .lit (.int .u8 57), .lit (.int .u8 97), .lit (.int .u8 98), .lit (.int .u8 99), .lit (.int .u8 100), .lit (.int .u8 101), .lit (.int .u8 102)]
def laid_math_bits_deBruijn32tab {H : Type} : DataW H := .agg [.lit (.int .u8 0), .lit (.int .u8 1), .lit (.int .u8 28), .lit (.int .u8 2), .lit (.int .u8 29), .lit (.int .u8 14), .lit (.int .u8 24), .lit (.int .u8 3), .lit (.int .u8 30), .lit (.int .u8 22), .lit (.int .u8 20), .lit (.int .u8 15), .lit (.int .u8 25), .lit (.int .u8 17), .lit (.int .u8 4), .lit (.int .u8 8), .lit (.int .u8 31), .lit (.int .u8 27), .lit (.int .u8 13), .lit (.int .u8 23), .lit (.int .u8 21), .lit (.int .u8 19), .lit (.int .u8 16), .lit (.int .u8 7), .lit (.int .u8 26), .lit (.int .u8 12), .lit (.int .u8 18), .lit (.int .u8 6), .lit (.int .u8 11), .lit (.int .u8 5), .lit (.int .u8 10), .lit (.int .u8 9)]
def laid_math_bits_deBruijn64tab {H : Type} : DataW H := .agg [.lit (.int .u8 0), .lit (.int .u8 1), .lit (.int .u8 56), .lit (.int .u8 2), .lit (.int .u8 57), .lit (.int .u8 49), .lit (.int .u8 28), .lit (.int .u8 3), .lit (.int .u8 61), .lit (.int .u8 58), .lit (.int .u8 42), .lit (.int .u8 50), .lit (.int .u8 38), .lit (.int .u8 29), .lit (.int .u8 17), .lit (.int .u8 4), .lit (.int .u8 62), .lit (.int .u8 47), .lit (.int .u8 59), .lit (.int .u8 36), .lit (.int .u8 45), .lit (.int .u8 43), .lit (.int .u8 51), .lit (.int .u8 22), .lit (.int .u8 53), .lit (.int .u8 39), .lit (.int .u8 33), .lit (.int .u8 30), .lit (.int .u8 24), .lit (.int .u8 18), .lit (.int .u8 12), .lit (.int .u8 5), .lit (.int .u8 63), .lit (.int .u8 55), .lit (.int .u8 48), .lit (.int .u8 27), .lit (.int .u8 60), .lit (.int .u8 41), .lit (.int .u8 37), .lit (.int .u8 16), .lit (.int .u8 46), .lit (.int .u8 35), .lit (.int .u8 44), .lit (.int .u8 21), .lit (.int .u8 52), .lit (.int .u8 32), .lit (.int .u8 23), .lit (.int .u8 11), .lit (.int .u8 54), .lit (.int .u8 26), .lit (.int .u8 40), .lit (.int .u8 15), .lit (.int .u8 34), .lit (.int .u8 20), .lit (.int .u8 31), .lit (.int .u8 10), .lit (.int .u8 25), .lit (.int .u8 14), .lit (.int .u8 19), .lit (.int .u8 9), .lit (.int .u8 13), .lit (.int .u8 8), .lit (.int .u8 7), .lit (.int .u8 6)]
def laid_internal_strconv_uint64pow10 {H : Type} : DataW H := .agg [.lit (.int .u64 1), .lit (.int .u64 10), .lit (.int .u64 100), .lit (.int .u64 1000), .lit (.int .u64 10000), .lit (.int .u64 100000), .lit (.int .u64 1000000), .lit (.int .u64 10000000), .lit (.int .u64 100000000), .lit (.int .u64 1000000000), .lit (.int .u64 10000000000), .lit (.int .u64 100000000000), .lit (.int .u64 1000000000000), .lit (.int .u64 10000000000000), .lit (.int .u64 100000000000000), .lit (.int .u64 1000000000000000), .lit (.int .u64 10000000000000000), .lit (.int .u64 100000000000000000), .lit (.int .u64 1000000000000000000), .lit (.int .u64 10000000000000000000)]
def laid_kaudit_record_kinds {H : Type} : DataW H := .agg [.agg [.lit (.string [85, 83, 69, 82]), .lit (.int .i64 1005), .lit (.bool true)], .agg [.lit (.string [68, 65, 69, 77, 79, 78]), .lit (.int .i64 1200), .lit (.bool true)], .agg [.lit (.string [83, 89, 83, 67, 65, 76, 76]), .lit (.int .i64 1300), .lit (.bool false)], .agg [.lit (.string [80, 65, 84, 72]), .lit (.int .i64 1302), .lit (.bool false)], .agg [.lit (.string [67, 79, 78, 70, 73, 71]), .lit (.int .i64 1305), .lit (.bool true)], .agg [.lit (.string [83, 79, 67, 75, 65, 68, 68, 82]), .lit (.int .i64 1306), .lit (.bool false)], .agg [.lit (.string [67, 87, 68]), .lit (.int .i64 1307), .lit (.bool false)], .agg [.lit (.string [69, 88, 69, 67, 86, 69]), .lit (.int .i64 1309), .lit (.bool false)], .agg [.lit (.string [69, 79, 69]), .lit (.int .i64 1320), .lit (.bool false)], .agg [.lit (.string [76, 79, 83, 83]), .lit (.int .i64 1331), .lit (.bool true)]]

/-- 'kauditlaw02.ValueQuotes': WHATEVER THE INPUT: true; the input reads as it did. -/
def valueQuotesSpec : ChangeSpec := { name := "valueQuotes", fn := fun _ => fun
  | [d] => { results := [.lit (.bool true)], args := [d] }
  | _ => none }
def valueQuotesRow : OpenClaim := { program := "ytkfddpbmclbdhaadoor", sum := "cf00e94297d2cd57f35b2d72678ef26f6db49b575b0de36635ba3f826a85da0b", func := "kaudit/kauditlaw02.ValueQuotes", spec := "valueQuotes", named := ["kaudit/value.digits"], apart := false, laid := [("kaudit/value.digits", laid_kaudit_value_digits)] }
def ValueQuotesSaid : Prop := valueQuotesRow.holds Tryd.pinned (OpenSpec.ofChange valueQuotesSpec)

/-- ITS FALSE NEIGHBOUR: 'it returns false'. Refute it at one input. -/
def valueQuotesWrong : ChangeSpec := { name := "valueQuotes", fn := fun _ => fun
  | [d] => { results := [.lit (.bool false)], args := [d] }
  | _ => none }
def ValueQuotesWrongFalsely : Prop := valueQuotesRow.holds Tryd.pinned (OpenSpec.ofChange valueQuotesWrong)

/-- 'kauditlaw02.ValueUnquotes': WHATEVER THE INPUT: true; the input reads as it did. -/
def valueUnquotesSpec : ChangeSpec := { name := "valueUnquotes", fn := fun _ => fun
  | [d] => { results := [.lit (.bool true)], args := [d] }
  | _ => none }
def valueUnquotesRow : OpenClaim := { program := "ytkfddpbmclbdhaadoor", sum := "cf00e94297d2cd57f35b2d72678ef26f6db49b575b0de36635ba3f826a85da0b", func := "kaudit/kauditlaw02.ValueUnquotes", spec := "valueUnquotes", named := ["kaudit/value.digits"], apart := false, laid := [("kaudit/value.digits", laid_kaudit_value_digits)] }
def ValueUnquotesSaid : Prop := valueUnquotesRow.holds Tryd.pinned (OpenSpec.ofChange valueUnquotesSpec)

/-- ITS FALSE NEIGHBOUR: 'it returns false'. Refute it at one input. -/
def valueUnquotesWrong : ChangeSpec := { name := "valueUnquotes", fn := fun _ => fun
  | [d] => { results := [.lit (.bool false)], args := [d] }
  | _ => none }
def ValueUnquotesWrongFalsely : Prop := valueUnquotesRow.holds Tryd.pinned (OpenSpec.ofChange valueUnquotesWrong)

/-- 'kauditlaw02.ValueLimits': WHATEVER THE INPUT: true; the input reads as it did. -/
def valueLimitsSpec : ChangeSpec := { name := "valueLimits", fn := fun _ => fun
  | [d1, d2] => { results := [.lit (.bool true)], args := [d1, d2] }
  | _ => none }
def valueLimitsRow : OpenClaim := { program := "ytkfddpbmclbdhaadoor", sum := "cf00e94297d2cd57f35b2d72678ef26f6db49b575b0de36635ba3f826a85da0b", func := "kaudit/kauditlaw02.ValueLimits", spec := "valueLimits", named := ["kaudit/value.digits"], apart := false, laid := [("kaudit/value.digits", laid_kaudit_value_digits)] }
def ValueLimitsSaid : Prop := valueLimitsRow.holds Tryd.pinned (OpenSpec.ofChange valueLimitsSpec)

/-- ITS FALSE NEIGHBOUR: 'it returns false'. Refute it at one input. -/
def valueLimitsWrong : ChangeSpec := { name := "valueLimits", fn := fun _ => fun
  | [d1, d2] => { results := [.lit (.bool false)], args := [d1, d2] }
  | _ => none }
def ValueLimitsWrongFalsely : Prop := valueLimitsRow.holds Tryd.pinned (OpenSpec.ofChange valueLimitsWrong)

/-- 'kauditlaw02.ValuePairs': WHATEVER THE INPUT: true; the input reads as it did. -/
def valuePairsSpec : ChangeSpec := { name := "valuePairs", fn := fun _ => fun
  | [d] => { results := [.lit (.bool true)], args := [d] }
  | _ => none }
def valuePairsRow : OpenClaim := { program := "ytkfddpbmclbdhaadoor", sum := "cf00e94297d2cd57f35b2d72678ef26f6db49b575b0de36635ba3f826a85da0b", func := "kaudit/kauditlaw02.ValuePairs", spec := "valuePairs", named := ["kaudit/value.digits", "internal/strconv.uint64pow10", "math/bits.deBruijn32tab", "math/bits.deBruijn64tab"], apart := false, laid := [("math/bits.deBruijn32tab", laid_math_bits_deBruijn32tab), ("math/bits.deBruijn64tab", laid_math_bits_deBruijn64tab), ("internal/strconv.uint64pow10", laid_internal_strconv_uint64pow10), ("kaudit/value.digits", laid_kaudit_value_digits)] }
def ValuePairsSaid : Prop := valuePairsRow.holds Tryd.pinned (OpenSpec.ofChange valuePairsSpec)

/-- ITS FALSE NEIGHBOUR: 'it returns false'. Refute it at one input. -/
def valuePairsWrong : ChangeSpec := { name := "valuePairs", fn := fun _ => fun
  | [d] => { results := [.lit (.bool false)], args := [d] }
  | _ => none }
def ValuePairsWrongFalsely : Prop := valuePairsRow.holds Tryd.pinned (OpenSpec.ofChange valuePairsWrong)

/-- 'kauditlaw02.ValueDiffer': WHATEVER THE INPUT: true; the input reads as it did. -/
def valueDifferSpec : ChangeSpec := { name := "valueDiffer", fn := fun _ => fun
  | [d] => { results := [.lit (.bool true)], args := [d] }
  | _ => none }
def valueDifferRow : OpenClaim := { program := "ytkfddpbmclbdhaadoor", sum := "cf00e94297d2cd57f35b2d72678ef26f6db49b575b0de36635ba3f826a85da0b", func := "kaudit/kauditlaw02.ValueDiffer", spec := "valueDiffer", named := ["internal/strconv.uint64pow10", "math/bits.deBruijn32tab", "math/bits.deBruijn64tab", "kaudit/value.digits"], apart := false, laid := [("math/bits.deBruijn32tab", laid_math_bits_deBruijn32tab), ("math/bits.deBruijn64tab", laid_math_bits_deBruijn64tab), ("internal/strconv.uint64pow10", laid_internal_strconv_uint64pow10), ("kaudit/value.digits", laid_kaudit_value_digits)] }
def ValueDifferSaid : Prop := valueDifferRow.holds Tryd.pinned (OpenSpec.ofChange valueDifferSpec)

/-- ITS FALSE NEIGHBOUR: 'it returns false'. Refute it at one input. -/
def valueDifferWrong : ChangeSpec := { name := "valueDiffer", fn := fun _ => fun
  | [d] => { results := [.lit (.bool false)], args := [d] }
  | _ => none }
def ValueDifferWrongFalsely : Prop := valueDifferRow.holds Tryd.pinned (OpenSpec.ofChange valueDifferWrong)

/-- 'kauditlaw03.RecordChecks': WHATEVER THE INPUT: true; the input reads as it did. -/
def recordChecksSpec : ChangeSpec := { name := "recordChecks", fn := fun _ => fun
  | [d] => { results := [.lit (.bool true)], args := [d] }
  | _ => none }
def recordChecksRow : OpenClaim := { program := "ytkfddpbmclbdhaadoor", sum := "cf00e94297d2cd57f35b2d72678ef26f6db49b575b0de36635ba3f826a85da0b", func := "kaudit/kauditlaw03.RecordChecks", spec := "recordChecks", inPlace := ["internal/abi.NoEscape"], unfollowed := true, recurses := true, named := ["kaudit/record.kinds", "internal/strconv.uint64pow10", "math/bits.deBruijn32tab", "math/bits.deBruijn64tab", "kaudit/value.digits"], apart := false, laid := [("math/bits.deBruijn32tab", laid_math_bits_deBruijn32tab), ("math/bits.deBruijn64tab", laid_math_bits_deBruijn64tab), ("internal/strconv.uint64pow10", laid_internal_strconv_uint64pow10), ("kaudit/value.digits", laid_kaudit_value_digits), ("kaudit/record.kinds", laid_kaudit_record_kinds)] }
def RecordChecksSaid : Prop := recordChecksRow.holds Tryd.pinned (OpenSpec.ofChange recordChecksSpec)

/-- ITS FALSE NEIGHBOUR: 'it returns false'. Refute it at one input. -/
def recordChecksWrong : ChangeSpec := { name := "recordChecks", fn := fun _ => fun
  | [d] => { results := [.lit (.bool false)], args := [d] }
  | _ => none }
def RecordChecksWrongFalsely : Prop := recordChecksRow.holds Tryd.pinned (OpenSpec.ofChange recordChecksWrong)

/-- 'kauditlaw03.RecordDiffer': WHATEVER THE INPUT: true; the input reads as it did. -/
def recordDifferSpec : ChangeSpec := { name := "recordDiffer", fn := fun _ => fun
  | [d] => { results := [.lit (.bool true)], args := [d] }
  | _ => none }
def recordDifferRow : OpenClaim := { program := "ytkfddpbmclbdhaadoor", sum := "cf00e94297d2cd57f35b2d72678ef26f6db49b575b0de36635ba3f826a85da0b", func := "kaudit/kauditlaw03.RecordDiffer", spec := "recordDiffer", inPlace := ["internal/abi.NoEscape"], unfollowed := true, recurses := true, named := ["kaudit/record.kinds", "internal/strconv.uint64pow10", "math/bits.deBruijn32tab", "math/bits.deBruijn64tab", "kaudit/value.digits"], apart := false, laid := [("math/bits.deBruijn32tab", laid_math_bits_deBruijn32tab), ("math/bits.deBruijn64tab", laid_math_bits_deBruijn64tab), ("internal/strconv.uint64pow10", laid_internal_strconv_uint64pow10), ("kaudit/value.digits", laid_kaudit_value_digits), ("kaudit/record.kinds", laid_kaudit_record_kinds)] }
def RecordDifferSaid : Prop := recordDifferRow.holds Tryd.pinned (OpenSpec.ofChange recordDifferSpec)

/-- ITS FALSE NEIGHBOUR: 'it returns false'. Refute it at one input. -/
def recordDifferWrong : ChangeSpec := { name := "recordDiffer", fn := fun _ => fun
  | [d] => { results := [.lit (.bool false)], args := [d] }
  | _ => none }
def RecordDifferWrongFalsely : Prop := recordDifferRow.holds Tryd.pinned (OpenSpec.ofChange recordDifferWrong)

/-- 'kauditlaw03.RecordGets': WHATEVER THE INPUT: true; the input reads as it did. -/
def recordGetsSpec : ChangeSpec := { name := "recordGets", fn := fun _ => fun
  | [d1, d2, d3] => { results := [.lit (.bool true)], args := [d1, d2, d3] }
  | _ => none }
def recordGetsRow : OpenClaim := { program := "ytkfddpbmclbdhaadoor", sum := "cf00e94297d2cd57f35b2d72678ef26f6db49b575b0de36635ba3f826a85da0b", func := "kaudit/kauditlaw03.RecordGets", spec := "recordGets", inPlace := ["internal/abi.NoEscape"], unfollowed := true, recurses := true, named := ["kaudit/record.kinds", "internal/strconv.uint64pow10", "math/bits.deBruijn32tab", "math/bits.deBruijn64tab", "kaudit/value.digits"], apart := false, laid := [("math/bits.deBruijn32tab", laid_math_bits_deBruijn32tab), ("math/bits.deBruijn64tab", laid_math_bits_deBruijn64tab), ("internal/strconv.uint64pow10", laid_internal_strconv_uint64pow10), ("kaudit/value.digits", laid_kaudit_value_digits), ("kaudit/record.kinds", laid_kaudit_record_kinds)] }
def RecordGetsSaid : Prop := recordGetsRow.holds Tryd.pinned (OpenSpec.ofChange recordGetsSpec)

/-- ITS FALSE NEIGHBOUR: 'it returns false'. Refute it at one input. -/
def recordGetsWrong : ChangeSpec := { name := "recordGets", fn := fun _ => fun
  | [d1, d2, d3] => { results := [.lit (.bool false)], args := [d1, d2, d3] }
  | _ => none }
def RecordGetsWrongFalsely : Prop := recordGetsRow.holds Tryd.pinned (OpenSpec.ofChange recordGetsWrong)

/-- 'kauditlaw03.RecordNames': WHATEVER THE INPUT: true; the input reads as it did. -/
def recordNamesSpec : ChangeSpec := { name := "recordNames", fn := fun _ => fun
  | [d1, d2] => { results := [.lit (.bool true)], args := [d1, d2] }
  | _ => none }
def recordNamesRow : OpenClaim := { program := "ytkfddpbmclbdhaadoor", sum := "cf00e94297d2cd57f35b2d72678ef26f6db49b575b0de36635ba3f826a85da0b", func := "kaudit/kauditlaw03.RecordNames", spec := "recordNames", inPlace := ["internal/abi.NoEscape"], unfollowed := true, recurses := true, named := ["kaudit/record.kinds", "internal/strconv.uint64pow10", "math/bits.deBruijn32tab", "math/bits.deBruijn64tab", "kaudit/value.digits"], apart := false, laid := [("math/bits.deBruijn32tab", laid_math_bits_deBruijn32tab), ("math/bits.deBruijn64tab", laid_math_bits_deBruijn64tab), ("internal/strconv.uint64pow10", laid_internal_strconv_uint64pow10), ("kaudit/value.digits", laid_kaudit_value_digits), ("kaudit/record.kinds", laid_kaudit_record_kinds)] }
def RecordNamesSaid : Prop := recordNamesRow.holds Tryd.pinned (OpenSpec.ofChange recordNamesSpec)

/-- ITS FALSE NEIGHBOUR: 'it returns false'. Refute it at one input. -/
def recordNamesWrong : ChangeSpec := { name := "recordNames", fn := fun _ => fun
  | [d1, d2] => { results := [.lit (.bool false)], args := [d1, d2] }
  | _ => none }
def RecordNamesWrongFalsely : Prop := recordNamesRow.holds Tryd.pinned (OpenSpec.ofChange recordNamesWrong)

/-- 'kauditlaw25.LogfileChecks': WHATEVER THE INPUT: true; the input reads as it did. -/
def logfileChecksSpec : ChangeSpec := { name := "logfileChecks", fn := fun _ => fun
  | [d1, d2, d3] => { results := [.lit (.bool true)], args := [d1, d2, d3] }
  | _ => none }
def logfileChecksRow : OpenClaim := { program := "ytkfddpbmclbdhaadoor", sum := "cf00e94297d2cd57f35b2d72678ef26f6db49b575b0de36635ba3f826a85da0b", func := "kaudit/kauditlaw25.LogfileChecks", spec := "logfileChecks", inPlace := ["internal/abi.NoEscape"], unfollowed := true, recurses := true, named := ["kaudit/record.kinds", "internal/strconv.uint64pow10", "math/bits.deBruijn32tab", "math/bits.deBruijn64tab", "kaudit/value.digits"], apart := false, laid := [("math/bits.deBruijn32tab", laid_math_bits_deBruijn32tab), ("math/bits.deBruijn64tab", laid_math_bits_deBruijn64tab), ("internal/strconv.uint64pow10", laid_internal_strconv_uint64pow10), ("kaudit/value.digits", laid_kaudit_value_digits), ("kaudit/record.kinds", laid_kaudit_record_kinds)] }
def LogfileChecksSaid : Prop := logfileChecksRow.holds Tryd.pinned (OpenSpec.ofChange logfileChecksSpec)

/-- ITS FALSE NEIGHBOUR: 'it returns false'. Refute it at one input. -/
def logfileChecksWrong : ChangeSpec := { name := "logfileChecks", fn := fun _ => fun
  | [d1, d2, d3] => { results := [.lit (.bool false)], args := [d1, d2, d3] }
  | _ => none }
def LogfileChecksWrongFalsely : Prop := logfileChecksRow.holds Tryd.pinned (OpenSpec.ofChange logfileChecksWrong)

/-- 'kauditlaw25.LogfileEncodes': WHATEVER THE INPUT: true; the input reads as it did. -/
def logfileEncodesSpec : ChangeSpec := { name := "logfileEncodes", fn := fun _ => fun
  | [d1, d2, d3] => { results := [.lit (.bool true)], args := [d1, d2, d3] }
  | _ => none }
def logfileEncodesRow : OpenClaim := { program := "ytkfddpbmclbdhaadoor", sum := "cf00e94297d2cd57f35b2d72678ef26f6db49b575b0de36635ba3f826a85da0b", func := "kaudit/kauditlaw25.LogfileEncodes", spec := "logfileEncodes", inPlace := ["internal/abi.NoEscape"], unfollowed := true, recurses := true, named := ["kaudit/record.kinds", "internal/strconv.uint64pow10", "math/bits.deBruijn32tab", "math/bits.deBruijn64tab", "kaudit/value.digits"], apart := false, laid := [("math/bits.deBruijn32tab", laid_math_bits_deBruijn32tab), ("math/bits.deBruijn64tab", laid_math_bits_deBruijn64tab), ("internal/strconv.uint64pow10", laid_internal_strconv_uint64pow10), ("kaudit/value.digits", laid_kaudit_value_digits), ("kaudit/record.kinds", laid_kaudit_record_kinds)] }
def LogfileEncodesSaid : Prop := logfileEncodesRow.holds Tryd.pinned (OpenSpec.ofChange logfileEncodesSpec)

/-- ITS FALSE NEIGHBOUR: 'it returns false'. Refute it at one input. -/
def logfileEncodesWrong : ChangeSpec := { name := "logfileEncodes", fn := fun _ => fun
  | [d1, d2, d3] => { results := [.lit (.bool false)], args := [d1, d2, d3] }
  | _ => none }
def LogfileEncodesWrongFalsely : Prop := logfileEncodesRow.holds Tryd.pinned (OpenSpec.ofChange logfileEncodesWrong)

/-- 'kauditlaw25.LogfileFrames': WHATEVER THE INPUT: true; the input reads as it did. -/
def logfileFramesSpec : ChangeSpec := { name := "logfileFrames", fn := fun _ => fun
  | [d1, d2, d3, d4, d5] => { results := [.lit (.bool true)], args := [d1, d2, d3, d4, d5] }
  | _ => none }
def logfileFramesRow : OpenClaim := { program := "ytkfddpbmclbdhaadoor", sum := "cf00e94297d2cd57f35b2d72678ef26f6db49b575b0de36635ba3f826a85da0b", func := "kaudit/kauditlaw25.LogfileFrames", spec := "logfileFrames", inPlace := ["internal/abi.NoEscape"], unfollowed := true, recurses := true, named := ["kaudit/record.kinds", "internal/strconv.uint64pow10", "math/bits.deBruijn32tab", "math/bits.deBruijn64tab", "kaudit/value.digits"], apart := false, laid := [("math/bits.deBruijn32tab", laid_math_bits_deBruijn32tab), ("math/bits.deBruijn64tab", laid_math_bits_deBruijn64tab), ("internal/strconv.uint64pow10", laid_internal_strconv_uint64pow10), ("kaudit/value.digits", laid_kaudit_value_digits), ("kaudit/record.kinds", laid_kaudit_record_kinds)] }
def LogfileFramesSaid : Prop := logfileFramesRow.holds Tryd.pinned (OpenSpec.ofChange logfileFramesSpec)

/-- ITS FALSE NEIGHBOUR: 'it returns false'. Refute it at one input. -/
def logfileFramesWrong : ChangeSpec := { name := "logfileFrames", fn := fun _ => fun
  | [d1, d2, d3, d4, d5] => { results := [.lit (.bool false)], args := [d1, d2, d3, d4, d5] }
  | _ => none }
def LogfileFramesWrongFalsely : Prop := logfileFramesRow.holds Tryd.pinned (OpenSpec.ofChange logfileFramesWrong)

/-- 'kauditlaw25.LogfileScans': WHATEVER THE INPUT: true; the input reads as it did. -/
def logfileScansSpec : ChangeSpec := { name := "logfileScans", fn := fun _ => fun
  | [d1, d2, d3, d4, d5, d6] => { results := [.lit (.bool true)], args := [d1, d2, d3, d4, d5, d6] }
  | _ => none }
def logfileScansRow : OpenClaim := { program := "ytkfddpbmclbdhaadoor", sum := "cf00e94297d2cd57f35b2d72678ef26f6db49b575b0de36635ba3f826a85da0b", func := "kaudit/kauditlaw25.LogfileScans", spec := "logfileScans", inPlace := ["internal/abi.NoEscape"], unfollowed := true, recurses := true, named := ["kaudit/record.kinds", "internal/strconv.uint64pow10", "math/bits.deBruijn32tab", "math/bits.deBruijn64tab", "kaudit/value.digits"], apart := false, laid := [("math/bits.deBruijn32tab", laid_math_bits_deBruijn32tab), ("math/bits.deBruijn64tab", laid_math_bits_deBruijn64tab), ("internal/strconv.uint64pow10", laid_internal_strconv_uint64pow10), ("kaudit/value.digits", laid_kaudit_value_digits), ("kaudit/record.kinds", laid_kaudit_record_kinds)] }
def LogfileScansSaid : Prop := logfileScansRow.holds Tryd.pinned (OpenSpec.ofChange logfileScansSpec)

/-- ITS FALSE NEIGHBOUR: 'it returns false'. Refute it at one input. -/
def logfileScansWrong : ChangeSpec := { name := "logfileScans", fn := fun _ => fun
  | [d1, d2, d3, d4, d5, d6] => { results := [.lit (.bool false)], args := [d1, d2, d3, d4, d5, d6] }
  | _ => none }
def LogfileScansWrongFalsely : Prop := logfileScansRow.holds Tryd.pinned (OpenSpec.ofChange logfileScansWrong)

/-- 'kauditlaw25.LogfilePrefix': WHATEVER THE INPUT: true; the input reads as it did. -/
def logfilePrefixSpec : ChangeSpec := { name := "logfilePrefix", fn := fun _ => fun
  | [d1, d2] => { results := [.lit (.bool true)], args := [d1, d2] }
  | _ => none }
def logfilePrefixRow : OpenClaim := { program := "ytkfddpbmclbdhaadoor", sum := "cf00e94297d2cd57f35b2d72678ef26f6db49b575b0de36635ba3f826a85da0b", func := "kaudit/kauditlaw25.LogfilePrefix", spec := "logfilePrefix", inPlace := ["internal/abi.NoEscape"], unfollowed := true, recurses := true, named := ["kaudit/record.kinds", "internal/strconv.uint64pow10", "math/bits.deBruijn32tab", "math/bits.deBruijn64tab", "kaudit/value.digits"], apart := false, laid := [("math/bits.deBruijn32tab", laid_math_bits_deBruijn32tab), ("math/bits.deBruijn64tab", laid_math_bits_deBruijn64tab), ("internal/strconv.uint64pow10", laid_internal_strconv_uint64pow10), ("kaudit/value.digits", laid_kaudit_value_digits), ("kaudit/record.kinds", laid_kaudit_record_kinds)] }
def LogfilePrefixSaid : Prop := logfilePrefixRow.holds Tryd.pinned (OpenSpec.ofChange logfilePrefixSpec)

/-- ITS FALSE NEIGHBOUR: 'it returns false'. Refute it at one input. -/
def logfilePrefixWrong : ChangeSpec := { name := "logfilePrefix", fn := fun _ => fun
  | [d1, d2] => { results := [.lit (.bool false)], args := [d1, d2] }
  | _ => none }
def LogfilePrefixWrongFalsely : Prop := logfilePrefixRow.holds Tryd.pinned (OpenSpec.ofChange logfilePrefixWrong)

/-- 'kauditlaw25.LogfileAgain': WHATEVER THE INPUT: true; the input reads as it did. -/
def logfileAgainSpec : ChangeSpec := { name := "logfileAgain", fn := fun _ => fun
  | [d1, d2, d3, d4] => { results := [.lit (.bool true)], args := [d1, d2, d3, d4] }
  | _ => none }
def logfileAgainRow : OpenClaim := { program := "ytkfddpbmclbdhaadoor", sum := "cf00e94297d2cd57f35b2d72678ef26f6db49b575b0de36635ba3f826a85da0b", func := "kaudit/kauditlaw25.LogfileAgain", spec := "logfileAgain", inPlace := ["internal/abi.NoEscape"], unfollowed := true, recurses := true, named := ["kaudit/record.kinds", "internal/strconv.uint64pow10", "math/bits.deBruijn32tab", "math/bits.deBruijn64tab", "kaudit/value.digits"], apart := false, laid := [("math/bits.deBruijn32tab", laid_math_bits_deBruijn32tab), ("math/bits.deBruijn64tab", laid_math_bits_deBruijn64tab), ("internal/strconv.uint64pow10", laid_internal_strconv_uint64pow10), ("kaudit/value.digits", laid_kaudit_value_digits), ("kaudit/record.kinds", laid_kaudit_record_kinds)] }
def LogfileAgainSaid : Prop := logfileAgainRow.holds Tryd.pinned (OpenSpec.ofChange logfileAgainSpec)

/-- ITS FALSE NEIGHBOUR: 'it returns false'. Refute it at one input. -/
def logfileAgainWrong : ChangeSpec := { name := "logfileAgain", fn := fun _ => fun
  | [d1, d2, d3, d4] => { results := [.lit (.bool false)], args := [d1, d2, d3, d4] }
  | _ => none }
def LogfileAgainWrongFalsely : Prop := logfileAgainRow.holds Tryd.pinned (OpenSpec.ofChange logfileAgainWrong)

/-- 'kauditlaw25.LogfileKeys': WHATEVER THE INPUT: true; the input reads as it did. -/
def logfileKeysSpec : ChangeSpec := { name := "logfileKeys", fn := fun _ => fun
  | [d1, d2] => { results := [.lit (.bool true)], args := [d1, d2] }
  | _ => none }
def logfileKeysRow : OpenClaim := { program := "ytkfddpbmclbdhaadoor", sum := "cf00e94297d2cd57f35b2d72678ef26f6db49b575b0de36635ba3f826a85da0b", func := "kaudit/kauditlaw25.LogfileKeys", spec := "logfileKeys", inPlace := ["internal/abi.NoEscape"], unfollowed := true, recurses := true, named := ["kaudit/record.kinds", "internal/strconv.uint64pow10", "math/bits.deBruijn32tab", "math/bits.deBruijn64tab", "kaudit/value.digits"], apart := false, laid := [("math/bits.deBruijn32tab", laid_math_bits_deBruijn32tab), ("math/bits.deBruijn64tab", laid_math_bits_deBruijn64tab), ("internal/strconv.uint64pow10", laid_internal_strconv_uint64pow10), ("kaudit/value.digits", laid_kaudit_value_digits), ("kaudit/record.kinds", laid_kaudit_record_kinds)] }
def LogfileKeysSaid : Prop := logfileKeysRow.holds Tryd.pinned (OpenSpec.ofChange logfileKeysSpec)

/-- ITS FALSE NEIGHBOUR: 'it returns false'. Refute it at one input. -/
def logfileKeysWrong : ChangeSpec := { name := "logfileKeys", fn := fun _ => fun
  | [d1, d2] => { results := [.lit (.bool false)], args := [d1, d2] }
  | _ => none }
def LogfileKeysWrongFalsely : Prop := logfileKeysRow.holds Tryd.pinned (OpenSpec.ofChange logfileKeysWrong)

/- THE SECOND FORM. 'bulk': how many values and letters a reading holds, each counted each time it is reached (what is shared counts as often as it is met; a slice's spare places count too). A statement '..UptoSaid' is the law's where the arguments, and the package variables that the reading takes, are together of bulk at most 1048576: NARROWER than '..Said'. Prove '..Said' where nothing that the law and all that it calls make is longer than what came in: it says more and counts as full. Else prove '..UptoSaid'. A law counts once. -/
mutual
def uptoBulk {H : Type} : DataW H → Nat
  | .lit (.string bytes) => bytes.length + 1
  | .lit _ => 1
  | .nil => 1
  | .ptr d => uptoBulk d + 1
  | .slice elems spare => uptoBulkAll elems + uptoBulkAll spare + 1
  | .agg parts => uptoBulkAll parts + 1
  | .iface _ d => uptoBulk d + 1
  | .map entries => uptoBulkEntries entries + 1
  | .held _ => 1
def uptoBulkAll {H : Type} : List (DataW H) → Nat
  | [] => 0
  | d :: r => uptoBulk d + uptoBulkAll r
def uptoBulkEntries {H : Type} : List (Lit × DataW H) → Nat
  | [] => 0
  | x :: r => uptoBulkEntry x + uptoBulkEntries r
def uptoBulkEntry {H : Type} : Lit × DataW H → Nat
  | (.string bytes, d) => bytes.length + uptoBulk d + 1
  | (_, d) => uptoBulk d + 1
 end
def uptoSmall : (H : Type) → List (DataW H) → Bool := fun _ ds => decide (uptoBulkAll ds ≤ 1048576)
def OpenSpec.upto (s : _root_.Go.ChangeSpec) : _root_.Go.OpenSpec := { _root_.Go.OpenSpec.ofChange s with cond := some uptoSmall }

/-- 'kauditlaw02.ValueQuotes', WHERE WHAT IT READS IS OF BULK AT MOST 1048576: true; the input reads as it did. -/
def valueQuotesUptoRow : OpenClaim := { program := "ytkfddpbmclbdhaadoor", sum := "cf00e94297d2cd57f35b2d72678ef26f6db49b575b0de36635ba3f826a85da0b", func := "kaudit/kauditlaw02.ValueQuotes", spec := "valueQuotes", named := ["kaudit/value.digits"], apart := false, laid := [("kaudit/value.digits", laid_kaudit_value_digits)], narrowed := true }
def ValueQuotesUptoSaid : Prop := valueQuotesUptoRow.holds Tryd.pinned (OpenSpec.upto valueQuotesSpec)

/-- 'kauditlaw02.ValueUnquotes', WHERE WHAT IT READS IS OF BULK AT MOST 1048576: true; the input reads as it did. -/
def valueUnquotesUptoRow : OpenClaim := { program := "ytkfddpbmclbdhaadoor", sum := "cf00e94297d2cd57f35b2d72678ef26f6db49b575b0de36635ba3f826a85da0b", func := "kaudit/kauditlaw02.ValueUnquotes", spec := "valueUnquotes", named := ["kaudit/value.digits"], apart := false, laid := [("kaudit/value.digits", laid_kaudit_value_digits)], narrowed := true }
def ValueUnquotesUptoSaid : Prop := valueUnquotesUptoRow.holds Tryd.pinned (OpenSpec.upto valueUnquotesSpec)

/-- 'kauditlaw02.ValueLimits', WHERE WHAT IT READS IS OF BULK AT MOST 1048576: true; the input reads as it did. -/
def valueLimitsUptoRow : OpenClaim := { program := "ytkfddpbmclbdhaadoor", sum := "cf00e94297d2cd57f35b2d72678ef26f6db49b575b0de36635ba3f826a85da0b", func := "kaudit/kauditlaw02.ValueLimits", spec := "valueLimits", named := ["kaudit/value.digits"], apart := false, laid := [("kaudit/value.digits", laid_kaudit_value_digits)], narrowed := true }
def ValueLimitsUptoSaid : Prop := valueLimitsUptoRow.holds Tryd.pinned (OpenSpec.upto valueLimitsSpec)

/-- 'kauditlaw02.ValuePairs', WHERE WHAT IT READS IS OF BULK AT MOST 1048576: true; the input reads as it did. -/
def valuePairsUptoRow : OpenClaim := { program := "ytkfddpbmclbdhaadoor", sum := "cf00e94297d2cd57f35b2d72678ef26f6db49b575b0de36635ba3f826a85da0b", func := "kaudit/kauditlaw02.ValuePairs", spec := "valuePairs", named := ["kaudit/value.digits", "internal/strconv.uint64pow10", "math/bits.deBruijn32tab", "math/bits.deBruijn64tab"], apart := false, laid := [("math/bits.deBruijn32tab", laid_math_bits_deBruijn32tab), ("math/bits.deBruijn64tab", laid_math_bits_deBruijn64tab), ("internal/strconv.uint64pow10", laid_internal_strconv_uint64pow10), ("kaudit/value.digits", laid_kaudit_value_digits)], narrowed := true }
def ValuePairsUptoSaid : Prop := valuePairsUptoRow.holds Tryd.pinned (OpenSpec.upto valuePairsSpec)

/-- 'kauditlaw02.ValueDiffer', WHERE WHAT IT READS IS OF BULK AT MOST 1048576: true; the input reads as it did. -/
def valueDifferUptoRow : OpenClaim := { program := "ytkfddpbmclbdhaadoor", sum := "cf00e94297d2cd57f35b2d72678ef26f6db49b575b0de36635ba3f826a85da0b", func := "kaudit/kauditlaw02.ValueDiffer", spec := "valueDiffer", named := ["internal/strconv.uint64pow10", "math/bits.deBruijn32tab", "math/bits.deBruijn64tab", "kaudit/value.digits"], apart := false, laid := [("math/bits.deBruijn32tab", laid_math_bits_deBruijn32tab), ("math/bits.deBruijn64tab", laid_math_bits_deBruijn64tab), ("internal/strconv.uint64pow10", laid_internal_strconv_uint64pow10), ("kaudit/value.digits", laid_kaudit_value_digits)], narrowed := true }
def ValueDifferUptoSaid : Prop := valueDifferUptoRow.holds Tryd.pinned (OpenSpec.upto valueDifferSpec)

/-- 'kauditlaw03.RecordChecks', WHERE WHAT IT READS IS OF BULK AT MOST 1048576: true; the input reads as it did. -/
def recordChecksUptoRow : OpenClaim := { program := "ytkfddpbmclbdhaadoor", sum := "cf00e94297d2cd57f35b2d72678ef26f6db49b575b0de36635ba3f826a85da0b", func := "kaudit/kauditlaw03.RecordChecks", spec := "recordChecks", inPlace := ["internal/abi.NoEscape"], unfollowed := true, recurses := true, named := ["kaudit/record.kinds", "internal/strconv.uint64pow10", "math/bits.deBruijn32tab", "math/bits.deBruijn64tab", "kaudit/value.digits"], apart := false, laid := [("math/bits.deBruijn32tab", laid_math_bits_deBruijn32tab), ("math/bits.deBruijn64tab", laid_math_bits_deBruijn64tab), ("internal/strconv.uint64pow10", laid_internal_strconv_uint64pow10), ("kaudit/value.digits", laid_kaudit_value_digits), ("kaudit/record.kinds", laid_kaudit_record_kinds)], narrowed := true }
def RecordChecksUptoSaid : Prop := recordChecksUptoRow.holds Tryd.pinned (OpenSpec.upto recordChecksSpec)

/-- 'kauditlaw03.RecordDiffer', WHERE WHAT IT READS IS OF BULK AT MOST 1048576: true; the input reads as it did. -/
def recordDifferUptoRow : OpenClaim := { program := "ytkfddpbmclbdhaadoor", sum := "cf00e94297d2cd57f35b2d72678ef26f6db49b575b0de36635ba3f826a85da0b", func := "kaudit/kauditlaw03.RecordDiffer", spec := "recordDiffer", inPlace := ["internal/abi.NoEscape"], unfollowed := true, recurses := true, named := ["kaudit/record.kinds", "internal/strconv.uint64pow10", "math/bits.deBruijn32tab", "math/bits.deBruijn64tab", "kaudit/value.digits"], apart := false, laid := [("math/bits.deBruijn32tab", laid_math_bits_deBruijn32tab), ("math/bits.deBruijn64tab", laid_math_bits_deBruijn64tab), ("internal/strconv.uint64pow10", laid_internal_strconv_uint64pow10), ("kaudit/value.digits", laid_kaudit_value_digits), ("kaudit/record.kinds", laid_kaudit_record_kinds)], narrowed := true }
def RecordDifferUptoSaid : Prop := recordDifferUptoRow.holds Tryd.pinned (OpenSpec.upto recordDifferSpec)

/-- 'kauditlaw03.RecordGets', WHERE WHAT IT READS IS OF BULK AT MOST 1048576: true; the input reads as it did. -/
def recordGetsUptoRow : OpenClaim := { program := "ytkfddpbmclbdhaadoor", sum := "cf00e94297d2cd57f35b2d72678ef26f6db49b575b0de36635ba3f826a85da0b", func := "kaudit/kauditlaw03.RecordGets", spec := "recordGets", inPlace := ["internal/abi.NoEscape"], unfollowed := true, recurses := true, named := ["kaudit/record.kinds", "internal/strconv.uint64pow10", "math/bits.deBruijn32tab", "math/bits.deBruijn64tab", "kaudit/value.digits"], apart := false, laid := [("math/bits.deBruijn32tab", laid_math_bits_deBruijn32tab), ("math/bits.deBruijn64tab", laid_math_bits_deBruijn64tab), ("internal/strconv.uint64pow10", laid_internal_strconv_uint64pow10), ("kaudit/value.digits", laid_kaudit_value_digits), ("kaudit/record.kinds", laid_kaudit_record_kinds)], narrowed := true }
def RecordGetsUptoSaid : Prop := recordGetsUptoRow.holds Tryd.pinned (OpenSpec.upto recordGetsSpec)

/-- 'kauditlaw03.RecordNames', WHERE WHAT IT READS IS OF BULK AT MOST 1048576: true; the input reads as it did. -/
def recordNamesUptoRow : OpenClaim := { program := "ytkfddpbmclbdhaadoor", sum := "cf00e94297d2cd57f35b2d72678ef26f6db49b575b0de36635ba3f826a85da0b", func := "kaudit/kauditlaw03.RecordNames", spec := "recordNames", inPlace := ["internal/abi.NoEscape"], unfollowed := true, recurses := true, named := ["kaudit/record.kinds", "internal/strconv.uint64pow10", "math/bits.deBruijn32tab", "math/bits.deBruijn64tab", "kaudit/value.digits"], apart := false, laid := [("math/bits.deBruijn32tab", laid_math_bits_deBruijn32tab), ("math/bits.deBruijn64tab", laid_math_bits_deBruijn64tab), ("internal/strconv.uint64pow10", laid_internal_strconv_uint64pow10), ("kaudit/value.digits", laid_kaudit_value_digits), ("kaudit/record.kinds", laid_kaudit_record_kinds)], narrowed := true }
def RecordNamesUptoSaid : Prop := recordNamesUptoRow.holds Tryd.pinned (OpenSpec.upto recordNamesSpec)

/-- 'kauditlaw25.LogfileChecks', WHERE WHAT IT READS IS OF BULK AT MOST 1048576: true; the input reads as it did. -/
def logfileChecksUptoRow : OpenClaim := { program := "ytkfddpbmclbdhaadoor", sum := "cf00e94297d2cd57f35b2d72678ef26f6db49b575b0de36635ba3f826a85da0b", func := "kaudit/kauditlaw25.LogfileChecks", spec := "logfileChecks", inPlace := ["internal/abi.NoEscape"], unfollowed := true, recurses := true, named := ["kaudit/record.kinds", "internal/strconv.uint64pow10", "math/bits.deBruijn32tab", "math/bits.deBruijn64tab", "kaudit/value.digits"], apart := false, laid := [("math/bits.deBruijn32tab", laid_math_bits_deBruijn32tab), ("math/bits.deBruijn64tab", laid_math_bits_deBruijn64tab), ("internal/strconv.uint64pow10", laid_internal_strconv_uint64pow10), ("kaudit/value.digits", laid_kaudit_value_digits), ("kaudit/record.kinds", laid_kaudit_record_kinds)], narrowed := true }
def LogfileChecksUptoSaid : Prop := logfileChecksUptoRow.holds Tryd.pinned (OpenSpec.upto logfileChecksSpec)

/-- 'kauditlaw25.LogfileEncodes', WHERE WHAT IT READS IS OF BULK AT MOST 1048576: true; the input reads as it did. -/
def logfileEncodesUptoRow : OpenClaim := { program := "ytkfddpbmclbdhaadoor", sum := "cf00e94297d2cd57f35b2d72678ef26f6db49b575b0de36635ba3f826a85da0b", func := "kaudit/kauditlaw25.LogfileEncodes", spec := "logfileEncodes", inPlace := ["internal/abi.NoEscape"], unfollowed := true, recurses := true, named := ["kaudit/record.kinds", "internal/strconv.uint64pow10", "math/bits.deBruijn32tab", "math/bits.deBruijn64tab", "kaudit/value.digits"], apart := false, laid := [("math/bits.deBruijn32tab", laid_math_bits_deBruijn32tab), ("math/bits.deBruijn64tab", laid_math_bits_deBruijn64tab), ("internal/strconv.uint64pow10", laid_internal_strconv_uint64pow10), ("kaudit/value.digits", laid_kaudit_value_digits), ("kaudit/record.kinds", laid_kaudit_record_kinds)], narrowed := true }
def LogfileEncodesUptoSaid : Prop := logfileEncodesUptoRow.holds Tryd.pinned (OpenSpec.upto logfileEncodesSpec)

/-- 'kauditlaw25.LogfileFrames', WHERE WHAT IT READS IS OF BULK AT MOST 1048576: true; the input reads as it did. -/
def logfileFramesUptoRow : OpenClaim := { program := "ytkfddpbmclbdhaadoor", sum := "cf00e94297d2cd57f35b2d72678ef26f6db49b575b0de36635ba3f826a85da0b", func := "kaudit/kauditlaw25.LogfileFrames", spec := "logfileFrames", inPlace := ["internal/abi.NoEscape"], unfollowed := true, recurses := true, named := ["kaudit/record.kinds", "internal/strconv.uint64pow10", "math/bits.deBruijn32tab", "math/bits.deBruijn64tab", "kaudit/value.digits"], apart := false, laid := [("math/bits.deBruijn32tab", laid_math_bits_deBruijn32tab), ("math/bits.deBruijn64tab", laid_math_bits_deBruijn64tab), ("internal/strconv.uint64pow10", laid_internal_strconv_uint64pow10), ("kaudit/value.digits", laid_kaudit_value_digits), ("kaudit/record.kinds", laid_kaudit_record_kinds)], narrowed := true }
def LogfileFramesUptoSaid : Prop := logfileFramesUptoRow.holds Tryd.pinned (OpenSpec.upto logfileFramesSpec)

/-- 'kauditlaw25.LogfileScans', WHERE WHAT IT READS IS OF BULK AT MOST 1048576: true; the input reads as it did. -/
def logfileScansUptoRow : OpenClaim := { program := "ytkfddpbmclbdhaadoor", sum := "cf00e94297d2cd57f35b2d72678ef26f6db49b575b0de36635ba3f826a85da0b", func := "kaudit/kauditlaw25.LogfileScans", spec := "logfileScans", inPlace := ["internal/abi.NoEscape"], unfollowed := true, recurses := true, named := ["kaudit/record.kinds", "internal/strconv.uint64pow10", "math/bits.deBruijn32tab", "math/bits.deBruijn64tab", "kaudit/value.digits"], apart := false, laid := [("math/bits.deBruijn32tab", laid_math_bits_deBruijn32tab), ("math/bits.deBruijn64tab", laid_math_bits_deBruijn64tab), ("internal/strconv.uint64pow10", laid_internal_strconv_uint64pow10), ("kaudit/value.digits", laid_kaudit_value_digits), ("kaudit/record.kinds", laid_kaudit_record_kinds)], narrowed := true }
def LogfileScansUptoSaid : Prop := logfileScansUptoRow.holds Tryd.pinned (OpenSpec.upto logfileScansSpec)

/-- 'kauditlaw25.LogfilePrefix', WHERE WHAT IT READS IS OF BULK AT MOST 1048576: true; the input reads as it did. -/
def logfilePrefixUptoRow : OpenClaim := { program := "ytkfddpbmclbdhaadoor", sum := "cf00e94297d2cd57f35b2d72678ef26f6db49b575b0de36635ba3f826a85da0b", func := "kaudit/kauditlaw25.LogfilePrefix", spec := "logfilePrefix", inPlace := ["internal/abi.NoEscape"], unfollowed := true, recurses := true, named := ["kaudit/record.kinds", "internal/strconv.uint64pow10", "math/bits.deBruijn32tab", "math/bits.deBruijn64tab", "kaudit/value.digits"], apart := false, laid := [("math/bits.deBruijn32tab", laid_math_bits_deBruijn32tab), ("math/bits.deBruijn64tab", laid_math_bits_deBruijn64tab), ("internal/strconv.uint64pow10", laid_internal_strconv_uint64pow10), ("kaudit/value.digits", laid_kaudit_value_digits), ("kaudit/record.kinds", laid_kaudit_record_kinds)], narrowed := true }
def LogfilePrefixUptoSaid : Prop := logfilePrefixUptoRow.holds Tryd.pinned (OpenSpec.upto logfilePrefixSpec)

/-- 'kauditlaw25.LogfileAgain', WHERE WHAT IT READS IS OF BULK AT MOST 1048576: true; the input reads as it did. -/
def logfileAgainUptoRow : OpenClaim := { program := "ytkfddpbmclbdhaadoor", sum := "cf00e94297d2cd57f35b2d72678ef26f6db49b575b0de36635ba3f826a85da0b", func := "kaudit/kauditlaw25.LogfileAgain", spec := "logfileAgain", inPlace := ["internal/abi.NoEscape"], unfollowed := true, recurses := true, named := ["kaudit/record.kinds", "internal/strconv.uint64pow10", "math/bits.deBruijn32tab", "math/bits.deBruijn64tab", "kaudit/value.digits"], apart := false, laid := [("math/bits.deBruijn32tab", laid_math_bits_deBruijn32tab), ("math/bits.deBruijn64tab", laid_math_bits_deBruijn64tab), ("internal/strconv.uint64pow10", laid_internal_strconv_uint64pow10), ("kaudit/value.digits", laid_kaudit_value_digits), ("kaudit/record.kinds", laid_kaudit_record_kinds)], narrowed := true }
def LogfileAgainUptoSaid : Prop := logfileAgainUptoRow.holds Tryd.pinned (OpenSpec.upto logfileAgainSpec)

/-- 'kauditlaw25.LogfileKeys', WHERE WHAT IT READS IS OF BULK AT MOST 1048576: true; the input reads as it did. -/
def logfileKeysUptoRow : OpenClaim := { program := "ytkfddpbmclbdhaadoor", sum := "cf00e94297d2cd57f35b2d72678ef26f6db49b575b0de36635ba3f826a85da0b", func := "kaudit/kauditlaw25.LogfileKeys", spec := "logfileKeys", inPlace := ["internal/abi.NoEscape"], unfollowed := true, recurses := true, named := ["kaudit/record.kinds", "internal/strconv.uint64pow10", "math/bits.deBruijn32tab", "math/bits.deBruijn64tab", "kaudit/value.digits"], apart := false, laid := [("math/bits.deBruijn32tab", laid_math_bits_deBruijn32tab), ("math/bits.deBruijn64tab", laid_math_bits_deBruijn64tab), ("internal/strconv.uint64pow10", laid_internal_strconv_uint64pow10), ("kaudit/value.digits", laid_kaudit_value_digits), ("kaudit/record.kinds", laid_kaudit_record_kinds)], narrowed := true }
def LogfileKeysUptoSaid : Prop := logfileKeysUptoRow.holds Tryd.pinned (OpenSpec.upto logfileKeysSpec)

end Rows
end Go.Proofs.YtkfddpbmclbdhaaDoor
