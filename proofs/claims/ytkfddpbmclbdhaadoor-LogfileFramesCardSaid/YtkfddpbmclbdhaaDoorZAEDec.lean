/- The reference's Decimal returns the decimal text of a number from 0 on. Condition: the number is from 0 to 2^63 - 1. -/
import Derived.Test.YtkfddpbmclbdhaaDoorProg
import Derived.Test.YtkfddpbmclbdhaaDoorZAM0
import Derived.Lib.ItoaNum
import Derived.Outline
namespace Go.Proofs.YtkfddpbmclbdhaaDoor.PA
open Go.RowKit Go.Proofs.YtkfddpbmclbdhaaDoorW.PrintWords Go.Proofs.YtkfddpbmclbdhaaDoorW.PrintLast Go.Proofs.YtkfddpbmclbdhaaDoorW.PrintMore
set_option linter.unusedVariables false
def kauditref01_Decimal.f (a0 : Int) : Option ByteArray := if 0 ≤ a0 ∧ a0 ≤ 9223372036854775807 then some ⟨(Lib.decDigits a0.toNat).toArray⟩ else none
end Go.Proofs.YtkfddpbmclbdhaaDoor.PA
