/- What the reference's Quote computes is what the program's Quote computes; the law ValueQuotes in plain Lean. Conditions: none. -/
import Derived.Test.YtkfddpbmclbdhaaDoorZAPAxkauditlaw02ValueQuotes
namespace Go.Proofs.YtkfddpbmclbdhaaDoor.PA
open Go.RowKit Go.Proofs.YtkfddpbmclbdhaaDoorW.PrintWords Go.Proofs.YtkfddpbmclbdhaaDoorW.PrintLast Go.Proofs.YtkfddpbmclbdhaaDoorW.PrintMore Go.Proofs.YtkfddpbmclbdhaaDoor.M0
theorem L_strOfNums (xs : List Int) : L (strOfNums xs) = xs.map fun n => UInt8.ofNat n.toNat := rfl
end Go.Proofs.YtkfddpbmclbdhaaDoor.PA
