/- What the reference's Quote computes is what the program's Quote computes; the law ValueQuotes in plain Lean. Conditions: none. -/
import Derived.Test.YtodbabeldolcbaaDoorY2PAx0
import Derived.Test.YtodbabeldolcbaaDoorY2PAx2
import Derived.Test.YtodbabeldolcbaaDoorY2PAx7
namespace Go.Proofs.YtodbabeldolcbaaDoor.PA
open Go.RowKit Go.Proofs.YtodbabeldolcbaaDoorW.PrintWords Go.Proofs.YtodbabeldolcbaaDoorW.PrintLast Go.Proofs.YtodbabeldolcbaaDoorW.PrintMore Go.Proofs.YtodbabeldolcbaaDoor.M0
theorem L_strOfNums (xs : List Int) : L (strOfNums xs) = xs.map fun n => UInt8.ofNat n.toNat := rfl
theorem awake02 : kauditlaw02_awake.f = some true := by
  have h : value_Quote.f (⟨#[97, 32, 98]⟩ : ByteArray) = some (⟨#[120, 54, 49, 50, 48, 54, 50]⟩, 0) := by rfl
  unfold kauditlaw02_awake.f
  rw [h]
  simp only [Option.bind_some, if_true]
  simp [toList_L, L]
end Go.Proofs.YtodbabeldolcbaaDoor.PA
