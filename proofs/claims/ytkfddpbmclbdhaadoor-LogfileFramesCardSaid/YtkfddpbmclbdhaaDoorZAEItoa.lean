/- strconv.Itoa returns the decimal text of a number; the reference's Decimal does so for numbers from 0 on. Condition: the table of powers of ten is laid (GT). -/
import Derived.Test.YtkfddpbmclbdhaaDoorZAGT
import Derived.Test.YtkfddpbmclbdhaaDoorZAShelf
import Derived.Lib.AppendIntMem
import Derived.Test.YtkfddpbmclbdhaaDoorZAWMore
namespace Go.Proofs.YtkfddpbmclbdhaaDoor.PA
open Go.RowKit Go.Proofs.YtkfddpbmclbdhaaDoorW.PrintWords Go.Proofs.YtkfddpbmclbdhaaDoorW.PrintLast Go.Proofs.YtkfddpbmclbdhaaDoorW.PrintMore
set_option linter.unusedVariables false
def strconv_Itoa.f (a0 : Int) : Option ByteArray := if -9223372036854775808 ≤ a0 ∧ a0 ≤ 9223372036854775807 then some ⟨(Lib.itoa a0).toArray⟩ else none
theorem pows_eq : pows = Lib.pow10Tab := by decide
theorem strconv_Itoa.calls (a0 : Int) (r : ByteArray) (w : World) (hG : GT 1 w) (h : strconv_Itoa.f a0 = some r) :
  Calls Tryd.prog 73 #[.int .i64 a0] w fun e w' => e = .returned (.string r) ∧ Below w.heap.size w w' := by
 unfold strconv_Itoa.f at h
 split at h
 ·rename_i hr
  obtain rfl := Option.some.inj h
  have ht := hG.pow (Nat.le_refl 1)
  rw [pows_eq] at ht
  refine (Tryd.strconv_Itoa a0 hr.1 hr.2 w ht).mono ?_
  rintro e w' ⟨rfl, k, os, rfl⟩
  exact ⟨rfl, Lib.below_grow _ w (Nat.le_refl _) k os⟩
 ·cases h
end Go.Proofs.YtkfddpbmclbdhaaDoor.PA
