/- Small words for the printed contracts: sizes of literal strings. Conditions: none. -/
import Derived.Test.YtkfddpbmclbdhaaDoorProg
namespace Go.Proofs.YtkfddpbmclbdhaaDoor.PW
theorem size_mk (a : Array UInt8) : (ByteArray.mk a).size = a.size := rfl
theorem bne_nil (l : List UInt8) : (l != []) = !l.isEmpty := by cases l <;> rfl
end Go.Proofs.YtkfddpbmclbdhaaDoor.PW
