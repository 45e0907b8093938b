/- Plain lemmas on strings as lists of bytes, for the proofs of this seat. Conditions: each lemma names its own. -/
import Derived.Test.YtkfddpbmclbdhaaDoorZAWMore
import Derived.Lib.Strings
import Derived.Lib.Bytes
import Derived.Lib.SmallJoins
namespace Go.Proofs.YtkfddpbmclbdhaaDoor.M0
open Go.RowKit Go.Proofs.YtkfddpbmclbdhaaDoorW.PrintWords Go.Proofs.YtkfddpbmclbdhaaDoorW.PrintLast Go.Proofs.YtkfddpbmclbdhaaDoorW.PrintMore
def L (s : ByteArray) : List UInt8 := s.data.toList
theorem toList_L (s : ByteArray) : s.toList = L s := ByteArray.toList_eq s
theorem size_L (s : ByteArray) : s.size = (L s).length := Lib.size_eq s
theorem L_append (a b : ByteArray) : L (a ++ b) = L a ++ L b := Joins.data_append a b
theorem L_extract (s : ByteArray) (a b : Nat) : L (s.extract a b) = ((L s).drop a).take (b - a) := Lib.extract_data s a b
theorem L_mk (l : List UInt8) : L ⟨l.toArray⟩ = l := by simp [L]
theorem L_lit (a : Array UInt8) : L ⟨a⟩ = a.toList := rfl
theorem ext_L {a b : ByteArray} (h : L a = L b) : a = b := by
 cases a with | mk a => cases b with | mk b =>
 simp only [L] at h
 exact congrArg ByteArray.mk (Array.toList_inj.1 h)
theorem bt_L (s : ByteArray) (i : Nat) (h : i < (L s).length) : bt s (i : Int) = ((L s)[i].toNat : Int) := by
 have : i < s.size := by rw [size_L]; exact h
 simp [bt, this]; rfl
theorem Zbg {x : Int} (h0 : -9223372036854775808 ≤ x) (h1 : x ≤ 9223372036854775807) : wrap64 x = x := by
 unfold wrap64; omega
end Go.Proofs.YtkfddpbmclbdhaaDoor.M0
