/- The law RecordParses in plain Lean: the two Parses of a line agree. Conditions: none. -/
import Derived.Test.YtodbabeldolcbaaDoorY5ERefR
import Derived.Test.YtodbabeldolcbaaDoorY5ERParse
import Derived.Test.YtodbabeldolcbaaDoorY5VRec
import Derived.Test.YtodbabeldolcbaaDoorY5VSame
import Derived.Test.YtodbabeldolcbaaDoorY5PAx0
import Derived.Test.YtodbabeldolcbaaDoorY5PAx13
namespace Go.Proofs.YtodbabeldolcbaaDoor.PA
set_option linter.unusedSimpArgs false
set_option linter.unusedVariables false
open Go.RowKit Go.Proofs.YtodbabeldolcbaaDoorW.PrintWords Go.Proofs.YtodbabeldolcbaaDoorW.PrintLast Go.Proofs.YtodbabeldolcbaaDoorW.PrintMore Go.Proofs.YtodbabeldolcbaaDoor.M0
theorem parse_tup (x : ByteArray) (hx : x.size ≤ 100000) : record_Parse.f x = some (tupW x) := by
  unfold record_Parse.f tupW
  rw [if_pos hx]
theorem parse3_tup (x : ByteArray) (hx : x.size ≤ 100000) : kauditref03_Parse.f x = some (tupW x) := by
  unfold kauditref03_Parse.f
  rw [if_pos hx]
theorem tupW_len (x : ByteArray) : (tupW x).2.2.2.1.length ≤ 24 := by
  unfold tupW
  rcases parseW_cases x with ⟨p, hf, hp⟩ | ⟨_, hp⟩
  · rw [hp]
    obtain ⟨_, _, _, _, hl, _⟩ := checkR_ok hf.2.1
    exact hl
  · rw [hp]
    exact Nat.zero_le _
theorem reads_run (k : Nat) (hk : 100 < k) (x : ByteArray) (hx : x.size ≤ 100000) : kauditlaw03_reads.f k x = some true := by
  unfold kauditlaw03_reads.f
  rw [parse_tup x hx, parse3_tup x hx, Option.bind_some, Option.bind_some, if_pos rfl, same_run _ _ _ _ _ _ _ _ (by have := tupW_len x; omega) k (by have := tupW_len x; omega), Option.bind_some]
  simp
/-- The law RecordParses, plain. -/
theorem pure_RecordParses (a0 : ByteArray) (_ : a0.size ≤ 140737488351232) : ∃ k, kauditlaw03_RecordParses.f k a0 = some true := by
  refine ⟨200, ?_⟩
  unfold kauditlaw03_RecordParses.f
  by_cases h : (a0.size : Int) > 1000
  · rw [if_pos h, awake03_run]; rfl
  · rw [if_neg h, reads_run 200 (by omega) a0 (by omega), Option.bind_some, if_pos rfl, if_pos (by omega), reads_run 200 (by omega) _ (by
      rw [ByteArray.size_append]
      have : (⟨#[116, 121, 112, 101, 61, 67, 87, 68, 32, 109, 115, 103, 61, 97, 117, 100, 105, 116, 40, 49, 46, 48, 48, 48, 58, 50, 41, 58]⟩ : ByteArray).size = 28 := rfl
      omega), Option.bind_some, if_pos rfl, if_pos (by omega), reads_run 200 (by omega) _ (by
      rw [ByteArray.size_append]
      have : (⟨#[116, 121, 112, 101, 61, 80, 65, 84, 72, 32, 109, 115, 103, 61, 97, 117, 100, 105, 116, 40]⟩ : ByteArray).size = 20 := rfl
      omega), Option.bind_some, if_pos rfl, awake03_run]
    rfl
end Go.Proofs.YtodbabeldolcbaaDoor.PA
