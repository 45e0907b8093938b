/- The law RecordParses in plain Lean: the two Parses of a line agree. Conditions: none. -/
import Derived.Test.YtodbabeldolcbaaGreatDoorY9VSame
import Derived.Test.YtodbabeldolcbaaGreatDoorY9PAx11
namespace Go.Proofs.YtodbabeldolcbaaGreatDoor.PA
set_option linter.unusedSimpArgs false
set_option linter.unusedVariables false
open Go.RowKit Go.Proofs.YtodbabeldolcbaaGreatDoorW.PrintWords Go.Proofs.YtodbabeldolcbaaGreatDoorW.PrintLast Go.Proofs.YtodbabeldolcbaaGreatDoorW.PrintMore Go.Proofs.YtodbabeldolcbaaGreatDoor.M0
theorem parse_tup (x : ByteArray) (hx : x.size ≤ 100000) : record_Parse.f x = some (tupW x) := by
 unfold record_Parse.f tupW
 rw [if_pos hx]
theorem parse3_tup (x : ByteArray) (hx : x.size ≤ 100000) : kauditref03_Parse.f x = some (tupW x) := by
 unfold kauditref03_Parse.f
 rw [if_pos hx]
theorem tupW_len (x : ByteArray) : (tupW x).2.2.2.1.length ≤ 24 := by
 unfold tupW
 rcases parseW_cases x with ⟨p, hf, hp⟩ | ⟨_, hp⟩
 ·rw [hp]
  obtain ⟨_, _, _, _, hl, _⟩ := checkR_ok hf.2.1
  exact hl
 ·rw [hp]
  exact Nat.zero_le _
theorem reads_run (k : Nat) (hk : 100 < k) (x : ByteArray) (hx : x.size ≤ 100000) : kauditlaw03_reads.f k x = some true := by
 unfold kauditlaw03_reads.f
 rw [parse_tup x hx, parse3_tup x hx, Option.bind_some, Option.bind_some, if_pos rfl, same_run _ _ _ _ _ _ _ _ (by have := tupW_len x; omega) k (by have := tupW_len x; omega), Option.bind_some]
 simp
end Go.Proofs.YtodbabeldolcbaaGreatDoor.PA
