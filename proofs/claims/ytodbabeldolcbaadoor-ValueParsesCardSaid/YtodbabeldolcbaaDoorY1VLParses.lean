/- The laws ValueParses and ValueBack in plain Lean. Conditions: the number of the pair is of type int. -/
import Derived.Test.YtodbabeldolcbaaDoorY1EVParse
import Derived.Test.YtodbabeldolcbaaDoorY1ERefP
import Derived.Test.YtodbabeldolcbaaDoorY1VMake
import Derived.Test.YtodbabeldolcbaaDoorY1PAx0
import Derived.Test.YtodbabeldolcbaaDoorY1PAx3
import Derived.Test.YtodbabeldolcbaaDoorY1PAx4
import Derived.Test.YtodbabeldolcbaaDoorY1PAx8
namespace Go.Proofs.YtodbabeldolcbaaDoor.PA
set_option linter.unusedSimpArgs false
set_option linter.unusedVariables false
open Go.RowKit Go.Proofs.YtodbabeldolcbaaDoorW.PrintWords Go.Proofs.YtodbabeldolcbaaDoorW.PrintLast Go.Proofs.YtodbabeldolcbaaDoorW.PrintMore Go.Proofs.YtodbabeldolcbaaDoor.M0
theorem vparse_tup (x : ByteArray) (hx : x.size ≤ 100000) : value_Parse.f x = some (tupV x) := by
  unfold value_Parse.f tupV
  rw [if_pos hx]
theorem rparse_tup (x : ByteArray) (hx : x.size ≤ 100000) : kauditref02_Parse.f x = some (tupV x) := by
  unfold kauditref02_Parse.f
  rw [if_pos hx]
theorem parses_step (k : Nat) (l : List ByteArray) (i : Nat) (hi : i < l.length) (hl : l.length ≤ 10) (hx : (rdOf ByteArray.empty l (i : Int)).size ≤ 100000) :
    kauditlaw02_ValueParses.l0 (k + 1) l (i : Int) = kauditlaw02_ValueParses.l0 k l ((i + 1 : Nat) : Int) := by
  have hw : wrap64 ((i : Int) + 1) = ((i + 1 : Nat) : Int) := by rw [wrap64_id (by omega) (by omega)]; omega
  rw [kauditlaw02_ValueParses.l0, if_pos (by omega), if_pos (by omega), vparse_tup _ hx, rparse_tup _ hx]
  simp only [Option.bind_some]
  rw [if_pos trivial, if_neg (by simp), hw]
/-- The law ValueParses, plain. -/
theorem pure_ValueParses (a0 : ByteArray) (_ : a0.size ≤ 140737488351232) : ∃ k, kauditlaw02_ValueParses.f k a0 = some true := by
  refine ⟨3, ?_⟩
  unfold kauditlaw02_ValueParses.f
  by_cases h : (a0.size : Int) > 1500
  · rw [if_pos h, awake02]; rfl
  · rw [if_neg h, if_pos (by omega)]
    have h0 := parses_step 2 [a0, (⟨#[97, 61]⟩ : ByteArray) ++ a0] 0 (by simp) (by simp) (show a0.size ≤ 100000 by omega)
    have h1 := parses_step 1 [a0, (⟨#[97, 61]⟩ : ByteArray) ++ a0] 1 (by simp) (by simp) (show ((⟨#[97, 61]⟩ : ByteArray) ++ a0).size ≤ 100000 by
      rw [ByteArray.size_append]
      have : (⟨#[97, 61]⟩ : ByteArray).size = 2 := rfl
      omega)
    refine Eq.trans h0 (Eq.trans h1 ?_)
    rw [kauditlaw02_ValueParses.l0, if_neg (by simp), awake02]
    rfl
end Go.Proofs.YtodbabeldolcbaaDoor.PA
