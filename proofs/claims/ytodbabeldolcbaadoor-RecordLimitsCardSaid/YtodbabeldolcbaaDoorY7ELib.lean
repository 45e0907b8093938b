/- strconv.Itoa returns the decimal text of a number; the reference's Decimal does so for numbers from 0 on. Condition: the table of powers of ten is laid (GT). -/
import Derived.Test.YtodbabeldolcbaaDoorY7GT
import Derived.Test.YtodbabeldolcbaaDoorY7Shelf
import Derived.Lib.AppendIntMem
import Derived.Test.YtodbabeldolcbaaDoorY7WWords
import Derived.Test.YtodbabeldolcbaaDoorY7WLast
import Derived.Test.YtodbabeldolcbaaDoorY7WMore
import Derived.Test.YtodbabeldolcbaaDoorProg
import Derived.Test.YtodbabeldolcbaaDoorY7M0
import Derived.Lib.ItoaNum
import Derived.Outline
import Derived.Lib.AtoiAll
import Derived.Lib.IndexMore
import Derived.Lib.AtoiErrMem
section
namespace Go.Proofs.YtodbabeldolcbaaDoor.PA
open Go.RowKit Go.Proofs.YtodbabeldolcbaaDoorW.PrintWords Go.Proofs.YtodbabeldolcbaaDoorW.PrintLast Go.Proofs.YtodbabeldolcbaaDoorW.PrintMore
set_option linter.unusedVariables false
/-- The decimal text of a number. -/
def strconv_Itoa.f (a0 : Int) : Option ByteArray := if -9223372036854775808 ≤ a0 ∧ a0 ≤ 9223372036854775807 then some ⟨(Lib.itoa a0).toArray⟩ else none
theorem pows_eq : pows = Lib.pow10Tab := by decide
theorem strconv_Itoa.calls (a0 : Int) (r : ByteArray) (w : World) (hG : GT 1 w) (h : strconv_Itoa.f a0 = some r) :
    Calls Tryd.prog 36 #[.int .i64 a0] w fun e w' => e = .returned (.string r) ∧ Below w.heap.size w w' := by
  unfold strconv_Itoa.f at h
  split at h
  · rename_i hr
    obtain rfl := Option.some.inj h
    have ht := hG.pow (Nat.le_refl 1)
    rw [pows_eq] at ht
    refine (Tryd.strconv_Itoa a0 hr.1 hr.2 w ht).mono ?_
    rintro e w' ⟨rfl, k, os, rfl⟩
    exact ⟨rfl, Lib.below_grow _ w (Nat.le_refl _) k os⟩
  · cases h
end Go.Proofs.YtodbabeldolcbaaDoor.PA
end
/- The reference's Decimal returns the decimal text of a number from 0 on. Condition: the number is from 0 to 2^63 - 1. -/
section
namespace Go.Proofs.YtodbabeldolcbaaDoor.PA
open Go.RowKit Go.Proofs.YtodbabeldolcbaaDoorW.PrintWords Go.Proofs.YtodbabeldolcbaaDoorW.PrintLast Go.Proofs.YtodbabeldolcbaaDoorW.PrintMore
set_option linter.unusedVariables false
def kauditref01_Decimal.f (a0 : Int) : Option ByteArray := if 0 ≤ a0 ∧ a0 ≤ 9223372036854775807 then some ⟨(Lib.decDigits a0.toNat).toArray⟩ else none
end Go.Proofs.YtodbabeldolcbaaDoor.PA
end
/- strings.Cut and strconv.Atoi at this seat's worlds. Conditions: the library's variables are there (GT 1); sizes as each lemma says. -/
section
namespace Go.Proofs.YtodbabeldolcbaaDoor.PA
open Go.RowKit Go.Proofs.YtodbabeldolcbaaDoorW.PrintWords Go.Proofs.YtodbabeldolcbaaDoorW.PrintLast Go.Proofs.YtodbabeldolcbaaDoorW.PrintMore Go.Proofs.YtodbabeldolcbaaDoor.M0
set_option linter.unusedVariables false
theorem cut_calls (s sep : ByteArray) (w : World) (hG : GT 1 w) (hs : s.size ≤ 1000000) (b a : ByteArray) (fl : Bool) (hc : Lib.cut (L s) (L sep) = (L b, L a, fl)) :
    Calls Tryd.prog 27 #[.string s, .string sep] w fun e w' => e = .returned (.tuple #[.string b, .string a, .bool fl]) ∧ Below w.heap.size w w' := by
  obtain ⟨m, hm⟩ := hG.mx (Nat.le_refl 1)
  refine (Tryd.strings_Cut s sep m w (by omega) hm).mono ?_
  rintro e w' ⟨rfl, n, rfl⟩
  have hc' : Lib.cut s.data.toList sep.data.toList = (L b, L a, fl) := hc
  have eb : (⟨(L b).toArray⟩ : ByteArray) = b := ext_L (L_mk _)
  have ea : (⟨(L a).toArray⟩ : ByteArray) = a := ext_L (L_mk _)
  rw [hc', eb, ea]
  exact ⟨rfl, pw_below_drewN (Below.refl _ w) _⟩
theorem atoi_yes (s : ByteArray) (w : World) (hs : s.size ≤ 1000000) (n : Int) (ha : Lib.atoiAll (L s) = .ok n) :
    Calls Tryd.prog 28 #[.string s] w fun e w' => e = .returned (.tuple #[.int .i64 n, .nilIface]) ∧ Below w.heap.size w w' := by
  refine (Tryd.strconv_Atoi_ok s (by omega) n ha w).mono ?_
  rintro e w' ⟨rfl, rfl | ⟨t, rfl⟩⟩
  · exact ⟨rfl, Below.refl _ _⟩
  · exact ⟨rfl, Lib.bytesWorld_below _ _ _⟩
theorem atoi_not (s : ByteArray) (w : World) (hG : GT 1 w) (hs : s.size ≤ 1000000) (ha : ∀ v, ¬ Lib.atoiAll (L s) = .ok v) :
    Calls Tryd.prog 28 #[.string s] w fun e w' => ∃ n tp p, e = .returned (.tuple #[.int .i64 n, .iface tp p]) ∧ Below w.heap.size w w' := by
  obtain ⟨tp, p, hsyn⟩ := hG.syn (Nat.le_refl 1)
  obtain ⟨tq, q, hrng⟩ := hG.rng (Nat.le_refl 1)
  cases h : Lib.atoiAll s.data.toList with
  | ok v => exact absurd h (ha v)
  | «syntax» =>
    refine (Tryd.strconv_Atoi_syntax_var s (by omega) h tp p w hsyn).mono ?_
    rintro e w' ⟨N, rfl, _, _, hb⟩
    exact ⟨_, _, _, rfl, hb⟩
  | range =>
    refine (Tryd.strconv_Atoi_range_var s (by omega) h tq q w hrng).mono ?_
    rintro e w' ⟨N, rfl, _, _, hb⟩
    exact ⟨_, _, _, rfl, hb⟩
end Go.Proofs.YtodbabeldolcbaaDoor.PA
end
