/- strconv.Itoa returns the decimal text of a number; the reference's Decimal does so for numbers from 0 on. Condition: the table of powers of ten is laid (GT). -/
import Derived.Test.YtodbabeldolcbaaGreatDoorY9GT
import Derived.Test.YtodbabeldolcbaaGreatDoorY9Shelf
import Derived.Lib.AppendIntMem
import Derived.Test.YtodbabeldolcbaaGreatDoorY9M0
import Derived.Lib.ItoaNum
import Derived.Outline
import Derived.Lib.AtoiAll
import Derived.Lib.IndexMore
import Derived.Lib.AtoiErrMem
section
namespace Go.Proofs.YtodbabeldolcbaaGreatDoor.PA
open Go.RowKit Go.Proofs.YtodbabeldolcbaaGreatDoorW.PrintWords Go.Proofs.YtodbabeldolcbaaGreatDoorW.PrintLast Go.Proofs.YtodbabeldolcbaaGreatDoorW.PrintMore
set_option linter.unusedVariables false
def strconv_Itoa.f (a0 : Int) : Option ByteArray := if -9223372036854775808 ≤ a0 ∧ a0 ≤ 9223372036854775807 then some ⟨(Lib.itoa a0).toArray⟩ else none
theorem pows_eq : pows = Lib.pow10Tab := by decide
theorem strconv_Itoa.calls (a0 : Int) (r : ByteArray) (w : World) (hG : GT 1 w) (h : strconv_Itoa.f a0 = some r) :
  Calls Tryz.prog 55 #[.int .i64 a0] w fun e w' => e = .returned (.string r) ∧ Below w.heap.size w w' := by
 unfold strconv_Itoa.f at h
 split at h
 ·rename_i hr
  obtain rfl := Option.some.inj h
  have ht := hG.pow (Nat.le_refl 1)
  rw [pows_eq] at ht
  refine (Tryz.strconv_Itoa a0 hr.1 hr.2 w ht).mono ?_
  rintro e w' ⟨rfl, k, os, rfl⟩
  exact ⟨rfl, Lib.below_grow _ w (Nat.le_refl _) k os⟩
 ·cases h
end Go.Proofs.YtodbabeldolcbaaGreatDoor.PA
end
/- The reference's Decimal returns the decimal text of a number from 0 on. Condition: the number is from 0 to 2^63 - 1. -/
section
namespace Go.Proofs.YtodbabeldolcbaaGreatDoor.PA
open Go.RowKit Go.Proofs.YtodbabeldolcbaaGreatDoorW.PrintWords Go.Proofs.YtodbabeldolcbaaGreatDoorW.PrintLast Go.Proofs.YtodbabeldolcbaaGreatDoorW.PrintMore
set_option linter.unusedVariables false
def kauditref01_Decimal.f (a0 : Int) : Option ByteArray := if 0 ≤ a0 ∧ a0 ≤ 9223372036854775807 then some ⟨(Lib.decDigits a0.toNat).toArray⟩ else none
def digC (n : Nat) : ByteArray := ⟨#[UInt8.ofNat (48 + n)]⟩
set_option maxRecDepth 100000 in
theorem conv_dig (n : Nat) (hn : n < 10) : ∀ w, (convert 21 9 (.int .i32 (48 + (n : Int)))).run Tryz.prog w = .ok (.string (digC n)) w := by
 match n, hn with
 | 0, _ | 1, _ | 2, _ | 3, _ | 4, _ | 5, _ | 6, _ | 7, _ | 8, _ | 9, _ => exact fun _ => by kernel_rfl
 | n + 10, h => omega
theorem decDigits_small (n : Nat) (h : n < 10) : (⟨(Lib.decDigits n).toArray⟩ : ByteArray) = digC n := by
 rw [Lib.decDigits, dif_pos h]; rfl
theorem decDigits_step (n : Nat) (h : 10 ≤ n) (s : ByteArray) : (⟨(Lib.decDigits n).toArray⟩ : ByteArray) ++ s = (⟨(Lib.decDigits (n / 10)).toArray⟩ : ByteArray) ++ (digC (n % 10) ++ s) := by
 apply M0.ext_L
 rw [M0.L_append, M0.L_append, M0.L_append, M0.L_mk, M0.L_mk, Lib.decDigits, dif_neg (by omega), List.append_assoc]
 rfl
theorem app_empty (s : ByteArray) : s = s ++ (⟨#[]⟩ : ByteArray) := M0.ext_L (by rw [M0.L_append]; simp [M0.L])
theorem ret_str {a b : ByteArray} (h : a = b) : Ending.returned (.string a) = .returned (.string b) := by rw [h]
set_option maxHeartbeats 1000000 in
set_option maxRecDepth 100000 in
theorem kauditref01_Decimal.calls (a0 : Int) (r : ByteArray) (w : World) (h : kauditref01_Decimal.f a0 = some r) :
  Calls Tryz.prog 44 #[.int .i64 a0] w fun e w' => e = .returned (.string r) ∧ Zao w w' := by
 unfold kauditref01_Decimal.f at h
 split at h
 ·rename_i hr
  obtain rfl := Option.some.inj h
  clear h
  obtain ⟨h0, h1⟩ := hr
  obtain ⟨n, rfl⟩ := Int.eq_ofNat_of_zero_le h0
  obtain ⟨sr, hsr⟩ : ∃ s, s = (⟨(Lib.decDigits (n : Int).toNat).toArray⟩ : ByteArray) := ⟨_, rfl⟩
  rw [← hsr]
  have HS := Zaa.mk hsr
  clear hsr
  go_enter Tryz.func44, Tryz.ntmps44
  go_wp2
  go_loop [0, 3] (fun v0 v3 => ∃ (m : Nat) (s : ByteArray), v0 = .int .i64 (m : Int) ∧ v3 = .string s ∧ m ≤ n ∧ (s.size = 0 ∨ s.size + m + 8 ≤ n) ∧ Zaa (sr = (⟨(Lib.decDigits m).toArray⟩ : ByteArray) ++ s)) (fun v0 _ => (intOf v0).toNat)
  case atStart => exact ⟨n, ⟨#[]⟩, rfl, rfl, Nat.le_refl _, .inl rfl, ⟨HS.out.trans (app_empty _)⟩⟩
  case round =>
   obtain ⟨m, s, rfl, rfl, hmn, hsz, HR⟩ := hrel
   clear HS
   by_cases hlt : 10 ≤ m
   ·have hge : decide ((10 : Int) ≤ (m : Int)) = true := decide_eq_true (by omega)
    have hq : (m : Int) / 10 = ((m / 10 : Nat) : Int) := by omega
    have hr : (m : Int) % 10 = ((m % 10 : Nat) : Int) := by omega
    have hd10 : m % 10 < 10 := by omega
    have hcv := conv_dig (m % 10) hd10
    have HR' := Zaa.mk (HR.out.trans (decDigits_step m hlt s))
    have hsz2 : (digC (m % 10) ++ s).size = s.size + 1 := by rw [ByteArray.size_append]; show 1 + s.size = _; omega
    have hle1 : 1 + s.size ≤ 9223372036854775807 := by omega
    have hdsz : (digC (m % 10)).size = 1 := rfl
    have HZ := Zaa.mk hsz2
    clear HR hsz2
    obtain ⟨d, hd⟩ : ∃ d, d = digC (m % 10) := ⟨_, rfl⟩
    rw [← hd] at hcv HR' HZ hdsz
    clear hd
    have hq2 : m / 10 + 9 ≤ m := by omega
    obtain ⟨q, hq3⟩ : ∃ q, q = m / 10 := ⟨_, rfl⟩
    rw [← hq3] at hq HR' hq2
    obtain ⟨z, hz3⟩ : ∃ z, z = m % 10 := ⟨_, rfl⟩
    rw [← hz3] at hr hcv hd10
    clear hq3 hz3
    go_wp2
    go_round
    case rel => exact ⟨q, d ++ s, rfl, rfl, by omega, .inr (by rw [HZ.out]; omega), HR'⟩
    case measure => simp [intOf]; omega
   ·have hge : decide ((10 : Int) ≤ (m : Int)) = false := decide_eq_false (by omega)
    have hcv := conv_dig m (by omega)
    have HR' := Zaa.mk (HR.out.trans (by rw [decDigits_small m (by omega)]))
    clear HR
    have hle1 : 1 + s.size ≤ 9223372036854775807 := by omega
    have hdsz : (digC m).size = 1 := rfl
    obtain ⟨d, hd⟩ : ∃ d, d = digC m := ⟨_, rfl⟩
    rw [← hd] at hcv HR' hdsz
    clear hd
    go_wp2
    go_ret
    exact ⟨ret_str HR'.out.symm, Zao.refl _⟩
 ·cases h
end Go.Proofs.YtodbabeldolcbaaGreatDoor.PA
end
/- strings.Cut and strconv.Atoi at this seat's worlds. Conditions: the library's variables are there (GT 1); sizes as each lemma says. -/
section
namespace Go.Proofs.YtodbabeldolcbaaGreatDoor.PA
open Go.RowKit Go.Proofs.YtodbabeldolcbaaGreatDoorW.PrintWords Go.Proofs.YtodbabeldolcbaaGreatDoorW.PrintLast Go.Proofs.YtodbabeldolcbaaGreatDoorW.PrintMore Go.Proofs.YtodbabeldolcbaaGreatDoor.M0
set_option linter.unusedVariables false
theorem cut_calls (s sep : ByteArray) (w : World) (hG : GT 1 w) (hs : s.size ≤ 1000000) (b a : ByteArray) (fl : Bool) (hc : Lib.cut (L s) (L sep) = (L b, L a, fl)) :
  Calls Tryz.prog 120 #[.string s, .string sep] w fun e w' => e = .returned (.tuple #[.string b, .string a, .bool fl]) ∧ Below w.heap.size w w' := by
 obtain ⟨m, hm⟩ := hG.mx (Nat.le_refl 1)
 refine (Tryz.strings_Cut s sep m w (by omega) hm).mono ?_
 rintro e w' ⟨rfl, n, rfl⟩
 have hc' : Lib.cut s.data.toList sep.data.toList = (L b, L a, fl) := hc
 have eb : (⟨(L b).toArray⟩ : ByteArray) = b := ext_L (L_mk _)
 have ea : (⟨(L a).toArray⟩ : ByteArray) = a := ext_L (L_mk _)
 rw [hc', eb, ea]
 exact ⟨rfl, Zar (Below.refl _ w) _⟩
theorem atoi_yes (s : ByteArray) (w : World) (hs : s.size ≤ 1000000) (n : Int) (ha : Lib.atoiAll (L s) = .ok n) :
  Calls Tryz.prog 122 #[.string s] w fun e w' => e = .returned (.tuple #[.int .i64 n, .nilIface]) ∧ Below w.heap.size w w' := by
 refine (Tryz.strconv_Atoi_ok s (by omega) n ha w).mono ?_
 rintro e w' ⟨rfl, rfl | ⟨t, rfl⟩⟩
 ·exact ⟨rfl, Below.refl _ _⟩
 ·exact ⟨rfl, Lib.bytesWorld_below _ _ _⟩
theorem atoi_not (s : ByteArray) (w : World) (hG : GT 1 w) (hs : s.size ≤ 1000000) (ha : ∀ v, ¬ Lib.atoiAll (L s) = .ok v) :
  Calls Tryz.prog 122 #[.string s] w fun e w' => ∃ n tp p, e = .returned (.tuple #[.int .i64 n, .iface tp p]) ∧ Below w.heap.size w w' := by
 obtain ⟨tp, p, hsyn⟩ := hG.syn (Nat.le_refl 1)
 obtain ⟨tq, q, hrng⟩ := hG.rng (Nat.le_refl 1)
 cases h : Lib.atoiAll s.data.toList with
 | ok v => exact absurd h (ha v)
 | «syntax» =>
  refine (Tryz.strconv_Atoi_syntax_var s (by omega) h tp p w hsyn).mono ?_
  rintro e w' ⟨N, rfl, _, _, hb⟩
  exact ⟨_, _, _, rfl, hb⟩
 | range =>
  refine (Tryz.strconv_Atoi_range_var s (by omega) h tq q w hrng).mono ?_
  rintro e w' ⟨N, rfl, _, _, hb⟩
  exact ⟨_, _, _, rfl, hb⟩
end Go.Proofs.YtodbabeldolcbaaGreatDoor.PA
end
