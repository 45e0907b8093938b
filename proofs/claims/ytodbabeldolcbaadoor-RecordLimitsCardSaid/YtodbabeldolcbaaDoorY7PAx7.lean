/- Contracts of functions of the program: written by pr2.py (ours, round the print of the kit) out of the translation; conditions: each contract names its own. -/
import Derived.Test.YtodbabeldolcbaaDoorY7PAx0
import Derived.Test.YtodbabeldolcbaaDoorY7PAx6
namespace Go.Proofs.YtodbabeldolcbaaDoor.PA
open Go.RowKit Go.Proofs.YtodbabeldolcbaaDoorW.PrintWords Go.Proofs.YtodbabeldolcbaaDoorW.PrintLast Go.Proofs.YtodbabeldolcbaaDoorW.PrintMore
attribute [local go_sem] max2_int min2_int max_two min_two max_three min_three max_four min_four   -- for this text's walks alone
set_option linter.unusedVariables false
set_option linter.unusedSimpArgs false
/-! ### kauditref02_safe: function 61 -/
def kauditref02_safe.l0 : Nat → ByteArray → Int → Option (Bool)
 | 0, _, _ => none
 | k + 1, x0, x3 => if x3 < (x0.size : Int) then (if 0 ≤ x3 then (if (bt x0 x3) < 33 then (some false) else (if (bt x0 x3) > 126 then (some false) else (if (bt x0 x3) = 34 then (some false) else (kauditref02_safe.l0 k x0 (wrap64 (x3 + 1)))))) else (none)) else (some true)
def kauditref02_safe.f (k : Nat) (a0 : ByteArray) : Option (Bool) := kauditref02_safe.l0 k a0 0
theorem kauditref02_safe.mono_l : ∀ k, (∀ y0 y1, LeO (kauditref02_safe.l0 k y0 y1) (kauditref02_safe.l0 (k + 1) y0 y1))
 | 0 => fun _ _ r h => by simp [kauditref02_safe.l0] at h
 | k + 1 => by
  have ih0 := kauditref02_safe.mono_l k
  ·intro y0 y1
   unfold kauditref02_safe.l0
   repeat' first
   | (with_reducible exact ih0 _ _)
   | (with_reducible exact LeO.refl _)
   | (with_reducible exact LeO.none _)
   | (with_reducible refine LeO.ite ?_ ?_)
   | (with_reducible refine LeO.bind ?_ (fun _ => ?_))
   | exact ih0 _ _
   | exact LeO.none _
   | refine LeO.ite ?_ ?_
   | refine LeO.bind ?_ (fun _ => ?_)
theorem kauditref02_safe.mono : ∀ a0 k, LeO (kauditref02_safe.f k a0) (kauditref02_safe.f (k + 1) a0) := by
 intro a0 k
 have ih0 := kauditref02_safe.mono_l k
 unfold kauditref02_safe.f
 repeat' first
   | (with_reducible exact ih0 _ _)
   | (with_reducible exact LeO.refl _)
   | (with_reducible exact LeO.none _)
   | (with_reducible refine LeO.ite ?_ ?_)
   | (with_reducible refine LeO.bind ?_ (fun _ => ?_))
   | exact ih0 _ _
   | exact LeO.none _
   | refine LeO.ite ?_ ?_
   | refine LeO.bind ?_ (fun _ => ?_)
/-! ### kauditref02_Quote: function 38 -/
def kauditref02_Quote.l0 : Nat → ByteArray → ByteArray → Int → Option (ByteArray × Int)
 | 0, _, _, _ => none
 | k + 1, x0, x4, x5 => if x5 < (x0.size : Int) then (if 0 ≤ x5 then (if 0 ≤ ((bt x0 x5) / 16) then (if ((bt x0 x5) / 16) ≤ ((((bt x0 x5) / 16) + 1) % 256) then (if ((((bt x0 x5) / 16) + 1) % 256) ≤ 16 then (if 0 ≤ (Go.bits .and .u8 (bt x0 x5) 15) then (if (Go.bits .and .u8 (bt x0 x5) 15) ≤ (((Go.bits .and .u8 (bt x0 x5) 15) + 1) % 256) then (if (((Go.bits .and .u8 (bt x0 x5) 15) + 1) % 256) ≤ 16 then (if ((⟨#[48, 49, 50, 51, 52, 53, 54, 55, 56, 57, 97, 98, 99, 100, 101, 102]⟩ : ByteArray).extract (((bt x0 x5) / 16) : Int).toNat (((((bt x0 x5) / 16) + 1) % 256) : Int).toNat).size + ((⟨#[48, 49, 50, 51, 52, 53, 54, 55, 56, 57, 97, 98, 99, 100, 101, 102]⟩ : ByteArray).extract ((Go.bits .and .u8 (bt x0 x5) 15) : Int).toNat ((((Go.bits .and .u8 (bt x0 x5) 15) + 1) % 256) : Int).toNat).size ≤ 9223372036854775807 then (if x4.size + (((⟨#[48, 49, 50, 51, 52, 53, 54, 55, 56, 57, 97, 98, 99, 100, 101, 102]⟩ : ByteArray).extract (((bt x0 x5) / 16) : Int).toNat (((((bt x0 x5) / 16) + 1) % 256) : Int).toNat) ++ ((⟨#[48, 49, 50, 51, 52, 53, 54, 55, 56, 57, 97, 98, 99, 100, 101, 102]⟩ : ByteArray).extract ((Go.bits .and .u8 (bt x0 x5) 15) : Int).toNat ((((Go.bits .and .u8 (bt x0 x5) 15) + 1) % 256) : Int).toNat)).size ≤ 9223372036854775807 then (kauditref02_Quote.l0 k x0 (x4 ++ (((⟨#[48, 49, 50, 51, 52, 53, 54, 55, 56, 57, 97, 98, 99, 100, 101, 102]⟩ : ByteArray).extract (((bt x0 x5) / 16) : Int).toNat (((((bt x0 x5) / 16) + 1) % 256) : Int).toNat) ++ ((⟨#[48, 49, 50, 51, 52, 53, 54, 55, 56, 57, 97, 98, 99, 100, 101, 102]⟩ : ByteArray).extract ((Go.bits .and .u8 (bt x0 x5) 15) : Int).toNat ((((Go.bits .and .u8 (bt x0 x5) 15) + 1) % 256) : Int).toNat))) (wrap64 (x5 + 1))) else (none)) else (none)) else (none)) else (none)) else (none)) else (none)) else (none)) else (none)) else (none)) else (some (x4, 0))
def kauditref02_Quote.f (k : Nat) (a0 : ByteArray) : Option (ByteArray × Int) := if (a0.size : Int) > 640 then (some ((⟨#[]⟩ : ByteArray), 20)) else ((kauditref02_safe.f k a0).bind fun t179 => (if t179 = true then (if 1 + a0.size ≤ 9223372036854775807 then (if ((⟨#[34]⟩ : ByteArray) ++ a0).size + 1 ≤ 9223372036854775807 then (some (((⟨#[34]⟩ : ByteArray) ++ a0) ++ (⟨#[34]⟩ : ByteArray), 0)) else (none)) else (none)) else (kauditref02_Quote.l0 k a0 (⟨#[120]⟩ : ByteArray) 0)))
theorem kauditref02_Quote.mono_l : ∀ k, (∀ y0 y1 y2, LeO (kauditref02_Quote.l0 k y0 y1 y2) (kauditref02_Quote.l0 (k + 1) y0 y1 y2))
 | 0 => fun _ _ _ r h => by simp [kauditref02_Quote.l0] at h
 | k + 1 => by
  have ih0 := kauditref02_Quote.mono_l k
  ·intro y0 y1 y2
   unfold kauditref02_Quote.l0
   repeat' first
   | (with_reducible exact ih0 _ _ _)
   | (with_reducible exact kauditref02_safe.mono _ _)
   | (with_reducible exact LeO.refl _)
   | (with_reducible exact LeO.none _)
   | (with_reducible refine LeO.ite ?_ ?_)
   | (with_reducible refine LeO.bind ?_ (fun _ => ?_))
   | exact ih0 _ _ _
   | exact kauditref02_safe.mono _ _
   | exact LeO.none _
   | refine LeO.ite ?_ ?_
   | refine LeO.bind ?_ (fun _ => ?_)
theorem kauditref02_Quote.mono : ∀ a0 k, LeO (kauditref02_Quote.f k a0) (kauditref02_Quote.f (k + 1) a0) := by
 intro a0 k
 have ih0 := kauditref02_Quote.mono_l k
 unfold kauditref02_Quote.f
 repeat' first
   | (with_reducible exact ih0 _ _ _)
   | (with_reducible exact kauditref02_safe.mono _ _)
   | (with_reducible exact LeO.refl _)
   | (with_reducible exact LeO.none _)
   | (with_reducible refine LeO.ite ?_ ?_)
   | (with_reducible refine LeO.bind ?_ (fun _ => ?_))
   | exact ih0 _ _ _
   | exact kauditref02_safe.mono _ _
   | exact LeO.none _
   | refine LeO.ite ?_ ?_
   | refine LeO.bind ?_ (fun _ => ?_)
/-! ### kauditref02_Format: function 15 -/
def kauditref02_Format.f (k : Nat) (a0_0 : ByteArray) (a0_1 : Int) (a0_2 : Int) (a0_3 : ByteArray) : Option (ByteArray × Int) := (kauditref02_Check.f k a0_0 a0_1 a0_2 a0_3).bind fun t181 => (if t181 = 0 then (if a0_1 = 1 then (if a0_0.size + 1 ≤ 9223372036854775807 then ((kauditref02_Number.f a0_2).bind fun t182 => (if (a0_0 ++ (⟨#[61]⟩ : ByteArray)).size + t182.size ≤ 9223372036854775807 then (some ((a0_0 ++ (⟨#[61]⟩ : ByteArray)) ++ t182, 0)) else (none))) else (none)) else (if a0_1 = 2 then ((kauditref02_Quote.f k a0_3).bind fun bt183 => (if a0_0.size + 1 ≤ 9223372036854775807 then (if (a0_0 ++ (⟨#[61]⟩ : ByteArray)).size + bt183.1.size ≤ 9223372036854775807 then (some ((a0_0 ++ (⟨#[61]⟩ : ByteArray)) ++ bt183.1, bt183.2)) else (none)) else (none))) else (if a0_0.size + 7 ≤ 9223372036854775807 then (some (a0_0 ++ (⟨#[61, 40, 110, 117, 108, 108, 41]⟩ : ByteArray), 0)) else (none)))) else (some ((⟨#[]⟩ : ByteArray), t181)))
theorem kauditref02_Format.mono : ∀ a0 a1 a2 a3 k, LeO (kauditref02_Format.f k a0 a1 a2 a3) (kauditref02_Format.f (k + 1) a0 a1 a2 a3) := by
 intro a0 a1 a2 a3 k
 unfold kauditref02_Format.f
 repeat' first
   | (with_reducible exact kauditref02_Check.mono _ _ _ _ _)
   | (with_reducible exact kauditref02_Quote.mono _ _)
   | (with_reducible exact LeO.refl _)
   | (with_reducible exact LeO.none _)
   | (with_reducible refine LeO.ite ?_ ?_)
   | (with_reducible refine LeO.bind ?_ (fun _ => ?_))
   | exact kauditref02_Check.mono _ _ _ _ _
   | exact kauditref02_Quote.mono _ _
   | exact LeO.none _
   | refine LeO.ite ?_ ?_
   | refine LeO.bind ?_ (fun _ => ?_)
end Go.Proofs.YtodbabeldolcbaaDoor.PA
