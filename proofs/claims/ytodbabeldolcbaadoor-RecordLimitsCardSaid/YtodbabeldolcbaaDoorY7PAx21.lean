/- Contracts of functions of the program: written by pr2.py (ours, round the print of the kit) out of the translation; conditions: each contract names its own. -/
import Derived.Test.YtodbabeldolcbaaDoorY7PAx0
import Derived.Test.YtodbabeldolcbaaDoorY7PAx7
import Derived.Test.YtodbabeldolcbaaDoorY7PAx19
import Derived.Test.YtodbabeldolcbaaDoorY7PAx20
import Derived.Test.YtodbabeldolcbaaDoorY7ELib
namespace Go.Proofs.YtodbabeldolcbaaDoor.PA
open Go.RowKit Go.Proofs.YtodbabeldolcbaaDoorW.PrintWords Go.Proofs.YtodbabeldolcbaaDoorW.PrintLast Go.Proofs.YtodbabeldolcbaaDoorW.PrintMore
attribute [local go_sem] max2_int min2_int max_two min_two max_three min_three max_four min_four   -- for this text's walks alone
set_option linter.unusedVariables false
set_option linter.unusedSimpArgs false
/-! ### kauditref03_Format: function 64 -/
def kauditref03_Format.l0 : Nat → ByteArray → Int → Int → Int → Int → List (S25) → Option (ByteArray × Int)
 | 0, _, _, _, _, _, _ => none
 | k + 1, x5, x6, x395000, x395001, x395002, x395003 => if x6 < (x395003.length : Int) then (if 0 ≤ x6 then ((kauditref02_Format.f k ((rd_T25 x395003 x6).f0) ((rd_T25 x395003 x6).f1) ((rd_T25 x395003 x6).f2) ((rd_T25 x395003 x6).f3)).bind fun bt401 => (if 1 + bt401.1.size ≤ 9223372036854775807 then (if x5.size + ((⟨#[32]⟩ : ByteArray) ++ bt401.1).size ≤ 9223372036854775807 then (kauditref03_Format.l0 k (x5 ++ ((⟨#[32]⟩ : ByteArray) ++ bt401.1)) (wrap64 (x6 + 1)) x395000 x395001 x395002 x395003) else (none)) else (none))) else (none)) else (some (x5, 0))
def kauditref03_Format.f (k : Nat) (a0_0 : Int) (a0_1 : Int) (a0_2 : Int) (l0_3 : List (S25)) : Option (ByteArray × Int) := (kauditref03_Check.f k a0_0 a0_1 a0_2 l0_3).bind fun t395 => (if t395 = 0 then ((kauditref03_Name.f k a0_0).bind fun t396 => (if 5 + t396.size ≤ 9223372036854775807 then (if ((⟨#[116, 121, 112, 101, 61]⟩ : ByteArray) ++ t396).size + 11 ≤ 9223372036854775807 then ((kauditref01_Decimal.f (wrap64 (Int.tdiv a0_1 1000))).bind fun t397 => (if (((⟨#[116, 121, 112, 101, 61]⟩ : ByteArray) ++ t396) ++ (⟨#[32, 109, 115, 103, 61, 97, 117, 100, 105, 116, 40]⟩ : ByteArray)).size + t397.size ≤ 9223372036854775807 then (if ((((⟨#[116, 121, 112, 101, 61]⟩ : ByteArray) ++ t396) ++ (⟨#[32, 109, 115, 103, 61, 97, 117, 100, 105, 116, 40]⟩ : ByteArray)) ++ t397).size + 1 ≤ 9223372036854775807 then ((kauditref03_three.f (Int.tmod a0_1 1000)).bind fun t398 => (if (((((⟨#[116, 121, 112, 101, 61]⟩ : ByteArray) ++ t396) ++ (⟨#[32, 109, 115, 103, 61, 97, 117, 100, 105, 116, 40]⟩ : ByteArray)) ++ t397) ++ (⟨#[46]⟩ : ByteArray)).size + t398.size ≤ 9223372036854775807 then (if ((((((⟨#[116, 121, 112, 101, 61]⟩ : ByteArray) ++ t396) ++ (⟨#[32, 109, 115, 103, 61, 97, 117, 100, 105, 116, 40]⟩ : ByteArray)) ++ t397) ++ (⟨#[46]⟩ : ByteArray)) ++ t398).size + 1 ≤ 9223372036854775807 then ((kauditref01_Decimal.f a0_2).bind fun t399 => (if (((((((⟨#[116, 121, 112, 101, 61]⟩ : ByteArray) ++ t396) ++ (⟨#[32, 109, 115, 103, 61, 97, 117, 100, 105, 116, 40]⟩ : ByteArray)) ++ t397) ++ (⟨#[46]⟩ : ByteArray)) ++ t398) ++ (⟨#[58]⟩ : ByteArray)).size + t399.size ≤ 9223372036854775807 then (if ((((((((⟨#[116, 121, 112, 101, 61]⟩ : ByteArray) ++ t396) ++ (⟨#[32, 109, 115, 103, 61, 97, 117, 100, 105, 116, 40]⟩ : ByteArray)) ++ t397) ++ (⟨#[46]⟩ : ByteArray)) ++ t398) ++ (⟨#[58]⟩ : ByteArray)) ++ t399).size + 2 ≤ 9223372036854775807 then (kauditref03_Format.l0 k (((((((((⟨#[116, 121, 112, 101, 61]⟩ : ByteArray) ++ t396) ++ (⟨#[32, 109, 115, 103, 61, 97, 117, 100, 105, 116, 40]⟩ : ByteArray)) ++ t397) ++ (⟨#[46]⟩ : ByteArray)) ++ t398) ++ (⟨#[58]⟩ : ByteArray)) ++ t399) ++ (⟨#[41, 58]⟩ : ByteArray)) 0 a0_0 a0_1 a0_2 l0_3) else (none)) else (none))) else (none)) else (none))) else (none)) else (none))) else (none)) else (none))) else (some ((⟨#[]⟩ : ByteArray), t395)))
theorem kauditref03_Format.mono_l : ∀ k, (∀ y0 y1 y2 y3 y4 y5, LeO (kauditref03_Format.l0 k y0 y1 y2 y3 y4 y5) (kauditref03_Format.l0 (k + 1) y0 y1 y2 y3 y4 y5))
 | 0 => fun _ _ _ _ _ _ r h => by simp [kauditref03_Format.l0] at h
 | k + 1 => by
  have ih0 := kauditref03_Format.mono_l k
  ·intro y0 y1 y2 y3 y4 y5
   unfold kauditref03_Format.l0
   repeat' first
   | (with_reducible exact ih0 _ _ _ _ _ _)
   | (with_reducible exact kauditref02_Format.mono _ _ _ _ _)
   | (with_reducible exact kauditref03_Check.mono _ _ _ _ _)
   | (with_reducible exact kauditref03_Name.mono _ _)
   | (with_reducible exact LeO.refl _)
   | (with_reducible exact LeO.none _)
   | (with_reducible refine LeO.ite ?_ ?_)
   | (with_reducible refine LeO.bind ?_ (fun _ => ?_))
   | exact ih0 _ _ _ _ _ _
   | exact kauditref02_Format.mono _ _ _ _ _
   | exact kauditref03_Check.mono _ _ _ _ _
   | exact kauditref03_Name.mono _ _
   | exact LeO.none _
   | refine LeO.ite ?_ ?_
   | refine LeO.bind ?_ (fun _ => ?_)
theorem kauditref03_Format.mono : ∀ a0 a1 a2 a3 k, LeO (kauditref03_Format.f k a0 a1 a2 a3) (kauditref03_Format.f (k + 1) a0 a1 a2 a3) := by
 intro a0 a1 a2 a3 k
 have ih0 := kauditref03_Format.mono_l k
 unfold kauditref03_Format.f
 repeat' first
   | (with_reducible exact ih0 _ _ _ _ _ _)
   | (with_reducible exact kauditref02_Format.mono _ _ _ _ _)
   | (with_reducible exact kauditref03_Check.mono _ _ _ _ _)
   | (with_reducible exact kauditref03_Name.mono _ _)
   | (with_reducible exact LeO.refl _)
   | (with_reducible exact LeO.none _)
   | (with_reducible refine LeO.ite ?_ ?_)
   | (with_reducible refine LeO.bind ?_ (fun _ => ?_))
   | exact ih0 _ _ _ _ _ _
   | exact kauditref02_Format.mono _ _ _ _ _
   | exact kauditref03_Check.mono _ _ _ _ _
   | exact kauditref03_Name.mono _ _
   | exact LeO.none _
   | refine LeO.ite ?_ ?_
   | refine LeO.bind ?_ (fun _ => ?_)
/-! ### kauditref03_Number: function 63 -/
def kauditref03_Number.l0 : Nat → ByteArray → List (S111) → Int → Option (Int)
 | 0, _, _, _ => none
 | k + 1, x0, x3, x4 => if x4 < (x3.length : Int) then (if 0 ≤ x4 then (if ((rd_T111 x3 x4).f0).toList = x0.toList then (some ((rd_T111 x3 x4).f1)) else (kauditref03_Number.l0 k x0 x3 (wrap64 (x4 + 1)))) else (none)) else (some 0)
def kauditref03_Number.f (k : Nat) (a0 : ByteArray) : Option (Int) := (kauditref03_kinds.f).bind fun t403 => (kauditref03_Number.l0 k a0 t403 0)
theorem kauditref03_Number.mono_l : ∀ k, (∀ y0 y1 y2, LeO (kauditref03_Number.l0 k y0 y1 y2) (kauditref03_Number.l0 (k + 1) y0 y1 y2))
 | 0 => fun _ _ _ r h => by simp [kauditref03_Number.l0] at h
 | k + 1 => by
  have ih0 := kauditref03_Number.mono_l k
  ·intro y0 y1 y2
   unfold kauditref03_Number.l0
   repeat' first
   | (with_reducible exact ih0 _ _ _)
   | (with_reducible exact LeO.refl _)
   | (with_reducible exact LeO.none _)
   | (with_reducible refine LeO.ite ?_ ?_)
   | (with_reducible refine LeO.bind ?_ (fun _ => ?_))
   | exact ih0 _ _ _
   | exact LeO.none _
   | refine LeO.ite ?_ ?_
   | refine LeO.bind ?_ (fun _ => ?_)
theorem kauditref03_Number.mono : ∀ a0 k, LeO (kauditref03_Number.f k a0) (kauditref03_Number.f (k + 1) a0) := by
 intro a0 k
 have ih0 := kauditref03_Number.mono_l k
 unfold kauditref03_Number.f
 repeat' first
   | (with_reducible exact ih0 _ _ _)
   | (with_reducible exact LeO.refl _)
   | (with_reducible exact LeO.none _)
   | (with_reducible refine LeO.ite ?_ ?_)
   | (with_reducible refine LeO.bind ?_ (fun _ => ?_))
   | exact ih0 _ _ _
   | exact LeO.none _
   | refine LeO.ite ?_ ?_
   | refine LeO.bind ?_ (fun _ => ?_)
/-! ### kauditref01_Cut: function 62 -/
def kauditref01_Cut.l0 : Nat → ByteArray → Int → List ByteArray → Int → Int → Option (List ByteArray)
 | 0, _, _, _, _, _ => none
 | k + 1, x0, x1, x5, x6, x7 => if x7 < (x0.size : Int) then (if 0 ≤ x7 then (if (bt x0 x7) = x1 then (if 0 ≤ x6 then (if x6 ≤ x7 then (if x7 ≤ (x0.size : Int) then (if x5.length < 8796093022208 then (kauditref01_Cut.l0 k x0 x1 (x5 ++ [x0.extract (x6 : Int).toNat (x7 : Int).toNat]) (wrap64 (x7 + 1)) (wrap64 (x7 + 1))) else (none)) else (none)) else (none)) else (none)) else (kauditref01_Cut.l0 k x0 x1 x5 x6 (wrap64 (x7 + 1)))) else (none)) else (if 0 ≤ x6 then (if x6 ≤ (x0.size : Int) then (if x5.length < 8796093022208 then (some (x5 ++ [x0.extract (x6 : Int).toNat x0.size])) else (none)) else (none)) else (none))
def kauditref01_Cut.f (k : Nat) (a0 : ByteArray) (a1 : Int) : Option (List ByteArray) := kauditref01_Cut.l0 k a0 a1 ([] : List ByteArray) 0 0
theorem kauditref01_Cut.mono_l : ∀ k, (∀ y0 y1 y2 y3 y4, LeO (kauditref01_Cut.l0 k y0 y1 y2 y3 y4) (kauditref01_Cut.l0 (k + 1) y0 y1 y2 y3 y4))
 | 0 => fun _ _ _ _ _ r h => by simp [kauditref01_Cut.l0] at h
 | k + 1 => by
  have ih0 := kauditref01_Cut.mono_l k
  ·intro y0 y1 y2 y3 y4
   unfold kauditref01_Cut.l0
   repeat' first
   | (with_reducible exact ih0 _ _ _ _ _)
   | (with_reducible exact LeO.refl _)
   | (with_reducible exact LeO.none _)
   | (with_reducible refine LeO.ite ?_ ?_)
   | (with_reducible refine LeO.bind ?_ (fun _ => ?_))
   | exact ih0 _ _ _ _ _
   | exact LeO.none _
   | refine LeO.ite ?_ ?_
   | refine LeO.bind ?_ (fun _ => ?_)
theorem kauditref01_Cut.mono : ∀ a0 a1 k, LeO (kauditref01_Cut.f k a0 a1) (kauditref01_Cut.f (k + 1) a0 a1) := by
 intro a0 a1 k
 have ih0 := kauditref01_Cut.mono_l k
 unfold kauditref01_Cut.f
 repeat' first
   | (with_reducible exact ih0 _ _ _ _ _)
   | (with_reducible exact LeO.refl _)
   | (with_reducible exact LeO.none _)
   | (with_reducible refine LeO.ite ?_ ?_)
   | (with_reducible refine LeO.bind ?_ (fun _ => ?_))
   | exact ih0 _ _ _ _ _
   | exact LeO.none _
   | refine LeO.ite ?_ ?_
   | refine LeO.bind ?_ (fun _ => ?_)
end Go.Proofs.YtodbabeldolcbaaDoor.PA
