/- Contracts of functions of the program: written by pr2.py (ours, round the print of the kit) out of the translation; conditions: each contract names its own. -/
import Derived.Test.YtodbabeldolcbaaDoorY7PAx0
import Derived.Test.YtodbabeldolcbaaDoorY7ELib
namespace Go.Proofs.YtodbabeldolcbaaDoor.PA
open Go.RowKit Go.Proofs.YtodbabeldolcbaaDoorW.PrintWords Go.Proofs.YtodbabeldolcbaaDoorW.PrintLast Go.Proofs.YtodbabeldolcbaaDoorW.PrintMore
attribute [local go_sem] max2_int min2_int max_two min_two max_three min_three max_four min_four   -- for this text's walks alone
set_option linter.unusedVariables false
set_option linter.unusedSimpArgs false
/-! ### kauditref02_name: function 40 -/
mutual
def kauditref02_name.j0 : Nat → ByteArray → Bool → Option (Bool)
 | 0, _, _ => none
 | k + 1, x0, x12 => if x12 = true then (some false) else (kauditref02_name.l0 k x0 0)
def kauditref02_name.l0 : Nat → ByteArray → Int → Option (Bool)
 | 0, _, _ => none
 | k + 1, x0, x3 => if x3 < (x0.size : Int) then (if 0 ≤ x3 then (if (bt x0 x3) ≥ 97 then (if (bt x0 x3) ≤ 122 then (kauditref02_name.l0 k x0 (wrap64 (x3 + 1))) else (if x3 > 0 then (if (bt x0 x3) ≥ 48 then (if (bt x0 x3) ≤ 57 then (kauditref02_name.l0 k x0 (wrap64 (x3 + 1))) else (if ((bt x0 x3) = 95) then (kauditref02_name.l0 k x0 (wrap64 (x3 + 1))) else (some false))) else (if ((bt x0 x3) = 95) then (kauditref02_name.l0 k x0 (wrap64 (x3 + 1))) else (some false))) else (some false))) else (if x3 > 0 then (if (bt x0 x3) ≥ 48 then (if (bt x0 x3) ≤ 57 then (kauditref02_name.l0 k x0 (wrap64 (x3 + 1))) else (if ((bt x0 x3) = 95) then (kauditref02_name.l0 k x0 (wrap64 (x3 + 1))) else (some false))) else (if ((bt x0 x3) = 95) then (kauditref02_name.l0 k x0 (wrap64 (x3 + 1))) else (some false))) else (some false))) else (none)) else (some true)
end
def kauditref02_name.f (k : Nat) (a0 : ByteArray) : Option (Bool) := if (a0.size : Int) < 1 then (kauditref02_name.j0 k a0 true) else (kauditref02_name.j0 k a0 (decide ((a0.size : Int) > 16)))
theorem kauditref02_name.mono_l : ∀ k, (∀ y0 y1, LeO (kauditref02_name.j0 k y0 y1) (kauditref02_name.j0 (k + 1) y0 y1)) ∧ (∀ y0 y1, LeO (kauditref02_name.l0 k y0 y1) (kauditref02_name.l0 (k + 1) y0 y1))
 | 0 => ⟨fun _ _ r h => by simp [kauditref02_name.j0] at h, fun _ _ r h => by simp [kauditref02_name.l0] at h⟩
 | k + 1 => by
  obtain ⟨ih0, ih1⟩ := kauditref02_name.mono_l k
  refine ⟨?_, ?_⟩
  ·intro y0 y1
   unfold kauditref02_name.j0
   repeat' first
   | (with_reducible exact ih0 _ _)
   | (with_reducible exact ih1 _ _)
   | (with_reducible exact LeO.refl _)
   | (with_reducible exact LeO.none _)
   | (with_reducible refine LeO.ite ?_ ?_)
   | (with_reducible refine LeO.bind ?_ (fun _ => ?_))
   | exact ih0 _ _
   | exact ih1 _ _
   | exact LeO.none _
   | refine LeO.ite ?_ ?_
   | refine LeO.bind ?_ (fun _ => ?_)
  ·intro y0 y1
   unfold kauditref02_name.l0
   repeat' first
   | (with_reducible exact ih0 _ _)
   | (with_reducible exact ih1 _ _)
   | (with_reducible exact LeO.refl _)
   | (with_reducible exact LeO.none _)
   | (with_reducible refine LeO.ite ?_ ?_)
   | (with_reducible refine LeO.bind ?_ (fun _ => ?_))
   | exact ih0 _ _
   | exact ih1 _ _
   | exact LeO.none _
   | refine LeO.ite ?_ ?_
   | refine LeO.bind ?_ (fun _ => ?_)
theorem kauditref02_name.mono : ∀ a0 k, LeO (kauditref02_name.f k a0) (kauditref02_name.f (k + 1) a0) := by
 intro a0 k
 obtain ⟨ih0, ih1⟩ := kauditref02_name.mono_l k
 unfold kauditref02_name.f
 repeat' first
   | (with_reducible exact ih0 _ _)
   | (with_reducible exact ih1 _ _)
   | (with_reducible exact LeO.refl _)
   | (with_reducible exact LeO.none _)
   | (with_reducible refine LeO.ite ?_ ?_)
   | (with_reducible refine LeO.bind ?_ (fun _ => ?_))
   | exact ih0 _ _
   | exact ih1 _ _
   | exact LeO.none _
   | refine LeO.ite ?_ ?_
   | refine LeO.bind ?_ (fun _ => ?_)
/-! ### kauditref02_Check: function 17 -/
def kauditref02_Check.j0 : Nat → Bool → ByteArray → Int → Int → ByteArray → Option (Int)
 | 0, _, _, _, _, _ => none
 | k + 1, x34, x174000, x174001, x174002, x174003 => if x34 = true then (some 23) else (if (x174003.size : Int) > 640 then (some 20) else (some 0))
def kauditref02_Check.f (k : Nat) (a0_0 : ByteArray) (a0_1 : Int) (a0_2 : Int) (a0_3 : ByteArray) : Option (Int) := (kauditref02_name.f k a0_0).bind fun t174 => (if t174 = true then (if a0_1 < 1 then (kauditref02_Check.j0 k true a0_0 a0_1 a0_2 a0_3) else (if a0_1 > 3 then (kauditref02_Check.j0 k true a0_0 a0_1 a0_2 a0_3) else (if a0_1 = 1 then (if a0_1 = 2 then (kauditref02_Check.j0 k false a0_0 a0_1 a0_2 a0_3) else (kauditref02_Check.j0 k (a0_3.toList != ([] : List UInt8)) a0_0 a0_1 a0_2 a0_3)) else (if a0_2 = 0 then (if a0_1 = 2 then (kauditref02_Check.j0 k false a0_0 a0_1 a0_2 a0_3) else (kauditref02_Check.j0 k (a0_3.toList != ([] : List UInt8)) a0_0 a0_1 a0_2 a0_3)) else (kauditref02_Check.j0 k true a0_0 a0_1 a0_2 a0_3))))) else (some 22))
theorem kauditref02_Check.mono_l : ∀ k, (∀ y0 y1 y2 y3 y4, LeO (kauditref02_Check.j0 k y0 y1 y2 y3 y4) (kauditref02_Check.j0 (k + 1) y0 y1 y2 y3 y4))
 | 0 => fun _ _ _ _ _ r h => by simp [kauditref02_Check.j0] at h
 | k + 1 => by
  have ih0 := kauditref02_Check.mono_l k
  ·intro y0 y1 y2 y3 y4
   unfold kauditref02_Check.j0
   repeat' first
   | (with_reducible exact ih0 _ _ _ _ _)
   | (with_reducible exact kauditref02_name.mono _ _)
   | (with_reducible exact LeO.refl _)
   | (with_reducible exact LeO.none _)
   | (with_reducible refine LeO.ite ?_ ?_)
   | (with_reducible refine LeO.bind ?_ (fun _ => ?_))
   | exact ih0 _ _ _ _ _
   | exact kauditref02_name.mono _ _
   | exact LeO.none _
   | refine LeO.ite ?_ ?_
   | refine LeO.bind ?_ (fun _ => ?_)
theorem kauditref02_Check.mono : ∀ a0 a1 a2 a3 k, LeO (kauditref02_Check.f k a0 a1 a2 a3) (kauditref02_Check.f (k + 1) a0 a1 a2 a3) := by
 intro a0 a1 a2 a3 k
 have ih0 := kauditref02_Check.mono_l k
 unfold kauditref02_Check.f
 repeat' first
   | (with_reducible exact ih0 _ _ _ _ _)
   | (with_reducible exact kauditref02_name.mono _ _)
   | (with_reducible exact LeO.refl _)
   | (with_reducible exact LeO.none _)
   | (with_reducible refine LeO.ite ?_ ?_)
   | (with_reducible refine LeO.bind ?_ (fun _ => ?_))
   | exact ih0 _ _ _ _ _
   | exact kauditref02_name.mono _ _
   | exact LeO.none _
   | refine LeO.ite ?_ ?_
   | refine LeO.bind ?_ (fun _ => ?_)
/-! ### kauditref02_Number: function 37 -/
def kauditref02_Number.f (a0 : Int) : Option (ByteArray) := if a0 ≥ 0 then ((kauditref01_Decimal.f a0).bind fun t175 => (some t175)) else (if (wrap64 (-a0)) < 0 then ((kauditref01_Decimal.f (wrap64 (-(wrap64 (Int.tdiv a0 10))))).bind fun t176 => (if 1 + t176.size ≤ 9223372036854775807 then ((kauditref01_Decimal.f (wrap64 (-(Int.tmod a0 10)))).bind fun t177 => (if ((⟨#[45]⟩ : ByteArray) ++ t176).size + t177.size ≤ 9223372036854775807 then (some (((⟨#[45]⟩ : ByteArray) ++ t176) ++ t177)) else (none))) else (none))) else ((kauditref01_Decimal.f (wrap64 (-a0))).bind fun t178 => (if 1 + t178.size ≤ 9223372036854775807 then (some ((⟨#[45]⟩ : ByteArray) ++ t178)) else (none))))
end Go.Proofs.YtodbabeldolcbaaDoor.PA
