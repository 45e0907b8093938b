/- Contracts of functions of the program: written by pr2.py (ours, round the print of the kit) out of the translation; conditions: each contract names its own. -/
import Derived.Test.YtodbabeldolcbaaDoorY7PAx0
import Derived.Test.YtodbabeldolcbaaDoorY7PAx6
namespace Go.Proofs.YtodbabeldolcbaaDoor.PA
open Go.RowKit Go.Proofs.YtodbabeldolcbaaDoorW.PrintWords Go.Proofs.YtodbabeldolcbaaDoorW.PrintLast Go.Proofs.YtodbabeldolcbaaDoorW.PrintMore
attribute [local go_sem] max2_int min2_int max_two min_two max_three min_three max_four min_four   -- for this text's walks alone
set_option linter.unusedVariables false
set_option linter.unusedSimpArgs false
/-! ### kauditref02_ReadNumber: function 30 -/
mutual
def kauditref02_ReadNumber.l0 : Nat → ByteArray → Int → Int → Option (Int × Bool)
 | 0, _, _, _ => none
 | k + 1, x0, x4, x5 => if x5 < (x0.size : Int) then (kauditref02_ReadNumber.j1 k x0 x4 x5 (decide ((x0.size : Int) ≤ 20))) else (kauditref02_ReadNumber.j1 k x0 x4 x5 false)
def kauditref02_ReadNumber.j1 : Nat → ByteArray → Int → Int → Bool → Option (Int × Bool)
 | 0, _, _, _, _ => none
 | k + 1, x0, x4, x5, x14 => if x14 = true then (if 0 ≤ x5 then (if x5 < (x0.size : Int) then (if (bt x0 x5) ≥ 48 then (if (bt x0 x5) ≤ 57 then (kauditref02_ReadNumber.l0 k x0 (wrap64 ((wrap64 (x4 * 10)) - (((bt x0 x5) - 48) % 256))) (wrap64 (x5 + 1))) else (kauditref02_ReadNumber.l0 k x0 x4 (wrap64 (x5 + 1)))) else (kauditref02_ReadNumber.l0 k x0 x4 (wrap64 (x5 + 1)))) else (none)) else (none)) else (if (x0.size : Int) > 0 then (if 0 < (x0.size : Int) then (if (bt x0 0) = 45 then ((kauditref02_Number.f x4).bind fun t353 => (some (x4, (t353.toList == x0.toList)))) else ((kauditref02_Number.f (wrap64 (-x4))).bind fun t354 => (some (wrap64 (-x4), (t354.toList == x0.toList))))) else (none)) else ((kauditref02_Number.f x4).bind fun t355 => (some (x4, (t355.toList == x0.toList)))))
end
def kauditref02_ReadNumber.f (k : Nat) (a0 : ByteArray) : Option (Int × Bool) := kauditref02_ReadNumber.l0 k a0 0 0
theorem kauditref02_ReadNumber.mono_l : ∀ k, (∀ y0 y1 y2, LeO (kauditref02_ReadNumber.l0 k y0 y1 y2) (kauditref02_ReadNumber.l0 (k + 1) y0 y1 y2)) ∧ (∀ y0 y1 y2 y3, LeO (kauditref02_ReadNumber.j1 k y0 y1 y2 y3) (kauditref02_ReadNumber.j1 (k + 1) y0 y1 y2 y3))
 | 0 => ⟨fun _ _ _ r h => by simp [kauditref02_ReadNumber.l0] at h, fun _ _ _ _ r h => by simp [kauditref02_ReadNumber.j1] at h⟩
 | k + 1 => by
  obtain ⟨ih0, ih1⟩ := kauditref02_ReadNumber.mono_l k
  refine ⟨?_, ?_⟩
  ·intro y0 y1 y2
   unfold kauditref02_ReadNumber.l0
   repeat' first
   | (with_reducible exact ih0 _ _ _)
   | (with_reducible exact ih1 _ _ _ _)
   | (with_reducible exact LeO.refl _)
   | (with_reducible exact LeO.none _)
   | (with_reducible refine LeO.ite ?_ ?_)
   | (with_reducible refine LeO.bind ?_ (fun _ => ?_))
   | exact ih0 _ _ _
   | exact ih1 _ _ _ _
   | exact LeO.none _
   | refine LeO.ite ?_ ?_
   | refine LeO.bind ?_ (fun _ => ?_)
  ·intro y0 y1 y2 y3
   unfold kauditref02_ReadNumber.j1
   repeat' first
   | (with_reducible exact ih0 _ _ _)
   | (with_reducible exact ih1 _ _ _ _)
   | (with_reducible exact LeO.refl _)
   | (with_reducible exact LeO.none _)
   | (with_reducible refine LeO.ite ?_ ?_)
   | (with_reducible refine LeO.bind ?_ (fun _ => ?_))
   | exact ih0 _ _ _
   | exact ih1 _ _ _ _
   | exact LeO.none _
   | refine LeO.ite ?_ ?_
   | refine LeO.bind ?_ (fun _ => ?_)
theorem kauditref02_ReadNumber.mono : ∀ a0 k, LeO (kauditref02_ReadNumber.f k a0) (kauditref02_ReadNumber.f (k + 1) a0) := by
 intro a0 k
 obtain ⟨ih0, ih1⟩ := kauditref02_ReadNumber.mono_l k
 unfold kauditref02_ReadNumber.f
 repeat' first
   | (with_reducible exact ih0 _ _ _)
   | (with_reducible exact ih1 _ _ _ _)
   | (with_reducible exact LeO.refl _)
   | (with_reducible exact LeO.none _)
   | (with_reducible refine LeO.ite ?_ ?_)
   | (with_reducible refine LeO.bind ?_ (fun _ => ?_))
   | exact ih0 _ _ _
   | exact ih1 _ _ _ _
   | exact LeO.none _
   | refine LeO.ite ?_ ?_
   | refine LeO.bind ?_ (fun _ => ?_)
/-! ### kauditref02_value: function 58 -/
def kauditref02_value.l0 : Nat → Int → Int → Option (Int)
 | 0, _, _ => none
 | k + 1, x0, x3 => if x3 < 16 then (if 0 ≤ x3 then (if (bt (⟨#[48, 49, 50, 51, 52, 53, 54, 55, 56, 57, 97, 98, 99, 100, 101, 102]⟩ : ByteArray) x3) = x0 then (some x3) else (kauditref02_value.l0 k x0 (wrap64 (x3 + 1)))) else (none)) else (some (-1))
def kauditref02_value.f (k : Nat) (a0 : Int) : Option (Int) := kauditref02_value.l0 k a0 0
theorem kauditref02_value.mono_l : ∀ k, (∀ y0 y1, LeO (kauditref02_value.l0 k y0 y1) (kauditref02_value.l0 (k + 1) y0 y1))
 | 0 => fun _ _ r h => by simp [kauditref02_value.l0] at h
 | k + 1 => by
  have ih0 := kauditref02_value.mono_l k
  ·intro y0 y1
   unfold kauditref02_value.l0
   repeat' first
   | (with_reducible exact ih0 _ _)
   | (with_reducible exact LeO.refl _)
   | (with_reducible exact LeO.none _)
   | (with_reducible refine LeO.ite ?_ ?_)
   | (with_reducible refine LeO.bind ?_ (fun _ => ?_))
   | exact ih0 _ _
   | exact LeO.none _
   | refine LeO.ite ?_ ?_
   | refine LeO.bind ?_ (fun _ => ?_)
theorem kauditref02_value.mono : ∀ a0 k, LeO (kauditref02_value.f k a0) (kauditref02_value.f (k + 1) a0) := by
 intro a0 k
 have ih0 := kauditref02_value.mono_l k
 unfold kauditref02_value.f
 repeat' first
   | (with_reducible exact ih0 _ _)
   | (with_reducible exact LeO.refl _)
   | (with_reducible exact LeO.none _)
   | (with_reducible refine LeO.ite ?_ ?_)
   | (with_reducible refine LeO.bind ?_ (fun _ => ?_))
   | exact ih0 _ _
   | exact LeO.none _
   | refine LeO.ite ?_ ?_
   | refine LeO.bind ?_ (fun _ => ?_)
end Go.Proofs.YtodbabeldolcbaaDoor.PA
