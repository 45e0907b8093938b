/- Contracts of functions of the program: written by pr2.py (ours, round the print of the kit) out of the translation; conditions: each contract names its own. -/
import Derived.Test.YtodbabeldolcbaaDoorY2PAx0
import Derived.Test.YtodbabeldolcbaaDoorY2PAx7
import Derived.Test.YtodbabeldolcbaaDoorY2PAx20
namespace Go.Proofs.YtodbabeldolcbaaDoor.PA
open Go.RowKit Go.Proofs.YtodbabeldolcbaaDoorW.PrintWords Go.Proofs.YtodbabeldolcbaaDoorW.PrintLast Go.Proofs.YtodbabeldolcbaaDoorW.PrintMore
attribute [local go_sem] max2_int min2_int max_two min_two max_three min_three max_four min_four   -- for this text's walks alone
set_option linter.unusedVariables false
set_option linter.unusedSimpArgs false
/-! ### kauditref02_Unquote: function 31 -/
mutual
def kauditref02_Unquote.j0 : Nat → ByteArray → ByteArray → Bool → Option (ByteArray × Int)
  | 0, _, _, _ => none
  | k + 1, x0, x4, x17 => if x17 = true then (if 1 ≤ (wrap64 ((x0.size : Int) - 1)) then (if (wrap64 ((x0.size : Int) - 1)) ≤ (x0.size : Int) then ((kauditref02_Quote.f k (x0.extract 1 ((wrap64 ((x0.size : Int) - 1)) : Int).toNat)).bind fun bt405 => (if bt405.2 = 0 then (if bt405.1.toList = x0.toList then (some (x0.extract 1 ((wrap64 ((x0.size : Int) - 1)) : Int).toNat, 0)) else (some ((⟨#[]⟩ : ByteArray), 21))) else (some ((⟨#[]⟩ : ByteArray), 21)))) else (none)) else (none)) else (if (x0.size : Int) ≥ 3 then (if 0 < (x0.size : Int) then (if (bt x0 0) = 120 then (if ((x0.size : Int) % 2) = 1 then (kauditref02_Unquote.j1 k x0 x4 (decide ((x0.size : Int) ≤ 1281))) else (kauditref02_Unquote.j1 k x0 x4 false)) else (kauditref02_Unquote.j1 k x0 x4 false)) else (none)) else (kauditref02_Unquote.j1 k x0 x4 false))
def kauditref02_Unquote.j1 : Nat → ByteArray → ByteArray → Bool → Option (ByteArray × Int)
  | 0, _, _, _ => none
  | k + 1, x0, x4, x41 => if x41 = true then (kauditref02_Unquote.l0 k x0 x4 1) else ((kauditref02_Quote.f k x4).bind fun bt414 => (if bt414.2 = 0 then (if bt414.1.toList = x0.toList then (some (x4, 0)) else (some ((⟨#[]⟩ : ByteArray), 21))) else (some ((⟨#[]⟩ : ByteArray), 21))))
def kauditref02_Unquote.l0 : Nat → ByteArray → ByteArray → Int → Option (ByteArray × Int)
  | 0, _, _, _ => none
  | k + 1, x0, x4, x5 => if x5 < (x0.size : Int) then (if 0 ≤ x5 then ((kauditref02_value.f k (bt x0 x5)).bind fun t409 => (if 0 ≤ (wrap64 (x5 + 1)) then (if (wrap64 (x5 + 1)) < (x0.size : Int) then ((kauditref02_value.f k (bt x0 (wrap64 (x5 + 1)))).bind fun t410 => (if t409 < 0 then (some ((⟨#[]⟩ : ByteArray), 21)) else (if t410 < 0 then (some ((⟨#[]⟩ : ByteArray), 21)) else ((some (([(wrap64 ((wrap64 (16 * t409)) + t410)) % 256] : List Int) : List Int)).bind fun y411 => (if x4.size + (strOfNums y411).size ≤ 9223372036854775807 then (kauditref02_Unquote.l0 k x0 (x4 ++ (strOfNums y411)) (wrap64 (x5 + 2))) else (none)))))) else (none)) else (none))) else (none)) else ((kauditref02_Quote.f k x4).bind fun bt407 => (if bt407.2 = 0 then (if bt407.1.toList = x0.toList then (some (x4, 0)) else (some ((⟨#[]⟩ : ByteArray), 21))) else (some ((⟨#[]⟩ : ByteArray), 21))))
end
def kauditref02_Unquote.f (k : Nat) (a0 : ByteArray) : Option (ByteArray × Int) := if (a0.size : Int) ≥ 2 then (if 0 < (a0.size : Int) then (kauditref02_Unquote.j0 k a0 (⟨#[]⟩ : ByteArray) ((bt a0 0) == 34)) else (none)) else (kauditref02_Unquote.j0 k a0 (⟨#[]⟩ : ByteArray) false)
theorem kauditref02_Unquote.mono_l : ∀ k, (∀ y0 y1 y2, LeO (kauditref02_Unquote.j0 k y0 y1 y2) (kauditref02_Unquote.j0 (k + 1) y0 y1 y2)) ∧ (∀ y0 y1 y2, LeO (kauditref02_Unquote.j1 k y0 y1 y2) (kauditref02_Unquote.j1 (k + 1) y0 y1 y2)) ∧ (∀ y0 y1 y2, LeO (kauditref02_Unquote.l0 k y0 y1 y2) (kauditref02_Unquote.l0 (k + 1) y0 y1 y2))
  | 0 => ⟨fun _ _ _ r h => by simp [kauditref02_Unquote.j0] at h, fun _ _ _ r h => by simp [kauditref02_Unquote.j1] at h, fun _ _ _ r h => by simp [kauditref02_Unquote.l0] at h⟩
  | k + 1 => by
    obtain ⟨ih0, ih1, ih2⟩ := kauditref02_Unquote.mono_l k
    refine ⟨?_, ?_, ?_⟩
    · intro y0 y1 y2
      unfold kauditref02_Unquote.j0
      repeat' first
      | (with_reducible exact ih0 _ _ _)
      | (with_reducible exact ih1 _ _ _)
      | (with_reducible exact ih2 _ _ _)
      | (with_reducible exact kauditref02_Quote.mono _ _)
      | (with_reducible exact kauditref02_value.mono _ _)
      | (with_reducible exact LeO.refl _)
      | (with_reducible exact LeO.none _)
      | (with_reducible refine LeO.ite ?_ ?_)
      | (with_reducible refine LeO.bind ?_ (fun _ => ?_))
      | exact ih0 _ _ _
      | exact ih1 _ _ _
      | exact ih2 _ _ _
      | exact kauditref02_Quote.mono _ _
      | exact kauditref02_value.mono _ _
      | exact LeO.none _
      | refine LeO.ite ?_ ?_
      | refine LeO.bind ?_ (fun _ => ?_)
    · intro y0 y1 y2
      unfold kauditref02_Unquote.j1
      repeat' first
      | (with_reducible exact ih0 _ _ _)
      | (with_reducible exact ih1 _ _ _)
      | (with_reducible exact ih2 _ _ _)
      | (with_reducible exact kauditref02_Quote.mono _ _)
      | (with_reducible exact kauditref02_value.mono _ _)
      | (with_reducible exact LeO.refl _)
      | (with_reducible exact LeO.none _)
      | (with_reducible refine LeO.ite ?_ ?_)
      | (with_reducible refine LeO.bind ?_ (fun _ => ?_))
      | exact ih0 _ _ _
      | exact ih1 _ _ _
      | exact ih2 _ _ _
      | exact kauditref02_Quote.mono _ _
      | exact kauditref02_value.mono _ _
      | exact LeO.none _
      | refine LeO.ite ?_ ?_
      | refine LeO.bind ?_ (fun _ => ?_)
    · intro y0 y1 y2
      unfold kauditref02_Unquote.l0
      repeat' first
      | (with_reducible exact ih0 _ _ _)
      | (with_reducible exact ih1 _ _ _)
      | (with_reducible exact ih2 _ _ _)
      | (with_reducible exact kauditref02_Quote.mono _ _)
      | (with_reducible exact kauditref02_value.mono _ _)
      | (with_reducible exact LeO.refl _)
      | (with_reducible exact LeO.none _)
      | (with_reducible refine LeO.ite ?_ ?_)
      | (with_reducible refine LeO.bind ?_ (fun _ => ?_))
      | exact ih0 _ _ _
      | exact ih1 _ _ _
      | exact ih2 _ _ _
      | exact kauditref02_Quote.mono _ _
      | exact kauditref02_value.mono _ _
      | exact LeO.none _
      | refine LeO.ite ?_ ?_
      | refine LeO.bind ?_ (fun _ => ?_)
theorem kauditref02_Unquote.mono : ∀ a0 k, LeO (kauditref02_Unquote.f k a0) (kauditref02_Unquote.f (k + 1) a0) := by
  intro a0 k
  obtain ⟨ih0, ih1, ih2⟩ := kauditref02_Unquote.mono_l k
  unfold kauditref02_Unquote.f
  repeat' first
      | (with_reducible exact ih0 _ _ _)
      | (with_reducible exact ih1 _ _ _)
      | (with_reducible exact ih2 _ _ _)
      | (with_reducible exact kauditref02_Quote.mono _ _)
      | (with_reducible exact kauditref02_value.mono _ _)
      | (with_reducible exact LeO.refl _)
      | (with_reducible exact LeO.none _)
      | (with_reducible refine LeO.ite ?_ ?_)
      | (with_reducible refine LeO.bind ?_ (fun _ => ?_))
      | exact ih0 _ _ _
      | exact ih1 _ _ _
      | exact ih2 _ _ _
      | exact kauditref02_Quote.mono _ _
      | exact kauditref02_value.mono _ _
      | exact LeO.none _
      | refine LeO.ite ?_ ?_
      | refine LeO.bind ?_ (fun _ => ?_)
end Go.Proofs.YtodbabeldolcbaaDoor.PA
