/- Contracts of functions of the program: written by pr2.py (ours, round the print of the kit) out of the translation; conditions: each contract names its own. -/
import Derived.Test.YtkfddpbmclbdhaaDoorZ9PAx0
import Derived.Test.YtkfddpbmclbdhaaDoorZ9PAx3
import Derived.Test.YtkfddpbmclbdhaaDoorZ9PAx7
import Derived.Test.YtkfddpbmclbdhaaDoorZ9EDec
namespace Go.Proofs.YtkfddpbmclbdhaaDoor.PA
open Go.RowKit Go.Proofs.YtkfddpbmclbdhaaDoorW.PrintWords Go.Proofs.YtkfddpbmclbdhaaDoorW.PrintLast Go.Proofs.YtkfddpbmclbdhaaDoorW.PrintMore
attribute [local go_sem] max2_int min2_int max_two min_two max_three min_three max_four min_four   -- for this text's walks alone
set_option linter.unusedVariables false
set_option linter.unusedSimpArgs false
/-! ### kauditref02_Check: function 27 -/
def kauditref02_Check.j0 : Nat → Bool → ByteArray → Int → Int → ByteArray → Option (Int)
 | 0, _, _, _, _, _ => none
 | k + 1, x34, x162000, x162001, x162002, x162003 => if x34 = true then (some 23) else (if (x162003.size : Int) > 640 then (some 20) else (some 0))
def kauditref02_Check.f (k : Nat) (a0_0 : ByteArray) (a0_1 : Int) (a0_2 : Int) (a0_3 : ByteArray) : Option (Int) := (kauditref02_name.f k a0_0).bind fun t162 => (if t162 = true then (if a0_1 < 1 then (kauditref02_Check.j0 k true a0_0 a0_1 a0_2 a0_3) else (if a0_1 > 3 then (kauditref02_Check.j0 k true a0_0 a0_1 a0_2 a0_3) else (if a0_1 = 1 then (if a0_1 = 2 then (kauditref02_Check.j0 k false a0_0 a0_1 a0_2 a0_3) else (kauditref02_Check.j0 k (a0_3.toList != ([] : List UInt8)) a0_0 a0_1 a0_2 a0_3)) else (if a0_2 = 0 then (if a0_1 = 2 then (kauditref02_Check.j0 k false a0_0 a0_1 a0_2 a0_3) else (kauditref02_Check.j0 k (a0_3.toList != ([] : List UInt8)) a0_0 a0_1 a0_2 a0_3)) else (kauditref02_Check.j0 k true a0_0 a0_1 a0_2 a0_3))))) else (some 22))
theorem kauditref02_Check.mono_l : ∀ k, (∀ y0 y1 y2 y3 y4, LeO (kauditref02_Check.j0 k y0 y1 y2 y3 y4) (kauditref02_Check.j0 (k + 1) y0 y1 y2 y3 y4))
 | 0 => fun _ _ _ _ _ r h => by simp [kauditref02_Check.j0] at h
 | k + 1 => by
  have ih0 := kauditref02_Check.mono_l k
  ·intro y0 y1 y2 y3 y4
   unfold kauditref02_Check.j0
   repeat' first
   | (with_reducible exact ih0 _ _ _ _ _)
   | (with_reducible exact kauditref02_name.mono _ _)
   | (with_reducible exact LeO.refl _)
   | (with_reducible exact LeO.none _)
   | (with_reducible refine LeO.ite ?_ ?_)
   | (with_reducible refine LeO.bind ?_ (fun _ => ?_))
   | exact ih0 _ _ _ _ _
   | exact kauditref02_name.mono _ _
   | exact LeO.none _
   | refine LeO.ite ?_ ?_
   | refine LeO.bind ?_ (fun _ => ?_)
theorem kauditref02_Check.mono : ∀ a0 a1 a2 a3 k, LeO (kauditref02_Check.f k a0 a1 a2 a3) (kauditref02_Check.f (k + 1) a0 a1 a2 a3) := by
 intro a0 a1 a2 a3 k
 have ih0 := kauditref02_Check.mono_l k
 unfold kauditref02_Check.f
 repeat' first
   | (with_reducible exact ih0 _ _ _ _ _)
   | (with_reducible exact kauditref02_name.mono _ _)
   | (with_reducible exact LeO.refl _)
   | (with_reducible exact LeO.none _)
   | (with_reducible refine LeO.ite ?_ ?_)
   | (with_reducible refine LeO.bind ?_ (fun _ => ?_))
   | exact ih0 _ _ _ _ _
   | exact kauditref02_name.mono _ _
   | exact LeO.none _
   | refine LeO.ite ?_ ?_
   | refine LeO.bind ?_ (fun _ => ?_)
/-! ### kauditref02_Number: function 74 -/
def kauditref02_Number.f (a0 : Int) : Option (ByteArray) := if a0 ≥ 0 then ((kauditref01_Decimal.f a0).bind fun t163 => (some t163)) else (if (wrap64 (-a0)) < 0 then ((kauditref01_Decimal.f (wrap64 (-(wrap64 (Int.tdiv a0 10))))).bind fun t164 => (if 1 + t164.size ≤ 9223372036854775807 then ((kauditref01_Decimal.f (wrap64 (-(Int.tmod a0 10)))).bind fun t165 => (if ((⟨#[45]⟩ : ByteArray) ++ t164).size + t165.size ≤ 9223372036854775807 then (some (((⟨#[45]⟩ : ByteArray) ++ t164) ++ t165)) else (none))) else (none))) else ((kauditref01_Decimal.f (wrap64 (-a0))).bind fun t166 => (if 1 + t166.size ≤ 9223372036854775807 then (some ((⟨#[45]⟩ : ByteArray) ++ t166)) else (none))))
/-! ### kauditref02_Format: function 25 -/
def kauditref02_Format.f (k : Nat) (a0_0 : ByteArray) (a0_1 : Int) (a0_2 : Int) (a0_3 : ByteArray) : Option (ByteArray × Int) := (kauditref02_Check.f k a0_0 a0_1 a0_2 a0_3).bind fun t168 => (if t168 = 0 then (if a0_1 = 1 then (if a0_0.size + 1 ≤ 9223372036854775807 then ((kauditref02_Number.f a0_2).bind fun t169 => (if (a0_0 ++ (⟨#[61]⟩ : ByteArray)).size + t169.size ≤ 9223372036854775807 then (some ((a0_0 ++ (⟨#[61]⟩ : ByteArray)) ++ t169, 0)) else (none))) else (none)) else (if a0_1 = 2 then ((kauditref02_Quote.f k a0_3).bind fun bt170 => (if a0_0.size + 1 ≤ 9223372036854775807 then (if (a0_0 ++ (⟨#[61]⟩ : ByteArray)).size + bt170.1.size ≤ 9223372036854775807 then (some ((a0_0 ++ (⟨#[61]⟩ : ByteArray)) ++ bt170.1, bt170.2)) else (none)) else (none))) else (if a0_0.size + 7 ≤ 9223372036854775807 then (some (a0_0 ++ (⟨#[61, 40, 110, 117, 108, 108, 41]⟩ : ByteArray), 0)) else (none)))) else (some ((⟨#[]⟩ : ByteArray), t168)))
theorem kauditref02_Format.mono : ∀ a0 a1 a2 a3 k, LeO (kauditref02_Format.f k a0 a1 a2 a3) (kauditref02_Format.f (k + 1) a0 a1 a2 a3) := by
 intro a0 a1 a2 a3 k
 unfold kauditref02_Format.f
 repeat' first
   | (with_reducible exact kauditref02_Check.mono _ _ _ _ _)
   | (with_reducible exact kauditref02_Quote.mono _ _)
   | (with_reducible exact LeO.refl _)
   | (with_reducible exact LeO.none _)
   | (with_reducible refine LeO.ite ?_ ?_)
   | (with_reducible refine LeO.bind ?_ (fun _ => ?_))
   | exact kauditref02_Check.mono _ _ _ _ _
   | exact kauditref02_Quote.mono _ _
   | exact LeO.none _
   | refine LeO.ite ?_ ?_
   | refine LeO.bind ?_ (fun _ => ?_)
end Go.Proofs.YtkfddpbmclbdhaaDoor.PA
