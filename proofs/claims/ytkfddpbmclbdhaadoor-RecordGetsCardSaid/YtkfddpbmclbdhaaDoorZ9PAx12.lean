/- Contracts of functions of the program: written by pr2.py (ours, round the print of the kit) out of the translation; conditions: each contract names its own. -/
import Derived.Test.YtkfddpbmclbdhaaDoorZ9PAx0
import Derived.Test.YtkfddpbmclbdhaaDoorZ9PAx8
import Derived.Test.YtkfddpbmclbdhaaDoorZ9PAx11
import Derived.Test.YtkfddpbmclbdhaaDoorZ9EDec
namespace Go.Proofs.YtkfddpbmclbdhaaDoor.PA
open Go.RowKit Go.Proofs.YtkfddpbmclbdhaaDoorW.PrintWords Go.Proofs.YtkfddpbmclbdhaaDoorW.PrintLast Go.Proofs.YtkfddpbmclbdhaaDoorW.PrintMore
attribute [local go_sem] max2_int min2_int max_two min_two max_three min_three max_four min_four   -- for this text's walks alone
set_option linter.unusedVariables false
set_option linter.unusedSimpArgs false
/-! ### kauditref03_Check: function 83 -/
mutual
def kauditref03_Check.j0 : Nat → Bool → Int → Int → Int → List (S31) → Option (Int)
 | 0, _, _, _, _, _ => none
 | k + 1, x33, x279000, x279001, x279002, x279003 => if x33 = true then (some 31) else (if (x279003.length : Int) > 24 then (some 32) else (kauditref03_Check.l0 k 0 x279000 x279001 x279002 x279003))
def kauditref03_Check.l0 : Nat → Int → Int → Int → Int → List (S31) → Option (Int)
 | 0, _, _, _, _, _ => none
 | k + 1, x5, x279000, x279001, x279002, x279003 => if x5 < (x279003.length : Int) then (if 0 ≤ x5 then ((kauditref02_Check.f k ((rd_T31 x279003 x5).f0) ((rd_T31 x279003 x5).f1) ((rd_T31 x279003 x5).f2) ((rd_T31 x279003 x5).f3)).bind fun t285 => (if t285 = 0 then (kauditref03_Check.l1 k x5 0 x279000 x279001 x279002 x279003) else (some t285))) else (none)) else (some 0)
def kauditref03_Check.l1 : Nat → Int → Int → Int → Int → Int → List (S31) → Option (Int)
 | 0, _, _, _, _, _, _ => none
 | k + 1, x5, x7, x279000, x279001, x279002, x279003 => if x7 < x5 then (if 0 ≤ x7 then (if x7 < (x279003.length : Int) then (if 0 ≤ x5 then (if x5 < (x279003.length : Int) then (if ((rd_T31 x279003 x7).f0).toList = ((rd_T31 x279003 x5).f0).toList then (some 33) else (kauditref03_Check.l1 k x5 (wrap64 (x7 + 1)) x279000 x279001 x279002 x279003)) else (none)) else (none)) else (none)) else (none)) else (kauditref03_Check.l0 k (wrap64 (x5 + 1)) x279000 x279001 x279002 x279003)
end
def kauditref03_Check.f (k : Nat) (a0_0 : Int) (a0_1 : Int) (a0_2 : Int) (l0_3 : List (S31)) : Option (Int) := (kauditref03_find.f k a0_0).bind fun bt279 => (if bt279.2.2.2 = true then (if a0_1 < 0 then (kauditref03_Check.j0 k true a0_0 a0_1 a0_2 l0_3) else (if a0_1 > 1099511627776 then (kauditref03_Check.j0 k true a0_0 a0_1 a0_2 l0_3) else (if a0_2 < 0 then (kauditref03_Check.j0 k true a0_0 a0_1 a0_2 l0_3) else (kauditref03_Check.j0 k (decide (a0_2 > 1073741824)) a0_0 a0_1 a0_2 l0_3)))) else (some 30))
theorem kauditref03_Check.mono_l : ∀ k, (∀ y0 y1 y2 y3 y4, LeO (kauditref03_Check.j0 k y0 y1 y2 y3 y4) (kauditref03_Check.j0 (k + 1) y0 y1 y2 y3 y4)) ∧ (∀ y0 y1 y2 y3 y4, LeO (kauditref03_Check.l0 k y0 y1 y2 y3 y4) (kauditref03_Check.l0 (k + 1) y0 y1 y2 y3 y4)) ∧ (∀ y0 y1 y2 y3 y4 y5, LeO (kauditref03_Check.l1 k y0 y1 y2 y3 y4 y5) (kauditref03_Check.l1 (k + 1) y0 y1 y2 y3 y4 y5))
 | 0 => ⟨fun _ _ _ _ _ r h => by simp [kauditref03_Check.j0] at h, fun _ _ _ _ _ r h => by simp [kauditref03_Check.l0] at h, fun _ _ _ _ _ _ r h => by simp [kauditref03_Check.l1] at h⟩
 | k + 1 => by
  obtain ⟨ih0, ih1, ih2⟩ := kauditref03_Check.mono_l k
  refine ⟨?_, ?_, ?_⟩
  ·intro y0 y1 y2 y3 y4
   unfold kauditref03_Check.j0
   repeat' first
   | (with_reducible exact ih0 _ _ _ _ _)
   | (with_reducible exact ih1 _ _ _ _ _)
   | (with_reducible exact ih2 _ _ _ _ _ _)
   | (with_reducible exact kauditref02_Check.mono _ _ _ _ _)
   | (with_reducible exact kauditref03_find.mono _ _)
   | (with_reducible exact LeO.refl _)
   | (with_reducible exact LeO.none _)
   | (with_reducible refine LeO.ite ?_ ?_)
   | (with_reducible refine LeO.bind ?_ (fun _ => ?_))
   | exact ih0 _ _ _ _ _
   | exact ih1 _ _ _ _ _
   | exact ih2 _ _ _ _ _ _
   | exact kauditref02_Check.mono _ _ _ _ _
   | exact kauditref03_find.mono _ _
   | exact LeO.none _
   | refine LeO.ite ?_ ?_
   | refine LeO.bind ?_ (fun _ => ?_)
  ·intro y0 y1 y2 y3 y4
   unfold kauditref03_Check.l0
   repeat' first
   | (with_reducible exact ih0 _ _ _ _ _)
   | (with_reducible exact ih1 _ _ _ _ _)
   | (with_reducible exact ih2 _ _ _ _ _ _)
   | (with_reducible exact kauditref02_Check.mono _ _ _ _ _)
   | (with_reducible exact kauditref03_find.mono _ _)
   | (with_reducible exact LeO.refl _)
   | (with_reducible exact LeO.none _)
   | (with_reducible refine LeO.ite ?_ ?_)
   | (with_reducible refine LeO.bind ?_ (fun _ => ?_))
   | exact ih0 _ _ _ _ _
   | exact ih1 _ _ _ _ _
   | exact ih2 _ _ _ _ _ _
   | exact kauditref02_Check.mono _ _ _ _ _
   | exact kauditref03_find.mono _ _
   | exact LeO.none _
   | refine LeO.ite ?_ ?_
   | refine LeO.bind ?_ (fun _ => ?_)
  ·intro y0 y1 y2 y3 y4 y5
   unfold kauditref03_Check.l1
   repeat' first
   | (with_reducible exact ih0 _ _ _ _ _)
   | (with_reducible exact ih1 _ _ _ _ _)
   | (with_reducible exact ih2 _ _ _ _ _ _)
   | (with_reducible exact kauditref02_Check.mono _ _ _ _ _)
   | (with_reducible exact kauditref03_find.mono _ _)
   | (with_reducible exact LeO.refl _)
   | (with_reducible exact LeO.none _)
   | (with_reducible refine LeO.ite ?_ ?_)
   | (with_reducible refine LeO.bind ?_ (fun _ => ?_))
   | exact ih0 _ _ _ _ _
   | exact ih1 _ _ _ _ _
   | exact ih2 _ _ _ _ _ _
   | exact kauditref02_Check.mono _ _ _ _ _
   | exact kauditref03_find.mono _ _
   | exact LeO.none _
   | refine LeO.ite ?_ ?_
   | refine LeO.bind ?_ (fun _ => ?_)
theorem kauditref03_Check.mono : ∀ a0 a1 a2 a3 k, LeO (kauditref03_Check.f k a0 a1 a2 a3) (kauditref03_Check.f (k + 1) a0 a1 a2 a3) := by
 intro a0 a1 a2 a3 k
 obtain ⟨ih0, ih1, ih2⟩ := kauditref03_Check.mono_l k
 unfold kauditref03_Check.f
 repeat' first
   | (with_reducible exact ih0 _ _ _ _ _)
   | (with_reducible exact ih1 _ _ _ _ _)
   | (with_reducible exact ih2 _ _ _ _ _ _)
   | (with_reducible exact kauditref02_Check.mono _ _ _ _ _)
   | (with_reducible exact kauditref03_find.mono _ _)
   | (with_reducible exact LeO.refl _)
   | (with_reducible exact LeO.none _)
   | (with_reducible refine LeO.ite ?_ ?_)
   | (with_reducible refine LeO.bind ?_ (fun _ => ?_))
   | exact ih0 _ _ _ _ _
   | exact ih1 _ _ _ _ _
   | exact ih2 _ _ _ _ _ _
   | exact kauditref02_Check.mono _ _ _ _ _
   | exact kauditref03_find.mono _ _
   | exact LeO.none _
   | refine LeO.ite ?_ ?_
   | refine LeO.bind ?_ (fun _ => ?_)
/-! ### kauditref03_three: function 118 -/
def kauditref03_three.f (a0 : Int) : Option (ByteArray) := (kauditref01_Decimal.f (wrap64 (Int.tdiv a0 100))).bind fun t288 => ((kauditref01_Decimal.f (Int.tmod (wrap64 (Int.tdiv a0 10)) 10)).bind fun t289 => (if t288.size + t289.size ≤ 9223372036854775807 then ((kauditref01_Decimal.f (Int.tmod a0 10)).bind fun t290 => (if (t288 ++ t289).size + t290.size ≤ 9223372036854775807 then (some ((t288 ++ t289) ++ t290)) else (none))) else (none)))
end Go.Proofs.YtkfddpbmclbdhaaDoor.PA
