/- Contracts of functions of the program: written by pr2.py (ours, round the print of the kit) out of the translation; conditions: each contract names its own. -/
import Derived.Test.YtkfddpbmclbdhaaDoorZ9PAx0
import Derived.Test.YtkfddpbmclbdhaaDoorZ9PAx11
namespace Go.Proofs.YtkfddpbmclbdhaaDoor.PA
open Go.RowKit Go.Proofs.YtkfddpbmclbdhaaDoorW.PrintWords Go.Proofs.YtkfddpbmclbdhaaDoorW.PrintLast Go.Proofs.YtkfddpbmclbdhaaDoorW.PrintMore
attribute [local go_sem] max2_int min2_int max_two min_two max_three min_three max_four min_four   -- for this text's walks alone
set_option linter.unusedVariables false
set_option linter.unusedSimpArgs false
-- EXTERNAL: function 39 (record_Types)
/-! ### kauditref03_Types: function 40 -/
def kauditref03_Types.l0 : Nat → List Int → List (S123) → Int → Option (List Int)
 | 0, _, _, _ => none
 | k + 1, x1, x2, x3 => if x3 < (x2.length : Int) then (if 0 ≤ x3 then (if x1.length < 17592186044416 then (kauditref03_Types.l0 k (x1 ++ [(rd_T123 x2 x3).f1]) x2 (wrap64 (x3 + 1))) else (none)) else (none)) else (some x1)
def kauditref03_Types.f (k : Nat)  : Option (List Int) := (kauditref03_kinds.f).bind fun t447 => (kauditref03_Types.l0 k ([] : List Int) t447 0)
theorem kauditref03_Types.mono_l : ∀ k, (∀ y0 y1 y2, LeO (kauditref03_Types.l0 k y0 y1 y2) (kauditref03_Types.l0 (k + 1) y0 y1 y2))
 | 0 => fun _ _ _ r h => by simp [kauditref03_Types.l0] at h
 | k + 1 => by
  have ih0 := kauditref03_Types.mono_l k
  ·intro y0 y1 y2
   unfold kauditref03_Types.l0
   repeat' first
   | (with_reducible exact ih0 _ _ _)
   | (with_reducible exact LeO.refl _)
   | (with_reducible exact LeO.none _)
   | (with_reducible refine LeO.ite ?_ ?_)
   | (with_reducible refine LeO.bind ?_ (fun _ => ?_))
   | exact ih0 _ _ _
   | exact LeO.none _
   | refine LeO.ite ?_ ?_
   | refine LeO.bind ?_ (fun _ => ?_)
theorem kauditref03_Types.mono : ∀ k, LeO (kauditref03_Types.f k ) (kauditref03_Types.f (k + 1) ) := by
 intro  k
 have ih0 := kauditref03_Types.mono_l k
 unfold kauditref03_Types.f
 repeat' first
   | (with_reducible exact ih0 _ _ _)
   | (with_reducible exact LeO.refl _)
   | (with_reducible exact LeO.none _)
   | (with_reducible refine LeO.ite ?_ ?_)
   | (with_reducible refine LeO.bind ?_ (fun _ => ?_))
   | exact ih0 _ _ _
   | exact LeO.none _
   | refine LeO.ite ?_ ?_
   | refine LeO.bind ?_ (fun _ => ?_)
/-! ### kauditref03_Single: function 44 -/
def kauditref03_Single.f (k : Nat) (a0 : Int) : Option (Bool) := (kauditref03_find.f k a0).bind fun bt454 => (some bt454.2.2.1)
theorem kauditref03_Single.mono : ∀ a0 k, LeO (kauditref03_Single.f k a0) (kauditref03_Single.f (k + 1) a0) := by
 intro a0 k
 unfold kauditref03_Single.f
 repeat' first
   | (with_reducible exact kauditref03_find.mono _ _)
   | (with_reducible exact LeO.refl _)
   | (with_reducible exact LeO.none _)
   | (with_reducible refine LeO.ite ?_ ?_)
   | (with_reducible refine LeO.bind ?_ (fun _ => ?_))
   | exact kauditref03_find.mono _ _
   | exact LeO.none _
   | refine LeO.ite ?_ ?_
   | refine LeO.bind ?_ (fun _ => ?_)
/-! ### kauditref03_Number: function 46 -/
def kauditref03_Number.l0 : Nat → ByteArray → List (S123) → Int → Option (Int)
 | 0, _, _, _ => none
 | k + 1, x0, x3, x4 => if x4 < (x3.length : Int) then (if 0 ≤ x4 then (if ((rd_T123 x3 x4).f0).toList = x0.toList then (some ((rd_T123 x3 x4).f1)) else (kauditref03_Number.l0 k x0 x3 (wrap64 (x4 + 1)))) else (none)) else (some 0)
def kauditref03_Number.f (k : Nat) (a0 : ByteArray) : Option (Int) := (kauditref03_kinds.f).bind fun t459 => (kauditref03_Number.l0 k a0 t459 0)
theorem kauditref03_Number.mono_l : ∀ k, (∀ y0 y1 y2, LeO (kauditref03_Number.l0 k y0 y1 y2) (kauditref03_Number.l0 (k + 1) y0 y1 y2))
 | 0 => fun _ _ _ r h => by simp [kauditref03_Number.l0] at h
 | k + 1 => by
  have ih0 := kauditref03_Number.mono_l k
  ·intro y0 y1 y2
   unfold kauditref03_Number.l0
   repeat' first
   | (with_reducible exact ih0 _ _ _)
   | (with_reducible exact LeO.refl _)
   | (with_reducible exact LeO.none _)
   | (with_reducible refine LeO.ite ?_ ?_)
   | (with_reducible refine LeO.bind ?_ (fun _ => ?_))
   | exact ih0 _ _ _
   | exact LeO.none _
   | refine LeO.ite ?_ ?_
   | refine LeO.bind ?_ (fun _ => ?_)
theorem kauditref03_Number.mono : ∀ a0 k, LeO (kauditref03_Number.f k a0) (kauditref03_Number.f (k + 1) a0) := by
 intro a0 k
 have ih0 := kauditref03_Number.mono_l k
 unfold kauditref03_Number.f
 repeat' first
   | (with_reducible exact ih0 _ _ _)
   | (with_reducible exact LeO.refl _)
   | (with_reducible exact LeO.none _)
   | (with_reducible refine LeO.ite ?_ ?_)
   | (with_reducible refine LeO.bind ?_ (fun _ => ?_))
   | exact ih0 _ _ _
   | exact LeO.none _
   | refine LeO.ite ?_ ?_
   | refine LeO.bind ?_ (fun _ => ?_)
end Go.Proofs.YtkfddpbmclbdhaaDoor.PA
