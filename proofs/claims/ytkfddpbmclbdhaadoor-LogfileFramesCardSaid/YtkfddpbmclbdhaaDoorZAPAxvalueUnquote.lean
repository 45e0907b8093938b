/- Contracts of functions of the program: written by pr2.py (ours, round the print of the kit) out of the translation; conditions: each contract names its own. -/
import Derived.Test.YtkfddpbmclbdhaaDoorZAPAx0
import Derived.Test.YtkfddpbmclbdhaaDoorZAEQuote
namespace Go.Proofs.YtkfddpbmclbdhaaDoor.PA
open Go.RowKit Go.Proofs.YtkfddpbmclbdhaaDoorW.PrintWords Go.Proofs.YtkfddpbmclbdhaaDoorW.PrintLast Go.Proofs.YtkfddpbmclbdhaaDoorW.PrintMore
attribute [local go_sem] Zaz Zax Za5 Za4 Zas Zar Zay Zaw   -- for this text's walks alone
set_option linter.unusedVariables false
set_option linter.unusedSimpArgs false
mutual
def value_Unquote.j0 : Nat → ByteArray → ByteArray → Bool → Option (ByteArray × Int)
 | 0, _, _, _ => none
 | k + 1, x0, x4, x9 => if x9 = true then (if 1 ≤ (wrap64 ((x0.size : Int) - 1)) then (if (wrap64 ((x0.size : Int) - 1)) ≤ (x0.size : Int) then ((value_Quote.f (x0.extract 1 ((wrap64 ((x0.size : Int) - 1)) : Int).toNat)).bind fun bt110 => (if bt110.2 = 0 then (if bt110.1.toList = x0.toList then (some (x0.extract 1 ((wrap64 ((x0.size : Int) - 1)) : Int).toNat, 0)) else (some ((⟨#[]⟩ : ByteArray), 21))) else (some ((⟨#[]⟩ : ByteArray), 21)))) else (none)) else (none)) else (if ((x0.size : Int) % 2) = 1 then (if 0 < (x0.size : Int) then (value_Unquote.j1 k x0 x4 ((bt x0 0) == 120)) else (none)) else (value_Unquote.j1 k x0 x4 false))
def value_Unquote.j1 : Nat → ByteArray → ByteArray → Bool → Option (ByteArray × Int)
 | 0, _, _, _ => none
 | k + 1, x0, x4, x31 => if x31 = true then (value_Unquote.l0 k x0 ([] : List Int) 1) else ((value_Quote.f x4).bind fun bt119 => (if bt119.2 = 0 then (if bt119.1.toList = x0.toList then (some (x4, 0)) else (some ((⟨#[]⟩ : ByteArray), 21))) else (some ((⟨#[]⟩ : ByteArray), 21))))
def value_Unquote.l0 : Nat → ByteArray → List Int → Int → Option (ByteArray × Int)
 | 0, _, _, _ => none
 | k + 1, x0, x5, x6 => if x6 < (x0.size : Int) then (if 0 ≤ x6 then ((value_digit.f (bt x0 x6)).bind fun t112 => (if 0 ≤ (wrap64 (x6 + 1)) then (if (wrap64 (x6 + 1)) < (x0.size : Int) then ((value_digit.f (bt x0 (wrap64 (x6 + 1)))).bind fun t113 => (if x5.length < 140737488355328 then (value_Unquote.l0 k x0 (x5 ++ [Go.bits .or .u8 ((t112 * 16) % 256) (Go.bits .and .u8 t113 15)]) (wrap64 (x6 + 2))) else (none))) else (none)) else (none))) else (none)) else ((value_Quote.f (strOfNums x5)).bind fun bt117 => (if bt117.2 = 0 then (if bt117.1.toList = x0.toList then (some (strOfNums x5, 0)) else (some ((⟨#[]⟩ : ByteArray), 21))) else (some ((⟨#[]⟩ : ByteArray), 21))))
end
def value_Unquote.f (k : Nat) (a0 : ByteArray) : Option (ByteArray × Int) := if (a0.size : Int) ≥ 2 then (if 0 < (a0.size : Int) then (if (bt a0 0) = 34 then (if 0 ≤ (wrap64 ((a0.size : Int) - 1)) then (if (wrap64 ((a0.size : Int) - 1)) < (a0.size : Int) then (value_Unquote.j0 k a0 (⟨#[]⟩ : ByteArray) ((bt a0 (wrap64 ((a0.size : Int) - 1))) == 34)) else (none)) else (none)) else (value_Unquote.j0 k a0 (⟨#[]⟩ : ByteArray) false)) else (none)) else (value_Unquote.j0 k a0 (⟨#[]⟩ : ByteArray) false)
theorem value_Unquote.mono_l : ∀ k, (∀ y0 y1 y2, LeO (value_Unquote.j0 k y0 y1 y2) (value_Unquote.j0 (k + 1) y0 y1 y2)) ∧ (∀ y0 y1 y2, LeO (value_Unquote.j1 k y0 y1 y2) (value_Unquote.j1 (k + 1) y0 y1 y2)) ∧ (∀ y0 y1 y2, LeO (value_Unquote.l0 k y0 y1 y2) (value_Unquote.l0 (k + 1) y0 y1 y2))
 | 0 => ⟨fun _ _ _ r h => by simp [value_Unquote.j0] at h, fun _ _ _ r h => by simp [value_Unquote.j1] at h, fun _ _ _ r h => by simp [value_Unquote.l0] at h⟩
 | k + 1 => by
  obtain ⟨ih0, ih1, ih2⟩ := value_Unquote.mono_l k
  refine ⟨?_, ?_, ?_⟩
  ·intro y0 y1 y2
   unfold value_Unquote.j0
   repeat' first
   | (with_reducible exact ih0 _ _ _)
   | (with_reducible exact ih1 _ _ _)
   | (with_reducible exact ih2 _ _ _)
   | (with_reducible exact LeO.refl _)
   | (with_reducible exact LeO.none _)
   | (with_reducible refine LeO.ite ?_ ?_)
   | (with_reducible refine LeO.bind ?_ (fun _ => ?_))
   | exact ih0 _ _ _
   | exact ih1 _ _ _
   | exact ih2 _ _ _
   | exact LeO.none _
   | refine LeO.ite ?_ ?_
   | refine LeO.bind ?_ (fun _ => ?_)
  ·intro y0 y1 y2
   unfold value_Unquote.j1
   repeat' first
   | (with_reducible exact ih0 _ _ _)
   | (with_reducible exact ih1 _ _ _)
   | (with_reducible exact ih2 _ _ _)
   | (with_reducible exact LeO.refl _)
   | (with_reducible exact LeO.none _)
   | (with_reducible refine LeO.ite ?_ ?_)
   | (with_reducible refine LeO.bind ?_ (fun _ => ?_))
   | exact ih0 _ _ _
   | exact ih1 _ _ _
   | exact ih2 _ _ _
   | exact LeO.none _
   | refine LeO.ite ?_ ?_
   | refine LeO.bind ?_ (fun _ => ?_)
  ·intro y0 y1 y2
   unfold value_Unquote.l0
   repeat' first
   | (with_reducible exact ih0 _ _ _)
   | (with_reducible exact ih1 _ _ _)
   | (with_reducible exact ih2 _ _ _)
   | (with_reducible exact LeO.refl _)
   | (with_reducible exact LeO.none _)
   | (with_reducible refine LeO.ite ?_ ?_)
   | (with_reducible refine LeO.bind ?_ (fun _ => ?_))
   | exact ih0 _ _ _
   | exact ih1 _ _ _
   | exact ih2 _ _ _
   | exact LeO.none _
   | refine LeO.ite ?_ ?_
   | refine LeO.bind ?_ (fun _ => ?_)
theorem value_Unquote.mono : ∀ a0 k, LeO (value_Unquote.f k a0) (value_Unquote.f (k + 1) a0) := by
 intro a0 k
 obtain ⟨ih0, ih1, ih2⟩ := value_Unquote.mono_l k
 unfold value_Unquote.f
 repeat' first
   | (with_reducible exact ih0 _ _ _)
   | (with_reducible exact ih1 _ _ _)
   | (with_reducible exact ih2 _ _ _)
   | (with_reducible exact LeO.refl _)
   | (with_reducible exact LeO.none _)
   | (with_reducible refine LeO.ite ?_ ?_)
   | (with_reducible refine LeO.bind ?_ (fun _ => ?_))
   | exact ih0 _ _ _
   | exact ih1 _ _ _
   | exact ih2 _ _ _
   | exact LeO.none _
   | refine LeO.ite ?_ ?_
   | refine LeO.bind ?_ (fun _ => ?_)
def value_Unquote.T9 : Bool × List (List Nat × List Nat) := (true, [([], []), ([], []), ([], []), ([1, 2], [1, 2]), ([3], [3]), ([4], [4]), ([], []), ([], []), ([7], [7]), ([6, 8], [6, 8]), ([9, 4], [9]), ([10], [10]), ([5, 11], [5, 11]), ([12], [12]), ([0, 13, 10], [0, 13]), ([14, 14, 0, 1, 2, 3, 4, 5, 6, 7, 8, 9, 10, 11, 12, 13, 14], [0, 14])])
def value_Unquote.B9 : List Nat := [0, 0, 0, 6, 14, 30, 0, 0, 128, 448, 990, 2014, 4094, 8190, 16383, 32767]
theorem value_Unquote.tab9 : rtab .any (opsOf Tryd.f22 9) = value_Unquote.T9 := by kernel_rfl
theorem value_Unquote.bits9 : waitsOk value_Unquote.T9.2 value_Unquote.B9 = true := by kernel_rfl
end Go.Proofs.YtkfddpbmclbdhaaDoor.PA
