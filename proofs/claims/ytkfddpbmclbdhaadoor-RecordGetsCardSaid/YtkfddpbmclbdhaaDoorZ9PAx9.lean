/- Contracts of functions of the program: written by pr2.py (ours, round the print of the kit) out of the translation; conditions: each contract names its own. -/
import Derived.Test.YtkfddpbmclbdhaaDoorZ9PAx0
import Derived.Test.YtkfddpbmclbdhaaDoorZ9PAx3
import Derived.Test.YtkfddpbmclbdhaaDoorZ9PAx7
import Derived.Test.YtkfddpbmclbdhaaDoorZ9PAx8
import Derived.Test.YtkfddpbmclbdhaaDoorZ9GT
namespace Go.Proofs.YtkfddpbmclbdhaaDoor.PA
open Go.RowKit Go.Proofs.YtkfddpbmclbdhaaDoorW.PrintWords Go.Proofs.YtkfddpbmclbdhaaDoorW.PrintLast Go.Proofs.YtkfddpbmclbdhaaDoorW.PrintMore
attribute [local go_sem] max2_int min2_int max_two min_two max_three min_three max_four min_four   -- for this text's walks alone
set_option linter.unusedVariables false
set_option linter.unusedSimpArgs false
/-! ### kauditlaw02_ValuePairs: function 6 -/
def kauditlaw02_ValuePairs.j0 : Nat → Bool → ByteArray → Int → Int → ByteArray → Option (Bool)
 | 0, _, _, _, _, _ => none
 | k + 1, x16, x173000, x173001, x173002, x173003 => if x16 = true then ((kauditlaw02_awake.f).bind fun t173 => (some t173)) else ((value_Format.f k x173000 x173001 x173002 x173003).bind fun bt174 => ((kauditref02_Format.f k x173000 x173001 x173002 x173003).bind fun bt176 => ((value_Check.f k x173000 x173001 x173002 x173003).bind fun t178 => ((kauditref02_Check.f k x173000 x173001 x173002 x173003).bind fun t179 => (if t178 = t179 then (if bt174.2 = bt176.2 then (if bt174.1.toList = bt176.1.toList then ((kauditlaw02_awake.f).bind fun t180 => (some t180)) else (some false)) else (some false)) else (some false))))))
def kauditlaw02_ValuePairs.f (k : Nat) (a0_0 : ByteArray) (a0_1 : Int) (a0_2 : Int) (a0_3 : ByteArray) : Option (Bool) := if (a0_0.size : Int) > 100 then (kauditlaw02_ValuePairs.j0 k true a0_0 a0_1 a0_2 a0_3) else (kauditlaw02_ValuePairs.j0 k (decide ((a0_3.size : Int) > 1000)) a0_0 a0_1 a0_2 a0_3)
theorem kauditlaw02_ValuePairs.mono_l : ∀ k, (∀ y0 y1 y2 y3 y4, LeO (kauditlaw02_ValuePairs.j0 k y0 y1 y2 y3 y4) (kauditlaw02_ValuePairs.j0 (k + 1) y0 y1 y2 y3 y4))
 | 0 => fun _ _ _ _ _ r h => by simp [kauditlaw02_ValuePairs.j0] at h
 | k + 1 => by
  have ih0 := kauditlaw02_ValuePairs.mono_l k
  ·intro y0 y1 y2 y3 y4
   unfold kauditlaw02_ValuePairs.j0
   repeat' first
   | (with_reducible exact ih0 _ _ _ _ _)
   | (with_reducible exact kauditref02_Check.mono _ _ _ _ _)
   | (with_reducible exact kauditref02_Format.mono _ _ _ _ _)
   | (with_reducible exact value_Check.mono _ _ _ _ _)
   | (with_reducible exact value_Format.mono _ _ _ _ _)
   | (with_reducible exact LeO.refl _)
   | (with_reducible exact LeO.none _)
   | (with_reducible refine LeO.ite ?_ ?_)
   | (with_reducible refine LeO.bind ?_ (fun _ => ?_))
   | exact ih0 _ _ _ _ _
   | exact kauditref02_Check.mono _ _ _ _ _
   | exact kauditref02_Format.mono _ _ _ _ _
   | exact value_Check.mono _ _ _ _ _
   | exact value_Format.mono _ _ _ _ _
   | exact LeO.none _
   | refine LeO.ite ?_ ?_
   | refine LeO.bind ?_ (fun _ => ?_)
theorem kauditlaw02_ValuePairs.mono : ∀ a0 a1 a2 a3 k, LeO (kauditlaw02_ValuePairs.f k a0 a1 a2 a3) (kauditlaw02_ValuePairs.f (k + 1) a0 a1 a2 a3) := by
 intro a0 a1 a2 a3 k
 have ih0 := kauditlaw02_ValuePairs.mono_l k
 unfold kauditlaw02_ValuePairs.f
 repeat' first
   | (with_reducible exact ih0 _ _ _ _ _)
   | (with_reducible exact kauditref02_Check.mono _ _ _ _ _)
   | (with_reducible exact kauditref02_Format.mono _ _ _ _ _)
   | (with_reducible exact value_Check.mono _ _ _ _ _)
   | (with_reducible exact value_Format.mono _ _ _ _ _)
   | (with_reducible exact LeO.refl _)
   | (with_reducible exact LeO.none _)
   | (with_reducible refine LeO.ite ?_ ?_)
   | (with_reducible refine LeO.bind ?_ (fun _ => ?_))
   | exact ih0 _ _ _ _ _
   | exact kauditref02_Check.mono _ _ _ _ _
   | exact kauditref02_Format.mono _ _ _ _ _
   | exact value_Check.mono _ _ _ _ _
   | exact value_Format.mono _ _ _ _ _
   | exact LeO.none _
   | refine LeO.ite ?_ ?_
   | refine LeO.bind ?_ (fun _ => ?_)
def kauditlaw02_ValuePairs.T5 : Bool × List (List Nat × List Nat) := (true, [([], []), ([0], [0]), ([], []), ([2, 1], [2]), ([1, 3], [1, 3]), ([4, 3], [4]), ([5], [5]), ([5], [5]), ([6, 7, 5], [5, 6, 7]), ([5, 8], [5, 8]), ([9, 5], [9]), ([10], [10]), ([10], [10]), ([11, 12, 10], [10, 11, 12]), ([10, 13], [10, 13]), ([14, 10], [14]), ([15, 15], [15]), ([15, 16], [15, 16]), ([17, 16, 0, 1, 2, 3, 4, 5, 6, 7, 8, 9, 10, 11, 12, 13, 14, 15, 16, 17], [17])])
def kauditlaw02_ValuePairs.B5 : List Nat := [0, 1, 0, 7, 15, 31, 63, 63, 255, 511, 1023, 2047, 2047, 8191, 16383, 32767, 65535, 131071, 262143]
theorem kauditlaw02_ValuePairs.tab5 : rtab .any (opsOf Tryd.f6 5) = kauditlaw02_ValuePairs.T5 := by kernel_rfl
theorem kauditlaw02_ValuePairs.bits5 : waitsOk kauditlaw02_ValuePairs.T5.2 kauditlaw02_ValuePairs.B5 = true := by kernel_rfl
end Go.Proofs.YtkfddpbmclbdhaaDoor.PA
