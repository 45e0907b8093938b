/- Contracts of functions of the program: written by pr2.py (ours, round the print of the kit) out of the translation; conditions: each contract names its own. -/
import Derived.Test.YtodbabeldolcbaaDoorY7PAx0
import Derived.Test.YtodbabeldolcbaaDoorY7PAx4
namespace Go.Proofs.YtodbabeldolcbaaDoor.PA
open Go.RowKit Go.Proofs.YtodbabeldolcbaaDoorW.PrintWords Go.Proofs.YtodbabeldolcbaaDoorW.PrintLast Go.Proofs.YtodbabeldolcbaaDoorW.PrintMore
attribute [local go_sem] max2_int min2_int max_two min_two max_three min_three max_four min_four   -- for this text's walks alone
set_option linter.unusedVariables false
set_option linter.unusedSimpArgs false
/-! ### kauditmake_Src_Record: function 21 -/
def kauditmake_Src_Record.l0 : Nat → Int → List Int → Int → Int → Int → Int → List (S25) → Option (Int × Int × Int × (List (S25)) × Int)
 | 0, _, _, _, _, _, _, _ => none
 | k + 1, x4, x1000, x1001, x275000, x275001, x275002, x275003 => if x4 > 0 then ((kauditmake_Src_Pair.f k x1000 x1001).bind fun bt277 => (if x275003.length < 2932031007402 then (kauditmake_Src_Record.l0 k (wrap64 (x4 - 1)) x1000 bt277.2.2.2.2 x275000 x275001 x275002 (x275003 ++ [(⟨bt277.1, bt277.2.1, bt277.2.2.1, bt277.2.2.2.1⟩ : S25)])) else (none))) else ((kauditmake_Src_N.f x1000 x1001 20).bind fun bt285 => (if bt285.1 = 19 then ((kauditmake_Src_Range.f x1000 bt285.2 1299 1303).bind fun bt287 => ((kauditmake_Src_Range.f x1000 bt287.2 (-1) 1).bind fun bt289 => (some (bt287.1, bt289.1, x275002, x275003, bt289.2)))) else (some (x275000, x275001, x275002, x275003, bt285.2))))
def kauditmake_Src_Record.f (k : Nat) (s0_0 : List Int) (s0_1 : Int) : Option (Int × Int × Int × (List (S25)) × Int) := (kauditmake_Src_Pick.f s0_0 s0_1 (([1005, 1200, 1300, 1302, 1305, 1306, 1307, 1309, 1320, 1331] : List Int))).bind fun bt262 => ((kauditmake_Src_Pick.f s0_0 bt262.2 (([0, 5, 999, 1000, 12345, 1099511627776] : List Int))).bind fun bt267 => ((kauditmake_Src_Pick.f s0_0 bt267.2 (([0, 1, 7, 1073741824] : List Int))).bind fun bt272 => ((kauditmake_Src_N.f s0_0 bt272.2 4).bind fun bt275 => (kauditmake_Src_Record.l0 k bt275.1 s0_0 bt275.2 bt262.1 bt267.1 bt272.1 ([] : List (S25))))))
theorem kauditmake_Src_Record.mono_l : ∀ k, (∀ y0 y1 y2 y3 y4 y5 y6, LeO (kauditmake_Src_Record.l0 k y0 y1 y2 y3 y4 y5 y6) (kauditmake_Src_Record.l0 (k + 1) y0 y1 y2 y3 y4 y5 y6))
 | 0 => fun _ _ _ _ _ _ _ r h => by simp [kauditmake_Src_Record.l0] at h
 | k + 1 => by
  have ih0 := kauditmake_Src_Record.mono_l k
  ·intro y0 y1 y2 y3 y4 y5 y6
   unfold kauditmake_Src_Record.l0
   repeat' first
   | (with_reducible exact ih0 _ _ _ _ _ _ _)
   | (with_reducible exact kauditmake_Src_Pair.mono _ _ _)
   | (with_reducible exact LeO.refl _)
   | (with_reducible exact LeO.none _)
   | (with_reducible refine LeO.ite ?_ ?_)
   | (with_reducible refine LeO.bind ?_ (fun _ => ?_))
   | exact ih0 _ _ _ _ _ _ _
   | exact kauditmake_Src_Pair.mono _ _ _
   | exact LeO.none _
   | refine LeO.ite ?_ ?_
   | refine LeO.bind ?_ (fun _ => ?_)
theorem kauditmake_Src_Record.mono : ∀ a0 a1 k, LeO (kauditmake_Src_Record.f k a0 a1) (kauditmake_Src_Record.f (k + 1) a0 a1) := by
 intro a0 a1 k
 have ih0 := kauditmake_Src_Record.mono_l k
 unfold kauditmake_Src_Record.f
 repeat' first
   | (with_reducible exact ih0 _ _ _ _ _ _ _)
   | (with_reducible exact kauditmake_Src_Pair.mono _ _ _)
   | (with_reducible exact LeO.refl _)
   | (with_reducible exact LeO.none _)
   | (with_reducible refine LeO.ite ?_ ?_)
   | (with_reducible refine LeO.bind ?_ (fun _ => ?_))
   | exact ih0 _ _ _ _ _ _ _
   | exact kauditmake_Src_Pair.mono _ _ _
   | exact LeO.none _
   | refine LeO.ite ?_ ?_
   | refine LeO.bind ?_ (fun _ => ?_)
end Go.Proofs.YtodbabeldolcbaaDoor.PA
