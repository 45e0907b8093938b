/- Contracts of functions of the program: written by pr2.py (ours, round the print of the kit) out of the translation; conditions: each contract names its own. -/
import Derived.Test.YtodbabeldolcbaaDoorY6PAx0
import Derived.Test.YtodbabeldolcbaaDoorY6PAx1
import Derived.Test.YtodbabeldolcbaaDoorY6PAx2
import Derived.Test.YtodbabeldolcbaaDoorY6PAx4
import Derived.Test.YtodbabeldolcbaaDoorY6PAx5
import Derived.Test.YtodbabeldolcbaaDoorY6GT
import Derived.Test.YtodbabeldolcbaaDoorY6EVParse
noncomputable section
namespace Go.Proofs.YtodbabeldolcbaaDoor.PA
open Go.RowKit Go.Proofs.YtodbabeldolcbaaDoorW.PrintWords Go.Proofs.YtodbabeldolcbaaDoorW.PrintLast Go.Proofs.YtodbabeldolcbaaDoorW.PrintMore
attribute [local go_sem] max2_int min2_int max_two min_two max_three min_three max_four min_four   -- for this text's walks alone
set_option linter.unusedVariables false
set_option linter.unusedSimpArgs false
attribute [local go_sem high] eqA25
/-! ### kauditlaw02_ValueBack: function 5 -/
mutual
def kauditlaw02_ValueBack.j0 : Nat → List Int → Bool → ByteArray → Int → Int → ByteArray → Option (Bool)
 | 0, _, _, _, _, _, _ => none
 | k + 1, x1, x21, x201000, x201001, x201002, x201003 => if x21 = true then ((kauditlaw02_awake.f).bind fun t201 => (some t201)) else ((kauditmake_New.f x1).bind fun bt202 => ((kauditmake_Src_Pair.f k bt202.1 bt202.2).bind fun bt205 => (kauditlaw02_ValueBack.l0 k (([(⟨x201000, x201001, x201002, x201003⟩ : S25), (⟨bt205.1, bt205.2.1, bt205.2.2.1, bt205.2.2.2.1⟩ : S25)] : List (S25))) 0)))
def kauditlaw02_ValueBack.l0 : Nat → List (S25) → Int → Option (Bool)
 | 0, _, _ => none
 | k + 1, x5, x6 => if x6 < (x5.length : Int) then (if 0 ≤ x6 then ((value_Format.f k ((rd_T25 x5 x6).f0) ((rd_T25 x5 x6).f1) ((rd_T25 x5 x6).f2) ((rd_T25 x5 x6).f3)).bind fun bt215 => (if bt215.2 = 0 then ((value_Parse.f bt215.1).bind fun bt219 => (if bt219.2.2.2.2 = 0 then (kauditlaw02_ValueBack.j2 k x5 x6 bt215.1 (!(bt219.1.toList == (((rd_T25 x5 x6).f0).toList)) || (!(bt219.2.1 == ((rd_T25 x5 x6).f1)) || (!(bt219.2.2.1 == ((rd_T25 x5 x6).f2)) || (!(bt219.2.2.2.1.toList == (((rd_T25 x5 x6).f3).toList))))))) else (kauditlaw02_ValueBack.j2 k x5 x6 bt215.1 true))) else ((value_Check.f k ((rd_T25 x5 x6).f0) ((rd_T25 x5 x6).f1) ((rd_T25 x5 x6).f2) ((rd_T25 x5 x6).f3)).bind fun t218 => (if t218 = bt215.2 then (kauditlaw02_ValueBack.l0 k x5 (wrap64 (x6 + 1))) else (some false))))) else (none)) else ((kauditlaw02_awake.f).bind fun t213 => (some t213))
def kauditlaw02_ValueBack.j2 : Nat → List (S25) → Int → ByteArray → Bool → Option (Bool)
 | 0, _, _, _, _ => none
 | k + 1, x5, x6, x7, x65 => if x65 = true then (some false) else (kauditlaw02_ValueBack.l1 k x5 x6 x7 0)
def kauditlaw02_ValueBack.l1 : Nat → List (S25) → Int → ByteArray → Int → Option (Bool)
 | 0, _, _, _, _ => none
 | k + 1, x5, x6, x7, x11 => if x11 < (x7.size : Int) then (if 0 ≤ x11 then (if (bt x7 x11) ≤ 32 then (some false) else (if (bt x7 x11) > 126 then (some false) else (kauditlaw02_ValueBack.l1 k x5 x6 x7 (wrap64 (x11 + 1))))) else (none)) else (kauditlaw02_ValueBack.l0 k x5 (wrap64 (x6 + 1)))
end
def kauditlaw02_ValueBack.f (k : Nat) (a0_0 : ByteArray) (a0_1 : Int) (a0_2 : Int) (a0_3 : ByteArray) (l1 : List Int) : Option (Bool) := if (a0_3.size : Int) > 640 then (kauditlaw02_ValueBack.j0 k l1 true a0_0 a0_1 a0_2 a0_3) else (kauditlaw02_ValueBack.j0 k l1 (decide ((a0_0.size : Int) > 100)) a0_0 a0_1 a0_2 a0_3)
theorem kauditlaw02_ValueBack.mono_l : ∀ k, (∀ y0 y1 y2 y3 y4 y5, LeO (kauditlaw02_ValueBack.j0 k y0 y1 y2 y3 y4 y5) (kauditlaw02_ValueBack.j0 (k + 1) y0 y1 y2 y3 y4 y5)) ∧ (∀ y0 y1, LeO (kauditlaw02_ValueBack.l0 k y0 y1) (kauditlaw02_ValueBack.l0 (k + 1) y0 y1)) ∧ (∀ y0 y1 y2 y3, LeO (kauditlaw02_ValueBack.j2 k y0 y1 y2 y3) (kauditlaw02_ValueBack.j2 (k + 1) y0 y1 y2 y3)) ∧ (∀ y0 y1 y2 y3, LeO (kauditlaw02_ValueBack.l1 k y0 y1 y2 y3) (kauditlaw02_ValueBack.l1 (k + 1) y0 y1 y2 y3))
 | 0 => ⟨fun _ _ _ _ _ _ r h => by simp [kauditlaw02_ValueBack.j0] at h, fun _ _ r h => by simp [kauditlaw02_ValueBack.l0] at h, fun _ _ _ _ r h => by simp [kauditlaw02_ValueBack.j2] at h, fun _ _ _ _ r h => by simp [kauditlaw02_ValueBack.l1] at h⟩
 | k + 1 => by
  obtain ⟨ih0, ih1, ih2, ih3⟩ := kauditlaw02_ValueBack.mono_l k
  refine ⟨?_, ?_, ?_, ?_⟩
  ·intro y0 y1 y2 y3 y4 y5
   unfold kauditlaw02_ValueBack.j0
   repeat' first
   | (with_reducible exact ih0 _ _ _ _ _ _)
   | (with_reducible exact ih1 _ _)
   | (with_reducible exact ih2 _ _ _ _)
   | (with_reducible exact ih3 _ _ _ _)
   | (with_reducible exact kauditmake_Src_Pair.mono _ _ _)
   | (with_reducible exact value_Check.mono _ _ _ _ _)
   | (with_reducible exact value_Format.mono _ _ _ _ _)
   | (with_reducible exact LeO.refl _)
   | (with_reducible exact LeO.none _)
   | (with_reducible refine LeO.ite ?_ ?_)
   | (with_reducible refine LeO.bind ?_ (fun _ => ?_))
   | exact ih0 _ _ _ _ _ _
   | exact ih1 _ _
   | exact ih2 _ _ _ _
   | exact ih3 _ _ _ _
   | exact kauditmake_Src_Pair.mono _ _ _
   | exact value_Check.mono _ _ _ _ _
   | exact value_Format.mono _ _ _ _ _
   | exact LeO.none _
   | refine LeO.ite ?_ ?_
   | refine LeO.bind ?_ (fun _ => ?_)
  ·intro y0 y1
   unfold kauditlaw02_ValueBack.l0
   repeat' first
   | (with_reducible exact ih0 _ _ _ _ _ _)
   | (with_reducible exact ih1 _ _)
   | (with_reducible exact ih2 _ _ _ _)
   | (with_reducible exact ih3 _ _ _ _)
   | (with_reducible exact kauditmake_Src_Pair.mono _ _ _)
   | (with_reducible exact value_Check.mono _ _ _ _ _)
   | (with_reducible exact value_Format.mono _ _ _ _ _)
   | (with_reducible exact LeO.refl _)
   | (with_reducible exact LeO.none _)
   | (with_reducible refine LeO.ite ?_ ?_)
   | (with_reducible refine LeO.bind ?_ (fun _ => ?_))
   | exact ih0 _ _ _ _ _ _
   | exact ih1 _ _
   | exact ih2 _ _ _ _
   | exact ih3 _ _ _ _
   | exact kauditmake_Src_Pair.mono _ _ _
   | exact value_Check.mono _ _ _ _ _
   | exact value_Format.mono _ _ _ _ _
   | exact LeO.none _
   | refine LeO.ite ?_ ?_
   | refine LeO.bind ?_ (fun _ => ?_)
  ·intro y0 y1 y2 y3
   unfold kauditlaw02_ValueBack.j2
   repeat' first
   | (with_reducible exact ih0 _ _ _ _ _ _)
   | (with_reducible exact ih1 _ _)
   | (with_reducible exact ih2 _ _ _ _)
   | (with_reducible exact ih3 _ _ _ _)
   | (with_reducible exact kauditmake_Src_Pair.mono _ _ _)
   | (with_reducible exact value_Check.mono _ _ _ _ _)
   | (with_reducible exact value_Format.mono _ _ _ _ _)
   | (with_reducible exact LeO.refl _)
   | (with_reducible exact LeO.none _)
   | (with_reducible refine LeO.ite ?_ ?_)
   | (with_reducible refine LeO.bind ?_ (fun _ => ?_))
   | exact ih0 _ _ _ _ _ _
   | exact ih1 _ _
   | exact ih2 _ _ _ _
   | exact ih3 _ _ _ _
   | exact kauditmake_Src_Pair.mono _ _ _
   | exact value_Check.mono _ _ _ _ _
   | exact value_Format.mono _ _ _ _ _
   | exact LeO.none _
   | refine LeO.ite ?_ ?_
   | refine LeO.bind ?_ (fun _ => ?_)
  ·intro y0 y1 y2 y3
   unfold kauditlaw02_ValueBack.l1
   repeat' first
   | (with_reducible exact ih0 _ _ _ _ _ _)
   | (with_reducible exact ih1 _ _)
   | (with_reducible exact ih2 _ _ _ _)
   | (with_reducible exact ih3 _ _ _ _)
   | (with_reducible exact kauditmake_Src_Pair.mono _ _ _)
   | (with_reducible exact value_Check.mono _ _ _ _ _)
   | (with_reducible exact value_Format.mono _ _ _ _ _)
   | (with_reducible exact LeO.refl _)
   | (with_reducible exact LeO.none _)
   | (with_reducible refine LeO.ite ?_ ?_)
   | (with_reducible refine LeO.bind ?_ (fun _ => ?_))
   | exact ih0 _ _ _ _ _ _
   | exact ih1 _ _
   | exact ih2 _ _ _ _
   | exact ih3 _ _ _ _
   | exact kauditmake_Src_Pair.mono _ _ _
   | exact value_Check.mono _ _ _ _ _
   | exact value_Format.mono _ _ _ _ _
   | exact LeO.none _
   | refine LeO.ite ?_ ?_
   | refine LeO.bind ?_ (fun _ => ?_)
theorem kauditlaw02_ValueBack.mono : ∀ a0 a1 a2 a3 a4 k, LeO (kauditlaw02_ValueBack.f k a0 a1 a2 a3 a4) (kauditlaw02_ValueBack.f (k + 1) a0 a1 a2 a3 a4) := by
 intro a0 a1 a2 a3 a4 k
 obtain ⟨ih0, ih1, ih2, ih3⟩ := kauditlaw02_ValueBack.mono_l k
 unfold kauditlaw02_ValueBack.f
 repeat' first
   | (with_reducible exact ih0 _ _ _ _ _ _)
   | (with_reducible exact ih1 _ _)
   | (with_reducible exact ih2 _ _ _ _)
   | (with_reducible exact ih3 _ _ _ _)
   | (with_reducible exact kauditmake_Src_Pair.mono _ _ _)
   | (with_reducible exact value_Check.mono _ _ _ _ _)
   | (with_reducible exact value_Format.mono _ _ _ _ _)
   | (with_reducible exact LeO.refl _)
   | (with_reducible exact LeO.none _)
   | (with_reducible refine LeO.ite ?_ ?_)
   | (with_reducible refine LeO.bind ?_ (fun _ => ?_))
   | exact ih0 _ _ _ _ _ _
   | exact ih1 _ _
   | exact ih2 _ _ _ _
   | exact ih3 _ _ _ _
   | exact kauditmake_Src_Pair.mono _ _ _
   | exact value_Check.mono _ _ _ _ _
   | exact value_Format.mono _ _ _ _ _
   | exact LeO.none _
   | refine LeO.ite ?_ ?_
   | refine LeO.bind ?_ (fun _ => ?_)
end Go.Proofs.YtodbabeldolcbaaDoor.PA
