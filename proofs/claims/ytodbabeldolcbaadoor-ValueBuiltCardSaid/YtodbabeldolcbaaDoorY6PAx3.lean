/- Contracts of functions of the program: written by pr2.py (ours, round the print of the kit) out of the translation; conditions: each contract names its own. -/
import Derived.Test.YtodbabeldolcbaaDoorY6PAx0
import Derived.Test.YtodbabeldolcbaaDoorY6PAx1
import Derived.Test.YtodbabeldolcbaaDoorY6PAx2
import Derived.Test.YtodbabeldolcbaaDoorY6GT
import Derived.Test.YtodbabeldolcbaaDoorY6EVParse
import Derived.Test.YtodbabeldolcbaaDoorY6ERefP
noncomputable section
namespace Go.Proofs.YtodbabeldolcbaaDoor.PA
open Go.RowKit Go.Proofs.YtodbabeldolcbaaDoorW.PrintWords Go.Proofs.YtodbabeldolcbaaDoorW.PrintLast Go.Proofs.YtodbabeldolcbaaDoorW.PrintMore
attribute [local go_sem] max2_int min2_int max_two min_two max_three min_three max_four min_four   -- for this text's walks alone
set_option linter.unusedVariables false
set_option linter.unusedSimpArgs false
attribute [local go_sem high] eqA25
/-! ### kauditlaw02_ValueParses: function 3 -/
def kauditlaw02_ValueParses.l0 : Nat → List ByteArray → Int → Option (Bool)
 | 0, _, _ => none
 | k + 1, x3, x4 => if x4 < (x3.length : Int) then (if 0 ≤ x4 then ((value_Parse.f (rdOf ByteArray.empty x3 x4)).bind fun bt109 => ((kauditref02_Parse.f (rdOf ByteArray.empty x3 x4)).bind fun bt116 => (if bt109.2.2.2.2 = bt116.2.2.2.2 then (if (!(bt109.1.toList == bt116.1.toList) || (!(bt109.2.1 == bt116.2.1) || (!(bt109.2.2.1 == bt116.2.2.1) || (!(bt109.2.2.2.1.toList == bt116.2.2.2.1.toList))))) = true then (some false) else (kauditlaw02_ValueParses.l0 k x3 (wrap64 (x4 + 1)))) else (some false)))) else (none)) else ((kauditlaw02_awake.f).bind fun t107 => (some t107))
def kauditlaw02_ValueParses.f (k : Nat) (a0 : ByteArray) : Option (Bool) := if (a0.size : Int) > 1500 then ((kauditlaw02_awake.f).bind fun t103 => (some t103)) else (if 2 + a0.size ≤ 9223372036854775807 then (kauditlaw02_ValueParses.l0 k (([a0, (⟨#[97, 61]⟩ : ByteArray) ++ a0] : List ByteArray)) 0) else (none))
theorem kauditlaw02_ValueParses.mono_l : ∀ k, (∀ y0 y1, LeO (kauditlaw02_ValueParses.l0 k y0 y1) (kauditlaw02_ValueParses.l0 (k + 1) y0 y1))
 | 0 => fun _ _ r h => by simp [kauditlaw02_ValueParses.l0] at h
 | k + 1 => by
  have ih0 := kauditlaw02_ValueParses.mono_l k
  ·intro y0 y1
   unfold kauditlaw02_ValueParses.l0
   repeat' first
   | (with_reducible exact ih0 _ _)
   | (with_reducible exact LeO.refl _)
   | (with_reducible exact LeO.none _)
   | (with_reducible refine LeO.ite ?_ ?_)
   | (with_reducible refine LeO.bind ?_ (fun _ => ?_))
   | exact ih0 _ _
   | exact LeO.none _
   | refine LeO.ite ?_ ?_
   | refine LeO.bind ?_ (fun _ => ?_)
theorem kauditlaw02_ValueParses.mono : ∀ a0 k, LeO (kauditlaw02_ValueParses.f k a0) (kauditlaw02_ValueParses.f (k + 1) a0) := by
 intro a0 k
 have ih0 := kauditlaw02_ValueParses.mono_l k
 unfold kauditlaw02_ValueParses.f
 repeat' first
   | (with_reducible exact ih0 _ _)
   | (with_reducible exact LeO.refl _)
   | (with_reducible exact LeO.none _)
   | (with_reducible refine LeO.ite ?_ ?_)
   | (with_reducible refine LeO.bind ?_ (fun _ => ?_))
   | exact ih0 _ _
   | exact LeO.none _
   | refine LeO.ite ?_ ?_
   | refine LeO.bind ?_ (fun _ => ?_)
end Go.Proofs.YtodbabeldolcbaaDoor.PA
