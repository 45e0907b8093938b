/- Contracts of functions of the program: written by pr2.py (ours, round the print of the kit) out of the translation; conditions: each contract names its own. -/
import Derived.Test.YtkfddpbmclbdhaaDoorZ9PAx0
import Derived.Test.YtkfddpbmclbdhaaDoorZ9PAx11
import Derived.Test.YtkfddpbmclbdhaaDoorZ9PAx12
import Derived.Test.YtkfddpbmclbdhaaDoorZ9PAx13
import Derived.Test.YtkfddpbmclbdhaaDoorZ9GT
import Derived.Test.YtkfddpbmclbdhaaDoorZ9ECheck
import Derived.Test.YtkfddpbmclbdhaaDoorZ9EForm
namespace Go.Proofs.YtkfddpbmclbdhaaDoor.PA
open Go.RowKit Go.Proofs.YtkfddpbmclbdhaaDoorW.PrintWords Go.Proofs.YtkfddpbmclbdhaaDoorW.PrintLast Go.Proofs.YtkfddpbmclbdhaaDoorW.PrintMore
attribute [local go_sem] max2_int min2_int max_two min_two max_three min_three max_four min_four   -- for this text's walks alone
set_option linter.unusedVariables false
set_option linter.unusedSimpArgs false
/-! ### kauditlaw03_agrees: function 33 -/
def kauditlaw03_agrees.f (k : Nat) (a0_0 : Int) (a0_1 : Int) (a0_2 : Int) (l0_3 : List (S31)) : Option (Bool) := (record_Format.f a0_0 a0_1 a0_2 l0_3).bind fun bt301 => ((kauditref03_Format.f k a0_0 a0_1 a0_2 l0_3).bind fun bt303 => ((record_Check.f a0_0 a0_1 a0_2 l0_3).bind fun t305 => ((kauditref03_Check.f k a0_0 a0_1 a0_2 l0_3).bind fun t306 => (if t305 = t306 then (if bt301.2 = bt303.2 then (some (bt301.1.toList == bt303.1.toList)) else (some false)) else (some false)))))
theorem kauditlaw03_agrees.mono : ∀ a0 a1 a2 a3 k, LeO (kauditlaw03_agrees.f k a0 a1 a2 a3) (kauditlaw03_agrees.f (k + 1) a0 a1 a2 a3) := by
 intro a0 a1 a2 a3 k
 unfold kauditlaw03_agrees.f
 repeat' first
   | (with_reducible exact kauditref03_Check.mono _ _ _ _ _)
   | (with_reducible exact kauditref03_Format.mono _ _ _ _ _)
   | (with_reducible exact LeO.refl _)
   | (with_reducible exact LeO.none _)
   | (with_reducible refine LeO.ite ?_ ?_)
   | (with_reducible refine LeO.bind ?_ (fun _ => ?_))
   | exact kauditref03_Check.mono _ _ _ _ _
   | exact kauditref03_Format.mono _ _ _ _ _
   | exact LeO.none _
   | refine LeO.ite ?_ ?_
   | refine LeO.bind ?_ (fun _ => ?_)
/-! ### kauditlaw03_RecordChecks: function 8 -/
def kauditlaw03_RecordChecks.f (k : Nat) (a0_0 : Int) (a0_1 : Int) (a0_2 : Int) (l0_3 : List (S31)) : Option (Bool) := (kauditlaw03_light.f k a0_0 a0_1 a0_2 l0_3).bind fun t308 => (if t308 = true then ((kauditlaw03_agrees.f k a0_0 a0_1 a0_2 l0_3).bind fun t310 => (if t310 = true then ((kauditlaw03_agrees.f k 1302 (Go.bits .and .i64 a0_1 1099511627775) (Go.bits .and .i64 a0_2 1073741823) l0_3).bind fun t311 => (if t311 = true then ((kauditlaw03_awake.f).bind fun t312 => (some t312)) else (some false))) else (some false))) else ((kauditlaw03_awake.f).bind fun t309 => (some t309)))
theorem kauditlaw03_RecordChecks.mono : ∀ a0 a1 a2 a3 k, LeO (kauditlaw03_RecordChecks.f k a0 a1 a2 a3) (kauditlaw03_RecordChecks.f (k + 1) a0 a1 a2 a3) := by
 intro a0 a1 a2 a3 k
 unfold kauditlaw03_RecordChecks.f
 repeat' first
   | (with_reducible exact kauditlaw03_agrees.mono _ _ _ _ _)
   | (with_reducible exact kauditlaw03_light.mono _ _ _ _ _)
   | (with_reducible exact LeO.refl _)
   | (with_reducible exact LeO.none _)
   | (with_reducible refine LeO.ite ?_ ?_)
   | (with_reducible refine LeO.bind ?_ (fun _ => ?_))
   | exact kauditlaw03_agrees.mono _ _ _ _ _
   | exact kauditlaw03_light.mono _ _ _ _ _
   | exact LeO.none _
   | refine LeO.ite ?_ ?_
   | refine LeO.bind ?_ (fun _ => ?_)
end Go.Proofs.YtkfddpbmclbdhaaDoor.PA
