/- Contracts of functions of the program: written by pr2.py (ours, round the print of the kit) out of the translation; conditions: each contract names its own. -/
import Derived.Test.YtkfddpbmclbdhaaDoorZ9PAx0
import Derived.Test.YtkfddpbmclbdhaaDoorZ9PAx8
import Derived.Test.YtkfddpbmclbdhaaDoorZ9PAx11
import Derived.Test.YtkfddpbmclbdhaaDoorZ9PAx12
import Derived.Test.YtkfddpbmclbdhaaDoorZ9EDec
namespace Go.Proofs.YtkfddpbmclbdhaaDoor.PA
open Go.RowKit Go.Proofs.YtkfddpbmclbdhaaDoorW.PrintWords Go.Proofs.YtkfddpbmclbdhaaDoorW.PrintLast Go.Proofs.YtkfddpbmclbdhaaDoorW.PrintMore
attribute [local go_sem] max2_int min2_int max_two min_two max_three min_three max_four min_four   -- for this text's walks alone
set_option linter.unusedVariables false
set_option linter.unusedSimpArgs false
/-! ### kauditref03_Format: function 81 -/
def kauditref03_Format.l0 : Nat → ByteArray → Int → Int → Int → Int → List (S31) → Option (ByteArray × Int)
 | 0, _, _, _, _, _, _ => none
 | k + 1, x5, x6, x292000, x292001, x292002, x292003 => if x6 < (x292003.length : Int) then (if 0 ≤ x6 then ((kauditref02_Format.f k ((rd_T31 x292003 x6).f0) ((rd_T31 x292003 x6).f1) ((rd_T31 x292003 x6).f2) ((rd_T31 x292003 x6).f3)).bind fun bt298 => (if 1 + bt298.1.size ≤ 9223372036854775807 then (if x5.size + ((⟨#[32]⟩ : ByteArray) ++ bt298.1).size ≤ 9223372036854775807 then (kauditref03_Format.l0 k (x5 ++ ((⟨#[32]⟩ : ByteArray) ++ bt298.1)) (wrap64 (x6 + 1)) x292000 x292001 x292002 x292003) else (none)) else (none))) else (none)) else (some (x5, 0))
def kauditref03_Format.f (k : Nat) (a0_0 : Int) (a0_1 : Int) (a0_2 : Int) (l0_3 : List (S31)) : Option (ByteArray × Int) := (kauditref03_Check.f k a0_0 a0_1 a0_2 l0_3).bind fun t292 => (if t292 = 0 then ((kauditref03_Name.f k a0_0).bind fun t293 => (if 5 + t293.size ≤ 9223372036854775807 then (if ((⟨#[116, 121, 112, 101, 61]⟩ : ByteArray) ++ t293).size + 11 ≤ 9223372036854775807 then ((kauditref01_Decimal.f (wrap64 (Int.tdiv a0_1 1000))).bind fun t294 => (if (((⟨#[116, 121, 112, 101, 61]⟩ : ByteArray) ++ t293) ++ (⟨#[32, 109, 115, 103, 61, 97, 117, 100, 105, 116, 40]⟩ : ByteArray)).size + t294.size ≤ 9223372036854775807 then (if ((((⟨#[116, 121, 112, 101, 61]⟩ : ByteArray) ++ t293) ++ (⟨#[32, 109, 115, 103, 61, 97, 117, 100, 105, 116, 40]⟩ : ByteArray)) ++ t294).size + 1 ≤ 9223372036854775807 then ((kauditref03_three.f (Int.tmod a0_1 1000)).bind fun t295 => (if (((((⟨#[116, 121, 112, 101, 61]⟩ : ByteArray) ++ t293) ++ (⟨#[32, 109, 115, 103, 61, 97, 117, 100, 105, 116, 40]⟩ : ByteArray)) ++ t294) ++ (⟨#[46]⟩ : ByteArray)).size + t295.size ≤ 9223372036854775807 then (if ((((((⟨#[116, 121, 112, 101, 61]⟩ : ByteArray) ++ t293) ++ (⟨#[32, 109, 115, 103, 61, 97, 117, 100, 105, 116, 40]⟩ : ByteArray)) ++ t294) ++ (⟨#[46]⟩ : ByteArray)) ++ t295).size + 1 ≤ 9223372036854775807 then ((kauditref01_Decimal.f a0_2).bind fun t296 => (if (((((((⟨#[116, 121, 112, 101, 61]⟩ : ByteArray) ++ t293) ++ (⟨#[32, 109, 115, 103, 61, 97, 117, 100, 105, 116, 40]⟩ : ByteArray)) ++ t294) ++ (⟨#[46]⟩ : ByteArray)) ++ t295) ++ (⟨#[58]⟩ : ByteArray)).size + t296.size ≤ 9223372036854775807 then (if ((((((((⟨#[116, 121, 112, 101, 61]⟩ : ByteArray) ++ t293) ++ (⟨#[32, 109, 115, 103, 61, 97, 117, 100, 105, 116, 40]⟩ : ByteArray)) ++ t294) ++ (⟨#[46]⟩ : ByteArray)) ++ t295) ++ (⟨#[58]⟩ : ByteArray)) ++ t296).size + 2 ≤ 9223372036854775807 then (kauditref03_Format.l0 k (((((((((⟨#[116, 121, 112, 101, 61]⟩ : ByteArray) ++ t293) ++ (⟨#[32, 109, 115, 103, 61, 97, 117, 100, 105, 116, 40]⟩ : ByteArray)) ++ t294) ++ (⟨#[46]⟩ : ByteArray)) ++ t295) ++ (⟨#[58]⟩ : ByteArray)) ++ t296) ++ (⟨#[41, 58]⟩ : ByteArray)) 0 a0_0 a0_1 a0_2 l0_3) else (none)) else (none))) else (none)) else (none))) else (none)) else (none))) else (none)) else (none))) else (some ((⟨#[]⟩ : ByteArray), t292)))
theorem kauditref03_Format.mono_l : ∀ k, (∀ y0 y1 y2 y3 y4 y5, LeO (kauditref03_Format.l0 k y0 y1 y2 y3 y4 y5) (kauditref03_Format.l0 (k + 1) y0 y1 y2 y3 y4 y5))
 | 0 => fun _ _ _ _ _ _ r h => by simp [kauditref03_Format.l0] at h
 | k + 1 => by
  have ih0 := kauditref03_Format.mono_l k
  ·intro y0 y1 y2 y3 y4 y5
   unfold kauditref03_Format.l0
   repeat' first
   | (with_reducible exact ih0 _ _ _ _ _ _)
   | (with_reducible exact kauditref02_Format.mono _ _ _ _ _)
   | (with_reducible exact kauditref03_Check.mono _ _ _ _ _)
   | (with_reducible exact kauditref03_Name.mono _ _)
   | (with_reducible exact LeO.refl _)
   | (with_reducible exact LeO.none _)
   | (with_reducible refine LeO.ite ?_ ?_)
   | (with_reducible refine LeO.bind ?_ (fun _ => ?_))
   | exact ih0 _ _ _ _ _ _
   | exact kauditref02_Format.mono _ _ _ _ _
   | exact kauditref03_Check.mono _ _ _ _ _
   | exact kauditref03_Name.mono _ _
   | exact LeO.none _
   | refine LeO.ite ?_ ?_
   | refine LeO.bind ?_ (fun _ => ?_)
theorem kauditref03_Format.mono : ∀ a0 a1 a2 a3 k, LeO (kauditref03_Format.f k a0 a1 a2 a3) (kauditref03_Format.f (k + 1) a0 a1 a2 a3) := by
 intro a0 a1 a2 a3 k
 have ih0 := kauditref03_Format.mono_l k
 unfold kauditref03_Format.f
 repeat' first
   | (with_reducible exact ih0 _ _ _ _ _ _)
   | (with_reducible exact kauditref02_Format.mono _ _ _ _ _)
   | (with_reducible exact kauditref03_Check.mono _ _ _ _ _)
   | (with_reducible exact kauditref03_Name.mono _ _)
   | (with_reducible exact LeO.refl _)
   | (with_reducible exact LeO.none _)
   | (with_reducible refine LeO.ite ?_ ?_)
   | (with_reducible refine LeO.bind ?_ (fun _ => ?_))
   | exact ih0 _ _ _ _ _ _
   | exact kauditref02_Format.mono _ _ _ _ _
   | exact kauditref03_Check.mono _ _ _ _ _
   | exact kauditref03_Name.mono _ _
   | exact LeO.none _
   | refine LeO.ite ?_ ?_
   | refine LeO.bind ?_ (fun _ => ?_)
end Go.Proofs.YtkfddpbmclbdhaaDoor.PA
