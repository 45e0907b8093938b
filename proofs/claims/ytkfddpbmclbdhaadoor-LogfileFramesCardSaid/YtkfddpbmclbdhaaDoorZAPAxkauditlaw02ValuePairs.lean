/- Contracts of functions of the program: written by pr2.py (ours, round the print of the kit) out of the translation; conditions: each contract names its own. -/
import Derived.Test.YtkfddpbmclbdhaaDoorZAEDec
import Derived.Test.YtkfddpbmclbdhaaDoorZAPAxkauditlaw02ValueQuotes
import Derived.Test.YtkfddpbmclbdhaaDoorZAPAxkauditref02Check
section
namespace Go.Proofs.YtkfddpbmclbdhaaDoor.PA
open Go.RowKit Go.Proofs.YtkfddpbmclbdhaaDoorW.PrintWords Go.Proofs.YtkfddpbmclbdhaaDoorW.PrintLast Go.Proofs.YtkfddpbmclbdhaaDoorW.PrintMore
attribute [local go_sem] Zaz Zax Za5 Za4 Zas Zar Zay Zaw   -- for this text's walks alone
set_option linter.unusedVariables false
set_option linter.unusedSimpArgs false
def kauditref02_Number.f (a0 : Int) : Option (ByteArray) := if a0 ≥ 0 then ((kauditref01_Decimal.f a0).bind fun t163 => (some t163)) else (if (wrap64 (-a0)) < 0 then ((kauditref01_Decimal.f (wrap64 (-(wrap64 (Int.tdiv a0 10))))).bind fun t164 => (if 1 + t164.size ≤ 9223372036854775807 then ((kauditref01_Decimal.f (wrap64 (-(Int.tmod a0 10)))).bind fun t165 => (if ((⟨#[45]⟩ : ByteArray) ++ t164).size + t165.size ≤ 9223372036854775807 then (some (((⟨#[45]⟩ : ByteArray) ++ t164) ++ t165)) else (none))) else (none))) else ((kauditref01_Decimal.f (wrap64 (-a0))).bind fun t166 => (if 1 + t166.size ≤ 9223372036854775807 then (some ((⟨#[45]⟩ : ByteArray) ++ t166)) else (none))))
end Go.Proofs.YtkfddpbmclbdhaaDoor.PA
end
section
namespace Go.Proofs.YtkfddpbmclbdhaaDoor.PA
open Go.RowKit Go.Proofs.YtkfddpbmclbdhaaDoorW.PrintWords Go.Proofs.YtkfddpbmclbdhaaDoorW.PrintLast Go.Proofs.YtkfddpbmclbdhaaDoorW.PrintMore
attribute [local go_sem] Zaz Zax Za5 Za4 Zas Zar Zay Zaw   -- for this text's walks alone
set_option linter.unusedVariables false
set_option linter.unusedSimpArgs false
def kauditref02_Format.f (k : Nat) (a0_0 : ByteArray) (a0_1 : Int) (a0_2 : Int) (a0_3 : ByteArray) : Option (ByteArray × Int) := (kauditref02_Check.f k a0_0 a0_1 a0_2 a0_3).bind fun t168 => (if t168 = 0 then (if a0_1 = 1 then (if a0_0.size + 1 ≤ 9223372036854775807 then ((kauditref02_Number.f a0_2).bind fun t169 => (if (a0_0 ++ (⟨#[61]⟩ : ByteArray)).size + t169.size ≤ 9223372036854775807 then (some ((a0_0 ++ (⟨#[61]⟩ : ByteArray)) ++ t169, 0)) else (none))) else (none)) else (if a0_1 = 2 then ((kauditref02_Quote.f k a0_3).bind fun bt170 => (if a0_0.size + 1 ≤ 9223372036854775807 then (if (a0_0 ++ (⟨#[61]⟩ : ByteArray)).size + bt170.1.size ≤ 9223372036854775807 then (some ((a0_0 ++ (⟨#[61]⟩ : ByteArray)) ++ bt170.1, bt170.2)) else (none)) else (none))) else (if a0_0.size + 7 ≤ 9223372036854775807 then (some (a0_0 ++ (⟨#[61, 40, 110, 117, 108, 108, 41]⟩ : ByteArray), 0)) else (none)))) else (some ((⟨#[]⟩ : ByteArray), t168)))
theorem kauditref02_Format.mono : ∀ a0 a1 a2 a3 k, LeO (kauditref02_Format.f k a0 a1 a2 a3) (kauditref02_Format.f (k + 1) a0 a1 a2 a3) := by
 intro a0 a1 a2 a3 k
 unfold kauditref02_Format.f
 repeat' first
   | (with_reducible exact kauditref02_Check.mono _ _ _ _ _)
   | (with_reducible exact kauditref02_Quote.mono _ _)
   | (with_reducible exact LeO.refl _)
   | (with_reducible exact LeO.none _)
   | (with_reducible refine LeO.ite ?_ ?_)
   | (with_reducible refine LeO.bind ?_ (fun _ => ?_))
   | exact kauditref02_Check.mono _ _ _ _ _
   | exact kauditref02_Quote.mono _ _
   | exact LeO.none _
   | refine LeO.ite ?_ ?_
   | refine LeO.bind ?_ (fun _ => ?_)
end Go.Proofs.YtkfddpbmclbdhaaDoor.PA
end
section
namespace Go.Proofs.YtkfddpbmclbdhaaDoor.PA
open Go.RowKit Go.Proofs.YtkfddpbmclbdhaaDoorW.PrintWords Go.Proofs.YtkfddpbmclbdhaaDoorW.PrintLast Go.Proofs.YtkfddpbmclbdhaaDoorW.PrintMore
attribute [local go_sem] Zaz Zax Za5 Za4 Zas Zar Zay Zaw   -- for this text's walks alone
set_option linter.unusedVariables false
set_option linter.unusedSimpArgs false
def kauditlaw02_ValuePairs.j0 : Nat → Bool → ByteArray → Int → Int → ByteArray → Option (Bool)
 | 0, _, _, _, _, _ => none
 | k + 1, x16, x173000, x173001, x173002, x173003 => if x16 = true then ((kauditlaw02_awake.f).bind fun t173 => (some t173)) else ((value_Format.f k x173000 x173001 x173002 x173003).bind fun bt174 => ((kauditref02_Format.f k x173000 x173001 x173002 x173003).bind fun bt176 => ((value_Check.f k x173000 x173001 x173002 x173003).bind fun t178 => ((kauditref02_Check.f k x173000 x173001 x173002 x173003).bind fun t179 => (if t178 = t179 then (if bt174.2 = bt176.2 then (if bt174.1.toList = bt176.1.toList then ((kauditlaw02_awake.f).bind fun t180 => (some t180)) else (some false)) else (some false)) else (some false))))))
def kauditlaw02_ValuePairs.f (k : Nat) (a0_0 : ByteArray) (a0_1 : Int) (a0_2 : Int) (a0_3 : ByteArray) : Option (Bool) := if (a0_0.size : Int) > 100 then (kauditlaw02_ValuePairs.j0 k true a0_0 a0_1 a0_2 a0_3) else (kauditlaw02_ValuePairs.j0 k (decide ((a0_3.size : Int) > 1000)) a0_0 a0_1 a0_2 a0_3)
theorem kauditlaw02_ValuePairs.mono_l : ∀ k, (∀ y0 y1 y2 y3 y4, LeO (kauditlaw02_ValuePairs.j0 k y0 y1 y2 y3 y4) (kauditlaw02_ValuePairs.j0 (k + 1) y0 y1 y2 y3 y4))
 | 0 => fun _ _ _ _ _ r h => by simp [kauditlaw02_ValuePairs.j0] at h
 | k + 1 => by
  have ih0 := kauditlaw02_ValuePairs.mono_l k
  ·intro y0 y1 y2 y3 y4
   unfold kauditlaw02_ValuePairs.j0
   repeat' first
   | (with_reducible exact ih0 _ _ _ _ _)
   | (with_reducible exact kauditref02_Check.mono _ _ _ _ _)
   | (with_reducible exact kauditref02_Format.mono _ _ _ _ _)
   | (with_reducible exact value_Check.mono _ _ _ _ _)
   | (with_reducible exact value_Format.mono _ _ _ _ _)
   | (with_reducible exact LeO.refl _)
   | (with_reducible exact LeO.none _)
   | (with_reducible refine LeO.ite ?_ ?_)
   | (with_reducible refine LeO.bind ?_ (fun _ => ?_))
   | exact ih0 _ _ _ _ _
   | exact kauditref02_Check.mono _ _ _ _ _
   | exact kauditref02_Format.mono _ _ _ _ _
   | exact value_Check.mono _ _ _ _ _
   | exact value_Format.mono _ _ _ _ _
   | exact LeO.none _
   | refine LeO.ite ?_ ?_
   | refine LeO.bind ?_ (fun _ => ?_)
theorem kauditlaw02_ValuePairs.mono : ∀ a0 a1 a2 a3 k, LeO (kauditlaw02_ValuePairs.f k a0 a1 a2 a3) (kauditlaw02_ValuePairs.f (k + 1) a0 a1 a2 a3) := by
 intro a0 a1 a2 a3 k
 have ih0 := kauditlaw02_ValuePairs.mono_l k
 unfold kauditlaw02_ValuePairs.f
 repeat' first
   | (with_reducible exact ih0 _ _ _ _ _)
   | (with_reducible exact kauditref02_Check.mono _ _ _ _ _)
   | (with_reducible exact kauditref02_Format.mono _ _ _ _ _)
   | (with_reducible exact value_Check.mono _ _ _ _ _)
   | (with_reducible exact value_Format.mono _ _ _ _ _)
   | (with_reducible exact LeO.refl _)
   | (with_reducible exact LeO.none _)
   | (with_reducible refine LeO.ite ?_ ?_)
   | (with_reducible refine LeO.bind ?_ (fun _ => ?_))
   | exact ih0 _ _ _ _ _
   | exact kauditref02_Check.mono _ _ _ _ _
   | exact kauditref02_Format.mono _ _ _ _ _
   | exact value_Check.mono _ _ _ _ _
   | exact value_Format.mono _ _ _ _ _
   | exact LeO.none _
   | refine LeO.ite ?_ ?_
   | refine LeO.bind ?_ (fun _ => ?_)
end Go.Proofs.YtkfddpbmclbdhaaDoor.PA
end
