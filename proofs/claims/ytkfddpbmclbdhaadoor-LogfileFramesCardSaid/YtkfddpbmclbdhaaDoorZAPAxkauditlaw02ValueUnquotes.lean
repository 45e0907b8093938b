/- Contracts of functions of the program: written by pr2.py (ours, round the print of the kit) out of the translation; conditions: each contract names its own. -/
import Derived.Test.YtkfddpbmclbdhaaDoorZAPAxkauditlaw02ValueQuotes
import Derived.Test.YtkfddpbmclbdhaaDoorZAPAxvalueUnquote
section
namespace Go.Proofs.YtkfddpbmclbdhaaDoor.PA
open Go.RowKit Go.Proofs.YtkfddpbmclbdhaaDoorW.PrintWords Go.Proofs.YtkfddpbmclbdhaaDoorW.PrintLast Go.Proofs.YtkfddpbmclbdhaaDoorW.PrintMore
attribute [local go_sem] Zaz Zax Za5 Za4 Zas Zar Zay Zaw   -- for this text's walks alone
set_option linter.unusedVariables false
set_option linter.unusedSimpArgs false
def kauditref02_value.l0 : Nat → Int → Int → Option (Int)
 | 0, _, _ => none
 | k + 1, x0, x3 => if x3 < 16 then (if 0 ≤ x3 then (if (bt (⟨#[48, 49, 50, 51, 52, 53, 54, 55, 56, 57, 97, 98, 99, 100, 101, 102]⟩ : ByteArray) x3) = x0 then (some x3) else (kauditref02_value.l0 k x0 (wrap64 (x3 + 1)))) else (none)) else (some (-1))
def kauditref02_value.f (k : Nat) (a0 : Int) : Option (Int) := kauditref02_value.l0 k a0 0
theorem kauditref02_value.mono_l : ∀ k, (∀ y0 y1, LeO (kauditref02_value.l0 k y0 y1) (kauditref02_value.l0 (k + 1) y0 y1))
 | 0 => fun _ _ r h => by simp [kauditref02_value.l0] at h
 | k + 1 => by
  have ih0 := kauditref02_value.mono_l k
  ·intro y0 y1
   unfold kauditref02_value.l0
   repeat' first
   | (with_reducible exact ih0 _ _)
   | (with_reducible exact LeO.refl _)
   | (with_reducible exact LeO.none _)
   | (with_reducible refine LeO.ite ?_ ?_)
   | (with_reducible refine LeO.bind ?_ (fun _ => ?_))
   | exact ih0 _ _
   | exact LeO.none _
   | refine LeO.ite ?_ ?_
   | refine LeO.bind ?_ (fun _ => ?_)
theorem kauditref02_value.mono : ∀ a0 k, LeO (kauditref02_value.f k a0) (kauditref02_value.f (k + 1) a0) := by
 intro a0 k
 have ih0 := kauditref02_value.mono_l k
 unfold kauditref02_value.f
 repeat' first
   | (with_reducible exact ih0 _ _)
   | (with_reducible exact LeO.refl _)
   | (with_reducible exact LeO.none _)
   | (with_reducible refine LeO.ite ?_ ?_)
   | (with_reducible refine LeO.bind ?_ (fun _ => ?_))
   | exact ih0 _ _
   | exact LeO.none _
   | refine LeO.ite ?_ ?_
   | refine LeO.bind ?_ (fun _ => ?_)
end Go.Proofs.YtkfddpbmclbdhaaDoor.PA
end
section
namespace Go.Proofs.YtkfddpbmclbdhaaDoor.PA
open Go.RowKit Go.Proofs.YtkfddpbmclbdhaaDoorW.PrintWords Go.Proofs.YtkfddpbmclbdhaaDoorW.PrintLast Go.Proofs.YtkfddpbmclbdhaaDoorW.PrintMore
attribute [local go_sem] Zaz Zax Za5 Za4 Zas Zar Zay Zaw   -- for this text's walks alone
set_option linter.unusedVariables false
set_option linter.unusedSimpArgs false
mutual
def kauditref02_Unquote.j0 : Nat → ByteArray → ByteArray → Bool → Option (ByteArray × Int)
 | 0, _, _, _ => none
 | k + 1, x0, x4, x17 => if x17 = true then (if 1 ≤ (wrap64 ((x0.size : Int) - 1)) then (if (wrap64 ((x0.size : Int) - 1)) ≤ (x0.size : Int) then ((kauditref02_Quote.f k (x0.extract 1 ((wrap64 ((x0.size : Int) - 1)) : Int).toNat)).bind fun bt121 => (if bt121.2 = 0 then (if bt121.1.toList = x0.toList then (some (x0.extract 1 ((wrap64 ((x0.size : Int) - 1)) : Int).toNat, 0)) else (some ((⟨#[]⟩ : ByteArray), 21))) else (some ((⟨#[]⟩ : ByteArray), 21)))) else (none)) else (none)) else (if (x0.size : Int) ≥ 3 then (if 0 < (x0.size : Int) then (if (bt x0 0) = 120 then (if ((x0.size : Int) % 2) = 1 then (kauditref02_Unquote.j1 k x0 x4 (decide ((x0.size : Int) ≤ 1281))) else (kauditref02_Unquote.j1 k x0 x4 false)) else (kauditref02_Unquote.j1 k x0 x4 false)) else (none)) else (kauditref02_Unquote.j1 k x0 x4 false))
def kauditref02_Unquote.j1 : Nat → ByteArray → ByteArray → Bool → Option (ByteArray × Int)
 | 0, _, _, _ => none
 | k + 1, x0, x4, x41 => if x41 = true then (kauditref02_Unquote.l0 k x0 x4 1) else ((kauditref02_Quote.f k x4).bind fun bt130 => (if bt130.2 = 0 then (if bt130.1.toList = x0.toList then (some (x4, 0)) else (some ((⟨#[]⟩ : ByteArray), 21))) else (some ((⟨#[]⟩ : ByteArray), 21))))
def kauditref02_Unquote.l0 : Nat → ByteArray → ByteArray → Int → Option (ByteArray × Int)
 | 0, _, _, _ => none
 | k + 1, x0, x4, x5 => if x5 < (x0.size : Int) then (if 0 ≤ x5 then ((kauditref02_value.f k (bt x0 x5)).bind fun t125 => (if 0 ≤ (wrap64 (x5 + 1)) then (if (wrap64 (x5 + 1)) < (x0.size : Int) then ((kauditref02_value.f k (bt x0 (wrap64 (x5 + 1)))).bind fun t126 => (if t125 < 0 then (some ((⟨#[]⟩ : ByteArray), 21)) else (if t126 < 0 then (some ((⟨#[]⟩ : ByteArray), 21)) else ((some (([(wrap64 ((wrap64 (16 * t125)) + t126)) % 256] : List Int) : List Int)).bind fun y127 => (if x4.size + (strOfNums y127).size ≤ 9223372036854775807 then (kauditref02_Unquote.l0 k x0 (x4 ++ (strOfNums y127)) (wrap64 (x5 + 2))) else (none)))))) else (none)) else (none))) else (none)) else ((kauditref02_Quote.f k x4).bind fun bt123 => (if bt123.2 = 0 then (if bt123.1.toList = x0.toList then (some (x4, 0)) else (some ((⟨#[]⟩ : ByteArray), 21))) else (some ((⟨#[]⟩ : ByteArray), 21))))
end
def kauditref02_Unquote.f (k : Nat) (a0 : ByteArray) : Option (ByteArray × Int) := if (a0.size : Int) ≥ 2 then (if 0 < (a0.size : Int) then (kauditref02_Unquote.j0 k a0 (⟨#[]⟩ : ByteArray) ((bt a0 0) == 34)) else (none)) else (kauditref02_Unquote.j0 k a0 (⟨#[]⟩ : ByteArray) false)
theorem kauditref02_Unquote.mono_l : ∀ k, (∀ y0 y1 y2, LeO (kauditref02_Unquote.j0 k y0 y1 y2) (kauditref02_Unquote.j0 (k + 1) y0 y1 y2)) ∧ (∀ y0 y1 y2, LeO (kauditref02_Unquote.j1 k y0 y1 y2) (kauditref02_Unquote.j1 (k + 1) y0 y1 y2)) ∧ (∀ y0 y1 y2, LeO (kauditref02_Unquote.l0 k y0 y1 y2) (kauditref02_Unquote.l0 (k + 1) y0 y1 y2))
 | 0 => ⟨fun _ _ _ r h => by simp [kauditref02_Unquote.j0] at h, fun _ _ _ r h => by simp [kauditref02_Unquote.j1] at h, fun _ _ _ r h => by simp [kauditref02_Unquote.l0] at h⟩
 | k + 1 => by
  obtain ⟨ih0, ih1, ih2⟩ := kauditref02_Unquote.mono_l k
  refine ⟨?_, ?_, ?_⟩
  ·intro y0 y1 y2
   unfold kauditref02_Unquote.j0
   repeat' first
   | (with_reducible exact ih0 _ _ _)
   | (with_reducible exact ih1 _ _ _)
   | (with_reducible exact ih2 _ _ _)
   | (with_reducible exact kauditref02_Quote.mono _ _)
   | (with_reducible exact kauditref02_value.mono _ _)
   | (with_reducible exact LeO.refl _)
   | (with_reducible exact LeO.none _)
   | (with_reducible refine LeO.ite ?_ ?_)
   | (with_reducible refine LeO.bind ?_ (fun _ => ?_))
   | exact ih0 _ _ _
   | exact ih1 _ _ _
   | exact ih2 _ _ _
   | exact kauditref02_Quote.mono _ _
   | exact kauditref02_value.mono _ _
   | exact LeO.none _
   | refine LeO.ite ?_ ?_
   | refine LeO.bind ?_ (fun _ => ?_)
  ·intro y0 y1 y2
   unfold kauditref02_Unquote.j1
   repeat' first
   | (with_reducible exact ih0 _ _ _)
   | (with_reducible exact ih1 _ _ _)
   | (with_reducible exact ih2 _ _ _)
   | (with_reducible exact kauditref02_Quote.mono _ _)
   | (with_reducible exact kauditref02_value.mono _ _)
   | (with_reducible exact LeO.refl _)
   | (with_reducible exact LeO.none _)
   | (with_reducible refine LeO.ite ?_ ?_)
   | (with_reducible refine LeO.bind ?_ (fun _ => ?_))
   | exact ih0 _ _ _
   | exact ih1 _ _ _
   | exact ih2 _ _ _
   | exact kauditref02_Quote.mono _ _
   | exact kauditref02_value.mono _ _
   | exact LeO.none _
   | refine LeO.ite ?_ ?_
   | refine LeO.bind ?_ (fun _ => ?_)
  ·intro y0 y1 y2
   unfold kauditref02_Unquote.l0
   repeat' first
   | (with_reducible exact ih0 _ _ _)
   | (with_reducible exact ih1 _ _ _)
   | (with_reducible exact ih2 _ _ _)
   | (with_reducible exact kauditref02_Quote.mono _ _)
   | (with_reducible exact kauditref02_value.mono _ _)
   | (with_reducible exact LeO.refl _)
   | (with_reducible exact LeO.none _)
   | (with_reducible refine LeO.ite ?_ ?_)
   | (with_reducible refine LeO.bind ?_ (fun _ => ?_))
   | exact ih0 _ _ _
   | exact ih1 _ _ _
   | exact ih2 _ _ _
   | exact kauditref02_Quote.mono _ _
   | exact kauditref02_value.mono _ _
   | exact LeO.none _
   | refine LeO.ite ?_ ?_
   | refine LeO.bind ?_ (fun _ => ?_)
theorem kauditref02_Unquote.mono : ∀ a0 k, LeO (kauditref02_Unquote.f k a0) (kauditref02_Unquote.f (k + 1) a0) := by
 intro a0 k
 obtain ⟨ih0, ih1, ih2⟩ := kauditref02_Unquote.mono_l k
 unfold kauditref02_Unquote.f
 repeat' first
   | (with_reducible exact ih0 _ _ _)
   | (with_reducible exact ih1 _ _ _)
   | (with_reducible exact ih2 _ _ _)
   | (with_reducible exact kauditref02_Quote.mono _ _)
   | (with_reducible exact kauditref02_value.mono _ _)
   | (with_reducible exact LeO.refl _)
   | (with_reducible exact LeO.none _)
   | (with_reducible refine LeO.ite ?_ ?_)
   | (with_reducible refine LeO.bind ?_ (fun _ => ?_))
   | exact ih0 _ _ _
   | exact ih1 _ _ _
   | exact ih2 _ _ _
   | exact kauditref02_Quote.mono _ _
   | exact kauditref02_value.mono _ _
   | exact LeO.none _
   | refine LeO.ite ?_ ?_
   | refine LeO.bind ?_ (fun _ => ?_)
end Go.Proofs.YtkfddpbmclbdhaaDoor.PA
end
section
namespace Go.Proofs.YtkfddpbmclbdhaaDoor.PA
open Go.RowKit Go.Proofs.YtkfddpbmclbdhaaDoorW.PrintWords Go.Proofs.YtkfddpbmclbdhaaDoorW.PrintLast Go.Proofs.YtkfddpbmclbdhaaDoorW.PrintMore
attribute [local go_sem] Zaz Zax Za5 Za4 Zas Zar Zay Zaw   -- for this text's walks alone
set_option linter.unusedVariables false
set_option linter.unusedSimpArgs false
def kauditlaw02_ValueUnquotes.l0 : Nat → List ByteArray → Int → Option (Bool)
 | 0, _, _ => none
 | k + 1, x3, x4 => if x4 < (x3.length : Int) then (if 0 ≤ x4 then ((value_Unquote.f k (rdOf ByteArray.empty x3 x4)).bind fun bt138 => ((kauditref02_Unquote.f k (rdOf ByteArray.empty x3 x4)).bind fun bt141 => (if bt138.2 = bt141.2 then (if bt138.1.toList = bt141.1.toList then (kauditlaw02_ValueUnquotes.l0 k x3 (wrap64 (x4 + 1))) else (some false)) else (some false)))) else (none)) else ((kauditlaw02_awake.f).bind fun t136 => (some t136))
def kauditlaw02_ValueUnquotes.f (k : Nat) (a0 : ByteArray) : Option (Bool) := if (a0.size : Int) > 1500 then ((kauditlaw02_awake.f).bind fun t132 => (some t132)) else (if 1 + a0.size ≤ 9223372036854775807 then (if ((⟨#[34]⟩ : ByteArray) ++ a0).size + 1 ≤ 9223372036854775807 then (kauditlaw02_ValueUnquotes.l0 k (([a0, ((⟨#[34]⟩ : ByteArray) ++ a0) ++ (⟨#[34]⟩ : ByteArray), (⟨#[120]⟩ : ByteArray) ++ a0] : List ByteArray)) 0) else (none)) else (none))
theorem kauditlaw02_ValueUnquotes.mono_l : ∀ k, (∀ y0 y1, LeO (kauditlaw02_ValueUnquotes.l0 k y0 y1) (kauditlaw02_ValueUnquotes.l0 (k + 1) y0 y1))
 | 0 => fun _ _ r h => by simp [kauditlaw02_ValueUnquotes.l0] at h
 | k + 1 => by
  have ih0 := kauditlaw02_ValueUnquotes.mono_l k
  ·intro y0 y1
   unfold kauditlaw02_ValueUnquotes.l0
   repeat' first
   | (with_reducible exact ih0 _ _)
   | (with_reducible exact kauditref02_Unquote.mono _ _)
   | (with_reducible exact value_Unquote.mono _ _)
   | (with_reducible exact LeO.refl _)
   | (with_reducible exact LeO.none _)
   | (with_reducible refine LeO.ite ?_ ?_)
   | (with_reducible refine LeO.bind ?_ (fun _ => ?_))
   | exact ih0 _ _
   | exact kauditref02_Unquote.mono _ _
   | exact value_Unquote.mono _ _
   | exact LeO.none _
   | refine LeO.ite ?_ ?_
   | refine LeO.bind ?_ (fun _ => ?_)
theorem kauditlaw02_ValueUnquotes.mono : ∀ a0 k, LeO (kauditlaw02_ValueUnquotes.f k a0) (kauditlaw02_ValueUnquotes.f (k + 1) a0) := by
 intro a0 k
 have ih0 := kauditlaw02_ValueUnquotes.mono_l k
 unfold kauditlaw02_ValueUnquotes.f
 repeat' first
   | (with_reducible exact ih0 _ _)
   | (with_reducible exact kauditref02_Unquote.mono _ _)
   | (with_reducible exact value_Unquote.mono _ _)
   | (with_reducible exact LeO.refl _)
   | (with_reducible exact LeO.none _)
   | (with_reducible refine LeO.ite ?_ ?_)
   | (with_reducible refine LeO.bind ?_ (fun _ => ?_))
   | exact ih0 _ _
   | exact kauditref02_Unquote.mono _ _
   | exact value_Unquote.mono _ _
   | exact LeO.none _
   | refine LeO.ite ?_ ?_
   | refine LeO.bind ?_ (fun _ => ?_)
end Go.Proofs.YtkfddpbmclbdhaaDoor.PA
end
