/- Contracts of functions of the program: written by pr2.py (ours, round the print of the kit) out of the translation; conditions: each contract names its own. -/
import Derived.Test.YtodbabeldolcbaaDoorY7PAx0
import Derived.Test.YtodbabeldolcbaaDoorY7PAx7
import Derived.Test.YtodbabeldolcbaaDoorY7PAx18
namespace Go.Proofs.YtodbabeldolcbaaDoor.PA
open Go.RowKit Go.Proofs.YtodbabeldolcbaaDoorW.PrintWords Go.Proofs.YtodbabeldolcbaaDoorW.PrintLast Go.Proofs.YtodbabeldolcbaaDoorW.PrintMore
attribute [local go_sem] max2_int min2_int max_two min_two max_three min_three max_four min_four   -- for this text's walks alone
set_option linter.unusedVariables false
set_option linter.unusedSimpArgs false
/-! ### kauditref02_Unquote: function 31 -/
mutual
def kauditref02_Unquote.j0 : Nat → ByteArray → ByteArray → Bool → Option (ByteArray × Int)
 | 0, _, _, _ => none
 | k + 1, x0, x4, x17 => if x17 = true then (if 1 ≤ (wrap64 ((x0.size : Int) - 1)) then (if (wrap64 ((x0.size : Int) - 1)) ≤ (x0.size : Int) then ((kauditref02_Quote.f k (x0.extract 1 ((wrap64 ((x0.size : Int) - 1)) : Int).toNat)).bind fun bt356 => (if bt356.2 = 0 then (if bt356.1.toList = x0.toList then (some (x0.extract 1 ((wrap64 ((x0.size : Int) - 1)) : Int).toNat, 0)) else (some ((⟨#[]⟩ : ByteArray), 21))) else (some ((⟨#[]⟩ : ByteArray), 21)))) else (none)) else (none)) else (if (x0.size : Int) ≥ 3 then (if 0 < (x0.size : Int) then (if (bt x0 0) = 120 then (if ((x0.size : Int) % 2) = 1 then (kauditref02_Unquote.j1 k x0 x4 (decide ((x0.size : Int) ≤ 1281))) else (kauditref02_Unquote.j1 k x0 x4 false)) else (kauditref02_Unquote.j1 k x0 x4 false)) else (none)) else (kauditref02_Unquote.j1 k x0 x4 false))
def kauditref02_Unquote.j1 : Nat → ByteArray → ByteArray → Bool → Option (ByteArray × Int)
 | 0, _, _, _ => none
 | k + 1, x0, x4, x41 => if x41 = true then (kauditref02_Unquote.l0 k x0 x4 1) else ((kauditref02_Quote.f k x4).bind fun bt365 => (if bt365.2 = 0 then (if bt365.1.toList = x0.toList then (some (x4, 0)) else (some ((⟨#[]⟩ : ByteArray), 21))) else (some ((⟨#[]⟩ : ByteArray), 21))))
def kauditref02_Unquote.l0 : Nat → ByteArray → ByteArray → Int → Option (ByteArray × Int)
 | 0, _, _, _ => none
 | k + 1, x0, x4, x5 => if x5 < (x0.size : Int) then (if 0 ≤ x5 then ((kauditref02_value.f k (bt x0 x5)).bind fun t360 => (if 0 ≤ (wrap64 (x5 + 1)) then (if (wrap64 (x5 + 1)) < (x0.size : Int) then ((kauditref02_value.f k (bt x0 (wrap64 (x5 + 1)))).bind fun t361 => (if t360 < 0 then (some ((⟨#[]⟩ : ByteArray), 21)) else (if t361 < 0 then (some ((⟨#[]⟩ : ByteArray), 21)) else ((some (([(wrap64 ((wrap64 (16 * t360)) + t361)) % 256] : List Int) : List Int)).bind fun y362 => (if x4.size + (strOfNums y362).size ≤ 9223372036854775807 then (kauditref02_Unquote.l0 k x0 (x4 ++ (strOfNums y362)) (wrap64 (x5 + 2))) else (none)))))) else (none)) else (none))) else (none)) else ((kauditref02_Quote.f k x4).bind fun bt358 => (if bt358.2 = 0 then (if bt358.1.toList = x0.toList then (some (x4, 0)) else (some ((⟨#[]⟩ : ByteArray), 21))) else (some ((⟨#[]⟩ : ByteArray), 21))))
end
def kauditref02_Unquote.f (k : Nat) (a0 : ByteArray) : Option (ByteArray × Int) := if (a0.size : Int) ≥ 2 then (if 0 < (a0.size : Int) then (kauditref02_Unquote.j0 k a0 (⟨#[]⟩ : ByteArray) ((bt a0 0) == 34)) else (none)) else (kauditref02_Unquote.j0 k a0 (⟨#[]⟩ : ByteArray) false)
theorem kauditref02_Unquote.mono_l : ∀ k, (∀ y0 y1 y2, LeO (kauditref02_Unquote.j0 k y0 y1 y2) (kauditref02_Unquote.j0 (k + 1) y0 y1 y2)) ∧ (∀ y0 y1 y2, LeO (kauditref02_Unquote.j1 k y0 y1 y2) (kauditref02_Unquote.j1 (k + 1) y0 y1 y2)) ∧ (∀ y0 y1 y2, LeO (kauditref02_Unquote.l0 k y0 y1 y2) (kauditref02_Unquote.l0 (k + 1) y0 y1 y2))
 | 0 => ⟨fun _ _ _ r h => by simp [kauditref02_Unquote.j0] at h, fun _ _ _ r h => by simp [kauditref02_Unquote.j1] at h, fun _ _ _ r h => by simp [kauditref02_Unquote.l0] at h⟩
 | k + 1 => by
  obtain ⟨ih0, ih1, ih2⟩ := kauditref02_Unquote.mono_l k
  refine ⟨?_, ?_, ?_⟩
  ·intro y0 y1 y2
   unfold kauditref02_Unquote.j0
   repeat' first
   | (with_reducible exact ih0 _ _ _)
   | (with_reducible exact ih1 _ _ _)
   | (with_reducible exact ih2 _ _ _)
   | (with_reducible exact kauditref02_Quote.mono _ _)
   | (with_reducible exact kauditref02_value.mono _ _)
   | (with_reducible exact LeO.refl _)
   | (with_reducible exact LeO.none _)
   | (with_reducible refine LeO.ite ?_ ?_)
   | (with_reducible refine LeO.bind ?_ (fun _ => ?_))
   | exact ih0 _ _ _
   | exact ih1 _ _ _
   | exact ih2 _ _ _
   | exact kauditref02_Quote.mono _ _
   | exact kauditref02_value.mono _ _
   | exact LeO.none _
   | refine LeO.ite ?_ ?_
   | refine LeO.bind ?_ (fun _ => ?_)
  ·intro y0 y1 y2
   unfold kauditref02_Unquote.j1
   repeat' first
   | (with_reducible exact ih0 _ _ _)
   | (with_reducible exact ih1 _ _ _)
   | (with_reducible exact ih2 _ _ _)
   | (with_reducible exact kauditref02_Quote.mono _ _)
   | (with_reducible exact kauditref02_value.mono _ _)
   | (with_reducible exact LeO.refl _)
   | (with_reducible exact LeO.none _)
   | (with_reducible refine LeO.ite ?_ ?_)
   | (with_reducible refine LeO.bind ?_ (fun _ => ?_))
   | exact ih0 _ _ _
   | exact ih1 _ _ _
   | exact ih2 _ _ _
   | exact kauditref02_Quote.mono _ _
   | exact kauditref02_value.mono _ _
   | exact LeO.none _
   | refine LeO.ite ?_ ?_
   | refine LeO.bind ?_ (fun _ => ?_)
  ·intro y0 y1 y2
   unfold kauditref02_Unquote.l0
   repeat' first
   | (with_reducible exact ih0 _ _ _)
   | (with_reducible exact ih1 _ _ _)
   | (with_reducible exact ih2 _ _ _)
   | (with_reducible exact kauditref02_Quote.mono _ _)
   | (with_reducible exact kauditref02_value.mono _ _)
   | (with_reducible exact LeO.refl _)
   | (with_reducible exact LeO.none _)
   | (with_reducible refine LeO.ite ?_ ?_)
   | (with_reducible refine LeO.bind ?_ (fun _ => ?_))
   | exact ih0 _ _ _
   | exact ih1 _ _ _
   | exact ih2 _ _ _
   | exact kauditref02_Quote.mono _ _
   | exact kauditref02_value.mono _ _
   | exact LeO.none _
   | refine LeO.ite ?_ ?_
   | refine LeO.bind ?_ (fun _ => ?_)
theorem kauditref02_Unquote.mono : ∀ a0 k, LeO (kauditref02_Unquote.f k a0) (kauditref02_Unquote.f (k + 1) a0) := by
 intro a0 k
 obtain ⟨ih0, ih1, ih2⟩ := kauditref02_Unquote.mono_l k
 unfold kauditref02_Unquote.f
 repeat' first
   | (with_reducible exact ih0 _ _ _)
   | (with_reducible exact ih1 _ _ _)
   | (with_reducible exact ih2 _ _ _)
   | (with_reducible exact kauditref02_Quote.mono _ _)
   | (with_reducible exact kauditref02_value.mono _ _)
   | (with_reducible exact LeO.refl _)
   | (with_reducible exact LeO.none _)
   | (with_reducible refine LeO.ite ?_ ?_)
   | (with_reducible refine LeO.bind ?_ (fun _ => ?_))
   | exact ih0 _ _ _
   | exact ih1 _ _ _
   | exact ih2 _ _ _
   | exact kauditref02_Quote.mono _ _
   | exact kauditref02_value.mono _ _
   | exact LeO.none _
   | refine LeO.ite ?_ ?_
   | refine LeO.bind ?_ (fun _ => ?_)
/-! ### kauditref03_kinds: function 79 -/
def kauditref03_kinds.f  : Option ((List (S111))) := some (([(⟨(⟨#[85, 83, 69, 82]⟩ : ByteArray), 1005, true⟩ : S111), (⟨(⟨#[68, 65, 69, 77, 79, 78]⟩ : ByteArray), 1200, true⟩ : S111), (⟨(⟨#[83, 89, 83, 67, 65, 76, 76]⟩ : ByteArray), 1300, false⟩ : S111), (⟨(⟨#[80, 65, 84, 72]⟩ : ByteArray), 1302, false⟩ : S111), (⟨(⟨#[67, 79, 78, 70, 73, 71]⟩ : ByteArray), 1305, true⟩ : S111), (⟨(⟨#[83, 79, 67, 75, 65, 68, 68, 82]⟩ : ByteArray), 1306, false⟩ : S111), (⟨(⟨#[67, 87, 68]⟩ : ByteArray), 1307, false⟩ : S111), (⟨(⟨#[69, 88, 69, 67, 86, 69]⟩ : ByteArray), 1309, false⟩ : S111), (⟨(⟨#[69, 79, 69]⟩ : ByteArray), 1320, false⟩ : S111), (⟨(⟨#[76, 79, 83, 83]⟩ : ByteArray), 1331, true⟩ : S111)] : List (S111)))
/-! ### kauditref03_find: function 100 -/
def kauditref03_find.l0 : Nat → Int → List (S111) → Int → Option (ByteArray × Int × Bool × Bool)
 | 0, _, _, _ => none
 | k + 1, x0, x4, x5 => if x5 < (x4.length : Int) then (if 0 ≤ x5 then (if ((rd_T111 x4 x5).f1) = x0 then (some ((rd_T111 x4 x5).f0, (rd_T111 x4 x5).f1, (rd_T111 x4 x5).f2, true)) else (kauditref03_find.l0 k x0 x4 (wrap64 (x5 + 1)))) else (none)) else (some ((⟨#[]⟩ : ByteArray), 0, false, false))
def kauditref03_find.f (k : Nat) (a0 : Int) : Option (ByteArray × Int × Bool × Bool) := (kauditref03_kinds.f).bind fun t371 => (kauditref03_find.l0 k a0 t371 0)
theorem kauditref03_find.mono_l : ∀ k, (∀ y0 y1 y2, LeO (kauditref03_find.l0 k y0 y1 y2) (kauditref03_find.l0 (k + 1) y0 y1 y2))
 | 0 => fun _ _ _ r h => by simp [kauditref03_find.l0] at h
 | k + 1 => by
  have ih0 := kauditref03_find.mono_l k
  ·intro y0 y1 y2
   unfold kauditref03_find.l0
   repeat' first
   | (with_reducible exact ih0 _ _ _)
   | (with_reducible exact LeO.refl _)
   | (with_reducible exact LeO.none _)
   | (with_reducible refine LeO.ite ?_ ?_)
   | (with_reducible refine LeO.bind ?_ (fun _ => ?_))
   | exact ih0 _ _ _
   | exact LeO.none _
   | refine LeO.ite ?_ ?_
   | refine LeO.bind ?_ (fun _ => ?_)
theorem kauditref03_find.mono : ∀ a0 k, LeO (kauditref03_find.f k a0) (kauditref03_find.f (k + 1) a0) := by
 intro a0 k
 have ih0 := kauditref03_find.mono_l k
 unfold kauditref03_find.f
 repeat' first
   | (with_reducible exact ih0 _ _ _)
   | (with_reducible exact LeO.refl _)
   | (with_reducible exact LeO.none _)
   | (with_reducible refine LeO.ite ?_ ?_)
   | (with_reducible refine LeO.bind ?_ (fun _ => ?_))
   | exact ih0 _ _ _
   | exact LeO.none _
   | refine LeO.ite ?_ ?_
   | refine LeO.bind ?_ (fun _ => ?_)
end Go.Proofs.YtodbabeldolcbaaDoor.PA
