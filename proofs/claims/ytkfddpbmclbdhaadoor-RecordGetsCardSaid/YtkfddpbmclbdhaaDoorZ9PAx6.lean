/- Contracts of functions of the program: written by pr2.py (ours, round the print of the kit) out of the translation; conditions: each contract names its own. -/
import Derived.Test.YtkfddpbmclbdhaaDoorZ9PAx0
import Derived.Test.YtkfddpbmclbdhaaDoorZ9PAx3
import Derived.Test.YtkfddpbmclbdhaaDoorZ9PAx4
import Derived.Test.YtkfddpbmclbdhaaDoorZ9GT
import Derived.Test.YtkfddpbmclbdhaaDoorZ9EQuote
namespace Go.Proofs.YtkfddpbmclbdhaaDoor.PA
open Go.RowKit Go.Proofs.YtkfddpbmclbdhaaDoorW.PrintWords Go.Proofs.YtkfddpbmclbdhaaDoorW.PrintLast Go.Proofs.YtkfddpbmclbdhaaDoorW.PrintMore
attribute [local go_sem] max2_int min2_int max_two min_two max_three min_three max_four min_four   -- for this text's walks alone
set_option linter.unusedVariables false
set_option linter.unusedSimpArgs false
/-! ### kauditlaw02_ValueLimits: function 5 -/
def kauditlaw02_ValueLimits.l0 : Nat → Int → List Int → Int → Option (Bool)
 | 0, _, _, _ => none
 | k + 1, x1, x5, x6 => if x6 < (x5.length : Int) then (if 0 ≤ x6 then (kauditlaw02_ValueLimits.l0 k x1 (x5.set (x6 : Int).toNat x1) (wrap64 (x6 + 1))) else (none)) else ((value_Quote.f (strOfNums x5)).bind fun bt147 => (if (x5.length : Int) > 640 then (if bt147.2 = 20 then (if bt147.1.toList = ([] : List UInt8) then ((kauditlaw02_awake.f).bind fun t149 => (some t149)) else (some false)) else (some false)) else ((value_Unquote.f k bt147.1).bind fun bt150 => (if bt147.2 = 0 then (if bt150.2 = 0 then (if bt150.1.toList = (strOfNums x5).toList then (if (bt147.1.size : Int) = (wrap64 ((x5.length : Int) + 2)) then ((kauditlaw02_awake.f).bind fun t152 => (some t152)) else (if (bt147.1.size : Int) = (wrap64 ((wrap64 (2 * (x5.length : Int))) + 1)) then ((kauditlaw02_awake.f).bind fun t153 => (some t153)) else (some false))) else (some false)) else (some false)) else (some false)))))
def kauditlaw02_ValueLimits.f (k : Nat) (a0 : Int) (a1 : Int) : Option (Bool) := if 0 ≤ (wrap64 (638 + (wrap64 (Int.tmod a0 5)))) then (if (wrap64 (638 + (wrap64 (Int.tmod a0 5))) : Int).toNat ≤ 281474976710656 then (kauditlaw02_ValueLimits.l0 k a1 (List.replicate (wrap64 (638 + (wrap64 (Int.tmod a0 5))) : Int).toNat 0) 0) else (none)) else (none)
theorem kauditlaw02_ValueLimits.mono_l : ∀ k, (∀ y0 y1 y2, LeO (kauditlaw02_ValueLimits.l0 k y0 y1 y2) (kauditlaw02_ValueLimits.l0 (k + 1) y0 y1 y2))
 | 0 => fun _ _ _ r h => by simp [kauditlaw02_ValueLimits.l0] at h
 | k + 1 => by
  have ih0 := kauditlaw02_ValueLimits.mono_l k
  ·intro y0 y1 y2
   unfold kauditlaw02_ValueLimits.l0
   repeat' first
   | (with_reducible exact ih0 _ _ _)
   | (with_reducible exact value_Unquote.mono _ _)
   | (with_reducible exact LeO.refl _)
   | (with_reducible exact LeO.none _)
   | (with_reducible refine LeO.ite ?_ ?_)
   | (with_reducible refine LeO.bind ?_ (fun _ => ?_))
   | exact ih0 _ _ _
   | exact value_Unquote.mono _ _
   | exact LeO.none _
   | refine LeO.ite ?_ ?_
   | refine LeO.bind ?_ (fun _ => ?_)
theorem kauditlaw02_ValueLimits.mono : ∀ a0 a1 k, LeO (kauditlaw02_ValueLimits.f k a0 a1) (kauditlaw02_ValueLimits.f (k + 1) a0 a1) := by
 intro a0 a1 k
 have ih0 := kauditlaw02_ValueLimits.mono_l k
 unfold kauditlaw02_ValueLimits.f
 repeat' first
   | (with_reducible exact ih0 _ _ _)
   | (with_reducible exact value_Unquote.mono _ _)
   | (with_reducible exact LeO.refl _)
   | (with_reducible exact LeO.none _)
   | (with_reducible refine LeO.ite ?_ ?_)
   | (with_reducible refine LeO.bind ?_ (fun _ => ?_))
   | exact ih0 _ _ _
   | exact value_Unquote.mono _ _
   | exact LeO.none _
   | refine LeO.ite ?_ ?_
   | refine LeO.bind ?_ (fun _ => ?_)
/-! ### value_name: function 75 -/
def value_name.l0 : Nat → ByteArray → Int → Int → Option (Bool)
 | 0, _, _, _ => none
 | k + 1, x0, x6, x7 => if x7 < x6 then (if 0 ≤ x7 then (if x7 < (x0.size : Int) then (if (bt x0 x7) ≥ 97 then (if ((bt x0 x7) ≤ 122) then (value_name.l0 k x0 x6 (wrap64 (x7 + 1))) else (if x7 = 0 then (some false) else (if (bt x0 x7) = 95 then (value_name.l0 k x0 x6 (wrap64 (x7 + 1))) else (if (bt x0 x7) < 48 then (some false) else (if (bt x0 x7) > 57 then (some false) else (value_name.l0 k x0 x6 (wrap64 (x7 + 1)))))))) else (if x7 = 0 then (some false) else (if (bt x0 x7) = 95 then (value_name.l0 k x0 x6 (wrap64 (x7 + 1))) else (if (bt x0 x7) < 48 then (some false) else (if (bt x0 x7) > 57 then (some false) else (value_name.l0 k x0 x6 (wrap64 (x7 + 1)))))))) else (none)) else (none)) else (if x0.toList = ([] : List UInt8) then (some false) else (some (decide ((x0.size : Int) ≤ 16))))
def value_name.f (k : Nat) (a0 : ByteArray) : Option (Bool) := value_name.l0 k a0 (a0.size : Int) 0
theorem value_name.mono_l : ∀ k, (∀ y0 y1 y2, LeO (value_name.l0 k y0 y1 y2) (value_name.l0 (k + 1) y0 y1 y2))
 | 0 => fun _ _ _ r h => by simp [value_name.l0] at h
 | k + 1 => by
  have ih0 := value_name.mono_l k
  ·intro y0 y1 y2
   unfold value_name.l0
   repeat' first
   | (with_reducible exact ih0 _ _ _)
   | (with_reducible exact LeO.refl _)
   | (with_reducible exact LeO.none _)
   | (with_reducible refine LeO.ite ?_ ?_)
   | (with_reducible refine LeO.bind ?_ (fun _ => ?_))
   | exact ih0 _ _ _
   | exact LeO.none _
   | refine LeO.ite ?_ ?_
   | refine LeO.bind ?_ (fun _ => ?_)
theorem value_name.mono : ∀ a0 k, LeO (value_name.f k a0) (value_name.f (k + 1) a0) := by
 intro a0 k
 have ih0 := value_name.mono_l k
 unfold value_name.f
 repeat' first
   | (with_reducible exact ih0 _ _ _)
   | (with_reducible exact LeO.refl _)
   | (with_reducible exact LeO.none _)
   | (with_reducible refine LeO.ite ?_ ?_)
   | (with_reducible refine LeO.bind ?_ (fun _ => ?_))
   | exact ih0 _ _ _
   | exact LeO.none _
   | refine LeO.ite ?_ ?_
   | refine LeO.bind ?_ (fun _ => ?_)
set_option maxHeartbeats 8000000 in
set_option maxRecDepth 100000 in
theorem value_name.calls (k : Nat) (a0 : ByteArray) (r : Bool) (w : World) (h : value_name.f k a0 = some r) :
  Calls Tryd.prog 75 #[.string a0] w fun e w' => e = .returned (.bool r) ∧ Drawn0 w w' := by
 have H : (value_name.l0 k a0 (a0.size : Int) 0) = some r := h
 clear h
 have H' := Aside0.mk H
 clear H
 go_enter Tryd.func75, Tryd.ntmps75
 go_wp2
 go_loopg [7] k (fun kq v7 w' => ∃ (x7_1 : Int), v7 = .int .i64 x7_1 ∧ Aside0 (value_name.l0 kq a0 (a0.size : Int) x7_1 = some r) ∧ Aside0 (kq ≤ k) ∧ Drawn0 w w')
 case atStart => exact ⟨(0), (by first | rfl | (simp; done) | (simp [*]; done)), H', ⟨Nat.le_refl _⟩, by repeat (first | exact Drawn0.refl _ | apply Drawn0.step)⟩
 case round =>
  clear H'
  obtain ⟨x7_1, rfl, HA, HK1, ⟨m1, rfl⟩⟩ := hrel
  cases gk with
  | zero => exact absurd HA.out (by simp [value_name.l0])
  | succ k1 =>
   have H := HA.out
   clear HA
   simp only [value_name.l0] at H
   by_cases c2 : x7_1 < (a0.size : Int)
   ·rw [if_pos c2] at H
    have c2b0 : decide (x7_1 < (a0.size : Int)) = true := decide_eq_true c2
    clear c2
    by_cases c3 : 0 ≤ x7_1
    ·rw [if_pos c3] at H
     have c3b0 : decide (0 ≤ x7_1) = true := decide_eq_true c3
     clear c3
     by_cases c4 : x7_1 < (a0.size : Int)
     ·rw [if_pos c4] at H
      have c4b0 : decide (x7_1 < (a0.size : Int)) = true := decide_eq_true c4
      clear c4
      by_cases c6 : (bt a0 x7_1) ≥ 97
      ·rw [if_pos c6] at H
       have c6b0 : decide (97 ≤ (bt a0 x7_1)) = true := decide_eq_true c6
       clear c6
       by_cases c8 : ((bt a0 x7_1) ≤ 122)
       ·rw [if_pos c8] at H
        have c8b0 : decide ((bt a0 x7_1) ≤ 122) = true := decide_eq_true c8
        clear c8
        have H' := Aside0.mk H
        clear H
        have p5 : 0 ≤ (x7_1 : Int) := of_decide_eq_true (by first | (with_reducible assumption) | assumption)
        have q5 : x7_1 < (a0.size : Int) := of_decide_eq_true (by first | (with_reducible assumption) | assumption)
        have hx5 := bt_at a0 x7_1
        replace p5 := eq_true p5
        replace q5 := eq_true q5
        have p7 : 0 ≤ (x7_1 : Int) := of_decide_eq_true (by first | (with_reducible assumption) | assumption)
        have q7 : x7_1 < (a0.size : Int) := of_decide_eq_true (by first | (with_reducible assumption) | assumption)
        have hx7 := bt_at a0 x7_1
        replace p7 := eq_true p7
        replace q7 := eq_true q7
        go_wp2
        go_roundg k1
        case measure => have := HK1.out; omega
        case rel => exact ⟨(wrap64 (x7_1 + 1)), (by first | rfl | (simp; done) | (simp [*]; done)), H', ⟨by have := HK1.out; omega⟩, by repeat (first | exact Drawn0.refl _ | apply Drawn0.step)⟩
       ·rw [if_neg c8] at H
        have c8b0 : decide ((bt a0 x7_1) ≤ 122) = false := decide_eq_false c8
        clear c8
        by_cases c9 : x7_1 = 0
        ·rw [if_pos c9] at H
         have c9b0 : (x7_1 == 0) = true := beq_iff_eq.mpr c9
         have c9b1 : (x7_1 != 0) = false := bne_eq_false_iff_eq.mpr c9
         clear c9
         obtain rfl := Option.some.inj H
         have p5 : 0 ≤ (x7_1 : Int) := of_decide_eq_true (by first | (with_reducible assumption) | assumption)
         have q5 : x7_1 < (a0.size : Int) := of_decide_eq_true (by first | (with_reducible assumption) | assumption)
         have hx5 := bt_at a0 x7_1
         replace p5 := eq_true p5
         replace q5 := eq_true q5
         have p7 : 0 ≤ (x7_1 : Int) := of_decide_eq_true (by first | (with_reducible assumption) | assumption)
         have q7 : x7_1 < (a0.size : Int) := of_decide_eq_true (by first | (with_reducible assumption) | assumption)
         have hx7 := bt_at a0 x7_1
         replace p7 := eq_true p7
         replace q7 := eq_true q7
         go_wp2
         go_ret
         exact ⟨by first | rfl | (simp; done) | (simp [*]; done), by repeat (first | exact Drawn0.refl _ | apply Drawn0.step)⟩
        ·rw [if_neg c9] at H
         have c9b0 : (x7_1 == 0) = false := beq_eq_false_iff_ne.mpr c9
         have c9b1 : (x7_1 != 0) = true := bne_iff_ne.mpr c9
         by_cases c11 : (bt a0 x7_1) = 95
         ·rw [if_pos c11] at H
          have c11b0 : ((bt a0 x7_1) == 95) = true := beq_iff_eq.mpr c11
          have c11b1 : ((bt a0 x7_1) != 95) = false := bne_eq_false_iff_eq.mpr c11
          clear c11
          have H' := Aside0.mk H
          clear H
          have p5 : 0 ≤ (x7_1 : Int) := of_decide_eq_true (by first | (with_reducible assumption) | assumption)
          have q5 : x7_1 < (a0.size : Int) := of_decide_eq_true (by first | (with_reducible assumption) | assumption)
          have hx5 := bt_at a0 x7_1
          replace p5 := eq_true p5
          replace q5 := eq_true q5
          have p7 : 0 ≤ (x7_1 : Int) := of_decide_eq_true (by first | (with_reducible assumption) | assumption)
          have q7 : x7_1 < (a0.size : Int) := of_decide_eq_true (by first | (with_reducible assumption) | assumption)
          have hx7 := bt_at a0 x7_1
          replace p7 := eq_true p7
          replace q7 := eq_true q7
          have p10 : 0 ≤ (x7_1 : Int) := of_decide_eq_true (by first | (with_reducible assumption) | assumption)
          have q10 : x7_1 < (a0.size : Int) := of_decide_eq_true (by first | (with_reducible assumption) | assumption)
          have hx10 := bt_at a0 x7_1
          replace p10 := eq_true p10
          replace q10 := eq_true q10
          go_wp2
          go_roundg k1
          case measure => have := HK1.out; omega
          case rel => exact ⟨(wrap64 (x7_1 + 1)), (by first | rfl | (simp; done) | (simp [*]; done)), H', ⟨by have := HK1.out; omega⟩, by repeat (first | exact Drawn0.refl _ | apply Drawn0.step)⟩
         ·rw [if_neg c11] at H
          have c11b0 : ((bt a0 x7_1) == 95) = false := beq_eq_false_iff_ne.mpr c11
          have c11b1 : ((bt a0 x7_1) != 95) = true := bne_iff_ne.mpr c11
          by_cases c13 : (bt a0 x7_1) < 48
          ·rw [if_pos c13] at H
           have c13b0 : decide ((bt a0 x7_1) < 48) = true := decide_eq_true c13
           clear c13
           obtain rfl := Option.some.inj H
           have p5 : 0 ≤ (x7_1 : Int) := of_decide_eq_true (by first | (with_reducible assumption) | assumption)
           have q5 : x7_1 < (a0.size : Int) := of_decide_eq_true (by first | (with_reducible assumption) | assumption)
           have hx5 := bt_at a0 x7_1
           replace p5 := eq_true p5
           replace q5 := eq_true q5
           have p7 : 0 ≤ (x7_1 : Int) := of_decide_eq_true (by first | (with_reducible assumption) | assumption)
           have q7 : x7_1 < (a0.size : Int) := of_decide_eq_true (by first | (with_reducible assumption) | assumption)
           have hx7 := bt_at a0 x7_1
           replace p7 := eq_true p7
           replace q7 := eq_true q7
           have p10 : 0 ≤ (x7_1 : Int) := of_decide_eq_true (by first | (with_reducible assumption) | assumption)
           have q10 : x7_1 < (a0.size : Int) := of_decide_eq_true (by first | (with_reducible assumption) | assumption)
           have hx10 := bt_at a0 x7_1
           replace p10 := eq_true p10
           replace q10 := eq_true q10
           have p12 : 0 ≤ (x7_1 : Int) := of_decide_eq_true (by first | (with_reducible assumption) | assumption)
           have q12 : x7_1 < (a0.size : Int) := of_decide_eq_true (by first | (with_reducible assumption) | assumption)
           have hx12 := bt_at a0 x7_1
           replace p12 := eq_true p12
           replace q12 := eq_true q12
           go_wp2
           go_ret
           exact ⟨by first | rfl | (simp; done) | (simp [*]; done), by repeat (first | exact Drawn0.refl _ | apply Drawn0.step)⟩
          ·rw [if_neg c13] at H
           have c13b0 : decide ((bt a0 x7_1) < 48) = false := decide_eq_false c13
           clear c13
           by_cases c15 : (bt a0 x7_1) > 57
           ·rw [if_pos c15] at H
            have c15b0 : decide (57 < (bt a0 x7_1)) = true := decide_eq_true c15
            clear c15
            obtain rfl := Option.some.inj H
            have p5 : 0 ≤ (x7_1 : Int) := of_decide_eq_true (by first | (with_reducible assumption) | assumption)
            have q5 : x7_1 < (a0.size : Int) := of_decide_eq_true (by first | (with_reducible assumption) | assumption)
            have hx5 := bt_at a0 x7_1
            replace p5 := eq_true p5
            replace q5 := eq_true q5
            have p7 : 0 ≤ (x7_1 : Int) := of_decide_eq_true (by first | (with_reducible assumption) | assumption)
            have q7 : x7_1 < (a0.size : Int) := of_decide_eq_true (by first | (with_reducible assumption) | assumption)
            have hx7 := bt_at a0 x7_1
            replace p7 := eq_true p7
            replace q7 := eq_true q7
            have p10 : 0 ≤ (x7_1 : Int) := of_decide_eq_true (by first | (with_reducible assumption) | assumption)
            have q10 : x7_1 < (a0.size : Int) := of_decide_eq_true (by first | (with_reducible assumption) | assumption)
            have hx10 := bt_at a0 x7_1
            replace p10 := eq_true p10
            replace q10 := eq_true q10
            have p12 : 0 ≤ (x7_1 : Int) := of_decide_eq_true (by first | (with_reducible assumption) | assumption)
            have q12 : x7_1 < (a0.size : Int) := of_decide_eq_true (by first | (with_reducible assumption) | assumption)
            have hx12 := bt_at a0 x7_1
            replace p12 := eq_true p12
            replace q12 := eq_true q12
            have p14 : 0 ≤ (x7_1 : Int) := of_decide_eq_true (by first | (with_reducible assumption) | assumption)
            have q14 : x7_1 < (a0.size : Int) := of_decide_eq_true (by first | (with_reducible assumption) | assumption)
            have hx14 := bt_at a0 x7_1
            replace p14 := eq_true p14
            replace q14 := eq_true q14
            go_wp2
            go_ret
            exact ⟨by first | rfl | (simp; done) | (simp [*]; done), by repeat (first | exact Drawn0.refl _ | apply Drawn0.step)⟩
           ·rw [if_neg c15] at H
            have c15b0 : decide (57 < (bt a0 x7_1)) = false := decide_eq_false c15
            clear c15
            have H' := Aside0.mk H
            clear H
            have p5 : 0 ≤ (x7_1 : Int) := of_decide_eq_true (by first | (with_reducible assumption) | assumption)
            have q5 : x7_1 < (a0.size : Int) := of_decide_eq_true (by first | (with_reducible assumption) | assumption)
            have hx5 := bt_at a0 x7_1
            replace p5 := eq_true p5
            replace q5 := eq_true q5
            have p7 : 0 ≤ (x7_1 : Int) := of_decide_eq_true (by first | (with_reducible assumption) | assumption)
            have q7 : x7_1 < (a0.size : Int) := of_decide_eq_true (by first | (with_reducible assumption) | assumption)
            have hx7 := bt_at a0 x7_1
            replace p7 := eq_true p7
            replace q7 := eq_true q7
            have p10 : 0 ≤ (x7_1 : Int) := of_decide_eq_true (by first | (with_reducible assumption) | assumption)
            have q10 : x7_1 < (a0.size : Int) := of_decide_eq_true (by first | (with_reducible assumption) | assumption)
            have hx10 := bt_at a0 x7_1
            replace p10 := eq_true p10
            replace q10 := eq_true q10
            have p12 : 0 ≤ (x7_1 : Int) := of_decide_eq_true (by first | (with_reducible assumption) | assumption)
            have q12 : x7_1 < (a0.size : Int) := of_decide_eq_true (by first | (with_reducible assumption) | assumption)
            have hx12 := bt_at a0 x7_1
            replace p12 := eq_true p12
            replace q12 := eq_true q12
            have p14 : 0 ≤ (x7_1 : Int) := of_decide_eq_true (by first | (with_reducible assumption) | assumption)
            have q14 : x7_1 < (a0.size : Int) := of_decide_eq_true (by first | (with_reducible assumption) | assumption)
            have hx14 := bt_at a0 x7_1
            replace p14 := eq_true p14
            replace q14 := eq_true q14
            go_wp2
            go_roundg k1
            case measure => have := HK1.out; omega
            case rel => exact ⟨(wrap64 (x7_1 + 1)), (by first | rfl | (simp; done) | (simp [*]; done)), H', ⟨by have := HK1.out; omega⟩, by repeat (first | exact Drawn0.refl _ | apply Drawn0.step)⟩
      ·rw [if_neg c6] at H
       have c6b0 : decide (97 ≤ (bt a0 x7_1)) = false := decide_eq_false c6
       clear c6
       by_cases c16 : x7_1 = 0
       ·rw [if_pos c16] at H
        have c16b0 : (x7_1 == 0) = true := beq_iff_eq.mpr c16
        have c16b1 : (x7_1 != 0) = false := bne_eq_false_iff_eq.mpr c16
        clear c16
        obtain rfl := Option.some.inj H
        have p5 : 0 ≤ (x7_1 : Int) := of_decide_eq_true (by first | (with_reducible assumption) | assumption)
        have q5 : x7_1 < (a0.size : Int) := of_decide_eq_true (by first | (with_reducible assumption) | assumption)
        have hx5 := bt_at a0 x7_1
        replace p5 := eq_true p5
        replace q5 := eq_true q5
        go_wp2
        go_ret
        exact ⟨by first | rfl | (simp; done) | (simp [*]; done), by repeat (first | exact Drawn0.refl _ | apply Drawn0.step)⟩
       ·rw [if_neg c16] at H
        have c16b0 : (x7_1 == 0) = false := beq_eq_false_iff_ne.mpr c16
        have c16b1 : (x7_1 != 0) = true := bne_iff_ne.mpr c16
        by_cases c18 : (bt a0 x7_1) = 95
        ·rw [if_pos c18] at H
         have c18b0 : ((bt a0 x7_1) == 95) = true := beq_iff_eq.mpr c18
         have c18b1 : ((bt a0 x7_1) != 95) = false := bne_eq_false_iff_eq.mpr c18
         clear c18
         have H' := Aside0.mk H
         clear H
         have p5 : 0 ≤ (x7_1 : Int) := of_decide_eq_true (by first | (with_reducible assumption) | assumption)
         have q5 : x7_1 < (a0.size : Int) := of_decide_eq_true (by first | (with_reducible assumption) | assumption)
         have hx5 := bt_at a0 x7_1
         replace p5 := eq_true p5
         replace q5 := eq_true q5
         have p17 : 0 ≤ (x7_1 : Int) := of_decide_eq_true (by first | (with_reducible assumption) | assumption)
         have q17 : x7_1 < (a0.size : Int) := of_decide_eq_true (by first | (with_reducible assumption) | assumption)
         have hx17 := bt_at a0 x7_1
         replace p17 := eq_true p17
         replace q17 := eq_true q17
         go_wp2
         go_roundg k1
         case measure => have := HK1.out; omega
         case rel => exact ⟨(wrap64 (x7_1 + 1)), (by first | rfl | (simp; done) | (simp [*]; done)), H', ⟨by have := HK1.out; omega⟩, by repeat (first | exact Drawn0.refl _ | apply Drawn0.step)⟩
        ·rw [if_neg c18] at H
         have c18b0 : ((bt a0 x7_1) == 95) = false := beq_eq_false_iff_ne.mpr c18
         have c18b1 : ((bt a0 x7_1) != 95) = true := bne_iff_ne.mpr c18
         by_cases c20 : (bt a0 x7_1) < 48
         ·rw [if_pos c20] at H
          have c20b0 : decide ((bt a0 x7_1) < 48) = true := decide_eq_true c20
          clear c20
          obtain rfl := Option.some.inj H
          have p5 : 0 ≤ (x7_1 : Int) := of_decide_eq_true (by first | (with_reducible assumption) | assumption)
          have q5 : x7_1 < (a0.size : Int) := of_decide_eq_true (by first | (with_reducible assumption) | assumption)
          have hx5 := bt_at a0 x7_1
          replace p5 := eq_true p5
          replace q5 := eq_true q5
          have p17 : 0 ≤ (x7_1 : Int) := of_decide_eq_true (by first | (with_reducible assumption) | assumption)
          have q17 : x7_1 < (a0.size : Int) := of_decide_eq_true (by first | (with_reducible assumption) | assumption)
          have hx17 := bt_at a0 x7_1
          replace p17 := eq_true p17
          replace q17 := eq_true q17
          have p19 : 0 ≤ (x7_1 : Int) := of_decide_eq_true (by first | (with_reducible assumption) | assumption)
          have q19 : x7_1 < (a0.size : Int) := of_decide_eq_true (by first | (with_reducible assumption) | assumption)
          have hx19 := bt_at a0 x7_1
          replace p19 := eq_true p19
          replace q19 := eq_true q19
          go_wp2
          go_ret
          exact ⟨by first | rfl | (simp; done) | (simp [*]; done), by repeat (first | exact Drawn0.refl _ | apply Drawn0.step)⟩
         ·rw [if_neg c20] at H
          have c20b0 : decide ((bt a0 x7_1) < 48) = false := decide_eq_false c20
          clear c20
          by_cases c22 : (bt a0 x7_1) > 57
          ·rw [if_pos c22] at H
           have c22b0 : decide (57 < (bt a0 x7_1)) = true := decide_eq_true c22
           clear c22
           obtain rfl := Option.some.inj H
           have p5 : 0 ≤ (x7_1 : Int) := of_decide_eq_true (by first | (with_reducible assumption) | assumption)
           have q5 : x7_1 < (a0.size : Int) := of_decide_eq_true (by first | (with_reducible assumption) | assumption)
           have hx5 := bt_at a0 x7_1
           replace p5 := eq_true p5
           replace q5 := eq_true q5
           have p17 : 0 ≤ (x7_1 : Int) := of_decide_eq_true (by first | (with_reducible assumption) | assumption)
           have q17 : x7_1 < (a0.size : Int) := of_decide_eq_true (by first | (with_reducible assumption) | assumption)
           have hx17 := bt_at a0 x7_1
           replace p17 := eq_true p17
           replace q17 := eq_true q17
           have p19 : 0 ≤ (x7_1 : Int) := of_decide_eq_true (by first | (with_reducible assumption) | assumption)
           have q19 : x7_1 < (a0.size : Int) := of_decide_eq_true (by first | (with_reducible assumption) | assumption)
           have hx19 := bt_at a0 x7_1
           replace p19 := eq_true p19
           replace q19 := eq_true q19
           have p21 : 0 ≤ (x7_1 : Int) := of_decide_eq_true (by first | (with_reducible assumption) | assumption)
           have q21 : x7_1 < (a0.size : Int) := of_decide_eq_true (by first | (with_reducible assumption) | assumption)
           have hx21 := bt_at a0 x7_1
           replace p21 := eq_true p21
           replace q21 := eq_true q21
           go_wp2
           go_ret
           exact ⟨by first | rfl | (simp; done) | (simp [*]; done), by repeat (first | exact Drawn0.refl _ | apply Drawn0.step)⟩
          ·rw [if_neg c22] at H
           have c22b0 : decide (57 < (bt a0 x7_1)) = false := decide_eq_false c22
           clear c22
           have H' := Aside0.mk H
           clear H
           have p5 : 0 ≤ (x7_1 : Int) := of_decide_eq_true (by first | (with_reducible assumption) | assumption)
           have q5 : x7_1 < (a0.size : Int) := of_decide_eq_true (by first | (with_reducible assumption) | assumption)
           have hx5 := bt_at a0 x7_1
           replace p5 := eq_true p5
           replace q5 := eq_true q5
           have p17 : 0 ≤ (x7_1 : Int) := of_decide_eq_true (by first | (with_reducible assumption) | assumption)
           have q17 : x7_1 < (a0.size : Int) := of_decide_eq_true (by first | (with_reducible assumption) | assumption)
           have hx17 := bt_at a0 x7_1
           replace p17 := eq_true p17
           replace q17 := eq_true q17
           have p19 : 0 ≤ (x7_1 : Int) := of_decide_eq_true (by first | (with_reducible assumption) | assumption)
           have q19 : x7_1 < (a0.size : Int) := of_decide_eq_true (by first | (with_reducible assumption) | assumption)
           have hx19 := bt_at a0 x7_1
           replace p19 := eq_true p19
           replace q19 := eq_true q19
           have p21 : 0 ≤ (x7_1 : Int) := of_decide_eq_true (by first | (with_reducible assumption) | assumption)
           have q21 : x7_1 < (a0.size : Int) := of_decide_eq_true (by first | (with_reducible assumption) | assumption)
           have hx21 := bt_at a0 x7_1
           replace p21 := eq_true p21
           replace q21 := eq_true q21
           go_wp2
           go_roundg k1
           case measure => have := HK1.out; omega
           case rel => exact ⟨(wrap64 (x7_1 + 1)), (by first | rfl | (simp; done) | (simp [*]; done)), H', ⟨by have := HK1.out; omega⟩, by repeat (first | exact Drawn0.refl _ | apply Drawn0.step)⟩
     ·rw [if_neg c4] at H
      exact absurd H (by simp)
    ·rw [if_neg c3] at H
     exact absurd H (by simp)
   ·rw [if_neg c2] at H
    have c2b0 : decide (x7_1 < (a0.size : Int)) = false := decide_eq_false c2
    clear c2
    by_cases c23 : a0.toList = ([] : List UInt8)
    ·rw [if_pos c23] at H
     have c23b0 : (a0.toList == ([] : List UInt8)) = true := beq_iff_eq.mpr c23
     have c23b1 : (a0.toList != ([] : List UInt8)) = false := bne_eq_false_iff_eq.mpr c23
     clear c23
     obtain rfl := Option.some.inj H
     go_wp2
     go_ret
     exact ⟨by first | rfl | (simp; done) | (simp [*]; done), by repeat (first | exact Drawn0.refl _ | apply Drawn0.step)⟩
    ·rw [if_neg c23] at H
     have c23b0 : (a0.toList == ([] : List UInt8)) = false := beq_eq_false_iff_ne.mpr c23
     have c23b1 : (a0.toList != ([] : List UInt8)) = true := bne_iff_ne.mpr c23
     obtain rfl := Option.some.inj H
     go_wp2
     go_ret
     exact ⟨by first | rfl | (simp; done) | (simp [*]; done), by repeat (first | exact Drawn0.refl _ | apply Drawn0.step)⟩
end Go.Proofs.YtkfddpbmclbdhaaDoor.PA
