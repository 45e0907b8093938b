/- Contracts of functions of the program: written by pr2.py (ours, round the print of the kit) out of the translation; conditions: each contract names its own. -/
import Derived.Test.YtodbabeldolcbaaGreatDoorY9PAx0
import Derived.Test.YtodbabeldolcbaaGreatDoorY9EQuote
import Derived.Test.YtodbabeldolcbaaGreatDoorY9ELib
namespace Go.Proofs.YtodbabeldolcbaaGreatDoor.PA
open Go.RowKit Go.Proofs.YtodbabeldolcbaaGreatDoorW.PrintWords Go.Proofs.YtodbabeldolcbaaGreatDoorW.PrintLast Go.Proofs.YtodbabeldolcbaaGreatDoorW.PrintMore
attribute [local go_sem] Zbg Zbe Zbs Zbr Za8 Za7 Zbf Zbd   -- for this text's walks alone
set_option linter.unusedVariables false
set_option linter.unusedSimpArgs false
def value_name.l0 : Nat → ByteArray → Int → Int → Option (Bool)
 | 0, _, _, _ => none
 | k + 1, x0, x6, x7 => if x7 < x6 then (if 0 ≤ x7 then (if x7 < (x0.size : Int) then (if (bt x0 x7) ≥ 97 then (if ((bt x0 x7) ≤ 122) then (value_name.l0 k x0 x6 (wrap64 (x7 + 1))) else (if x7 = 0 then (some false) else (if (bt x0 x7) = 95 then (value_name.l0 k x0 x6 (wrap64 (x7 + 1))) else (if (bt x0 x7) < 48 then (some false) else (if (bt x0 x7) > 57 then (some false) else (value_name.l0 k x0 x6 (wrap64 (x7 + 1)))))))) else (if x7 = 0 then (some false) else (if (bt x0 x7) = 95 then (value_name.l0 k x0 x6 (wrap64 (x7 + 1))) else (if (bt x0 x7) < 48 then (some false) else (if (bt x0 x7) > 57 then (some false) else (value_name.l0 k x0 x6 (wrap64 (x7 + 1)))))))) else (none)) else (none)) else (if x0.toList = ([] : List UInt8) then (some false) else (some (decide ((x0.size : Int) ≤ 16))))
def value_name.f (k : Nat) (a0 : ByteArray) : Option (Bool) := value_name.l0 k a0 (a0.size : Int) 0
theorem value_name.mono_l : ∀ k, (∀ y0 y1 y2, LeO (value_name.l0 k y0 y1 y2) (value_name.l0 (k + 1) y0 y1 y2))
 | 0 => fun _ _ _ r h => by simp [value_name.l0] at h
 | k + 1 => by
  have ih0 := value_name.mono_l k
  ·intro y0 y1 y2
   unfold value_name.l0
   repeat' first
   | (with_reducible exact ih0 _ _ _)
   | (with_reducible exact LeO.refl _)
   | (with_reducible exact LeO.none _)
   | (with_reducible refine LeO.ite ?_ ?_)
   | (with_reducible refine LeO.bind ?_ (fun _ => ?_))
   | exact ih0 _ _ _
   | exact LeO.none _
   | refine LeO.ite ?_ ?_
   | refine LeO.bind ?_ (fun _ => ?_)
theorem value_name.mono : ∀ a0 k, LeO (value_name.f k a0) (value_name.f (k + 1) a0) := by
 intro a0 k
 have ih0 := value_name.mono_l k
 unfold value_name.f
 repeat' first
   | (with_reducible exact ih0 _ _ _)
   | (with_reducible exact LeO.refl _)
   | (with_reducible exact LeO.none _)
   | (with_reducible refine LeO.ite ?_ ?_)
   | (with_reducible refine LeO.bind ?_ (fun _ => ?_))
   | exact ih0 _ _ _
   | exact LeO.none _
   | refine LeO.ite ?_ ?_
   | refine LeO.bind ?_ (fun _ => ?_)
set_option maxHeartbeats 8000000 in
set_option maxRecDepth 100000 in
theorem value_name.calls (k : Nat) (a0 : ByteArray) (r : Bool) (w : World) (h : value_name.f k a0 = some r) :
  Calls Tryz.prog 115 #[.string a0] w fun e w' => e = .returned (.bool r) ∧ Zao w w' := by
 unfold value_name.f at h
 have H := h
 clear h
 have H' := Zaa.mk H
 clear H
 go_enter Tryz.func115, Tryz.ntmps115
 go_wp2
 go_loopg [7] k (fun kq v7 w' => ∃ (x7_1 : Int), v7 = .int .i64 x7_1 ∧ Zaa (value_name.l0 kq a0 (a0.size : Int) x7_1 = some r) ∧ Zaa (kq ≤ k) ∧ Zao w w')
 case atStart => exact ⟨(0), (by first | rfl | (simp; done) | (simp [*]; done)), H', ⟨Nat.le_refl _⟩, by repeat (first | exact Zao.refl _ | apply Zao.step)⟩
 case round =>
  clear H'
  obtain ⟨x7_1, rfl, HA, HK1, ⟨m1, rfl⟩⟩ := hrel
  cases gk with
  | zero => exact absurd HA.out (by simp [value_name.l0])
  | succ k1 =>
   have H := HA.out
   clear HA
   simp only [value_name.l0] at H
   by_cases c2 : x7_1 < (a0.size : Int)
   ·rw [if_pos c2] at H
    have c2b0 : decide (x7_1 < (a0.size : Int)) = true := decide_eq_true c2
    clear c2
    by_cases c3 : 0 ≤ x7_1
    ·rw [if_pos c3] at H
     have c3b0 : decide (0 ≤ x7_1) = true := decide_eq_true c3
     clear c3
     by_cases c4 : x7_1 < (a0.size : Int)
     ·rw [if_pos c4] at H
      have c4b0 : decide (x7_1 < (a0.size : Int)) = true := decide_eq_true c4
      clear c4
      by_cases c6 : (bt a0 x7_1) ≥ 97
      ·rw [if_pos c6] at H
       have c6b0 : decide (97 ≤ (bt a0 x7_1)) = true := decide_eq_true c6
       clear c6
       by_cases c8 : ((bt a0 x7_1) ≤ 122)
       ·rw [if_pos c8] at H
        have c8b0 : decide ((bt a0 x7_1) ≤ 122) = true := decide_eq_true c8
        clear c8
        have H' := Zaa.mk H
        clear H
        have p5 : 0 ≤ (x7_1 : Int) := zod
        have q5 : x7_1 < (a0.size : Int) := zod
        have hx5 := Za0 a0 x7_1
        replace p5 := eq_true p5
        replace q5 := eq_true q5
        have p7 : 0 ≤ (x7_1 : Int) := zod
        have q7 : x7_1 < (a0.size : Int) := zod
        have hx7 := Za0 a0 x7_1
        replace p7 := eq_true p7
        replace q7 := eq_true q7
        go_wp2
        go_roundg k1
        case measure => have := HK1.out; omega
        case rel => exact ⟨(wrap64 (x7_1 + 1)), (by first | rfl | (simp; done) | (simp [*]; done)), H', ⟨by have := HK1.out; omega⟩, by repeat (first | exact Zao.refl _ | apply Zao.step)⟩
       ·rw [if_neg c8] at H
        have c8b0 : decide ((bt a0 x7_1) ≤ 122) = false := decide_eq_false c8
        clear c8
        by_cases c9 : x7_1 = 0
        ·rw [if_pos c9] at H
         have c9b0 : (x7_1 == 0) = true := beq_iff_eq.mpr c9
         have c9b1 : (x7_1 != 0) = false := bne_eq_false_iff_eq.mpr c9
         clear c9
         obtain rfl := Option.some.inj H
         have p5 : 0 ≤ (x7_1 : Int) := zod
         have q5 : x7_1 < (a0.size : Int) := zod
         have hx5 := Za0 a0 x7_1
         replace p5 := eq_true p5
         replace q5 := eq_true q5
         have p7 : 0 ≤ (x7_1 : Int) := zod
         have q7 : x7_1 < (a0.size : Int) := zod
         have hx7 := Za0 a0 x7_1
         replace p7 := eq_true p7
         replace q7 := eq_true q7
         go_wp2
         go_ret
         exact ⟨by first | rfl | (simp; done) | (simp [*]; done), by repeat (first | exact Zao.refl _ | apply Zao.step)⟩
        ·rw [if_neg c9] at H
         have c9b0 : (x7_1 == 0) = false := beq_eq_false_iff_ne.mpr c9
         have c9b1 : (x7_1 != 0) = true := bne_iff_ne.mpr c9
         by_cases c11 : (bt a0 x7_1) = 95
         ·rw [if_pos c11] at H
          have c11b0 : ((bt a0 x7_1) == 95) = true := beq_iff_eq.mpr c11
          have c11b1 : ((bt a0 x7_1) != 95) = false := bne_eq_false_iff_eq.mpr c11
          clear c11
          have H' := Zaa.mk H
          clear H
          have p5 : 0 ≤ (x7_1 : Int) := zod
          have q5 : x7_1 < (a0.size : Int) := zod
          have hx5 := Za0 a0 x7_1
          replace p5 := eq_true p5
          replace q5 := eq_true q5
          have p7 : 0 ≤ (x7_1 : Int) := zod
          have q7 : x7_1 < (a0.size : Int) := zod
          have hx7 := Za0 a0 x7_1
          replace p7 := eq_true p7
          replace q7 := eq_true q7
          have p10 : 0 ≤ (x7_1 : Int) := zod
          have q10 : x7_1 < (a0.size : Int) := zod
          have hx10 := Za0 a0 x7_1
          replace p10 := eq_true p10
          replace q10 := eq_true q10
          go_wp2
          go_roundg k1
          case measure => have := HK1.out; omega
          case rel => exact ⟨(wrap64 (x7_1 + 1)), (by first | rfl | (simp; done) | (simp [*]; done)), H', ⟨by have := HK1.out; omega⟩, by repeat (first | exact Zao.refl _ | apply Zao.step)⟩
         ·rw [if_neg c11] at H
          have c11b0 : ((bt a0 x7_1) == 95) = false := beq_eq_false_iff_ne.mpr c11
          have c11b1 : ((bt a0 x7_1) != 95) = true := bne_iff_ne.mpr c11
          by_cases c13 : (bt a0 x7_1) < 48
          ·rw [if_pos c13] at H
           have c13b0 : decide ((bt a0 x7_1) < 48) = true := decide_eq_true c13
           clear c13
           obtain rfl := Option.some.inj H
           have p5 : 0 ≤ (x7_1 : Int) := zod
           have q5 : x7_1 < (a0.size : Int) := zod
           have hx5 := Za0 a0 x7_1
           replace p5 := eq_true p5
           replace q5 := eq_true q5
           have p7 : 0 ≤ (x7_1 : Int) := zod
           have q7 : x7_1 < (a0.size : Int) := zod
           have hx7 := Za0 a0 x7_1
           replace p7 := eq_true p7
           replace q7 := eq_true q7
           have p10 : 0 ≤ (x7_1 : Int) := zod
           have q10 : x7_1 < (a0.size : Int) := zod
           have hx10 := Za0 a0 x7_1
           replace p10 := eq_true p10
           replace q10 := eq_true q10
           have p12 : 0 ≤ (x7_1 : Int) := zod
           have q12 : x7_1 < (a0.size : Int) := zod
           have hx12 := Za0 a0 x7_1
           replace p12 := eq_true p12
           replace q12 := eq_true q12
           go_wp2
           go_ret
           exact ⟨by first | rfl | (simp; done) | (simp [*]; done), by repeat (first | exact Zao.refl _ | apply Zao.step)⟩
          ·rw [if_neg c13] at H
           have c13b0 : decide ((bt a0 x7_1) < 48) = false := decide_eq_false c13
           clear c13
           by_cases c15 : (bt a0 x7_1) > 57
           ·rw [if_pos c15] at H
            have c15b0 : decide (57 < (bt a0 x7_1)) = true := decide_eq_true c15
            clear c15
            obtain rfl := Option.some.inj H
            have p5 : 0 ≤ (x7_1 : Int) := zod
            have q5 : x7_1 < (a0.size : Int) := zod
            have hx5 := Za0 a0 x7_1
            replace p5 := eq_true p5
            replace q5 := eq_true q5
            have p7 : 0 ≤ (x7_1 : Int) := zod
            have q7 : x7_1 < (a0.size : Int) := zod
            have hx7 := Za0 a0 x7_1
            replace p7 := eq_true p7
            replace q7 := eq_true q7
            have p10 : 0 ≤ (x7_1 : Int) := zod
            have q10 : x7_1 < (a0.size : Int) := zod
            have hx10 := Za0 a0 x7_1
            replace p10 := eq_true p10
            replace q10 := eq_true q10
            have p12 : 0 ≤ (x7_1 : Int) := zod
            have q12 : x7_1 < (a0.size : Int) := zod
            have hx12 := Za0 a0 x7_1
            replace p12 := eq_true p12
            replace q12 := eq_true q12
            have p14 : 0 ≤ (x7_1 : Int) := zod
            have q14 : x7_1 < (a0.size : Int) := zod
            have hx14 := Za0 a0 x7_1
            replace p14 := eq_true p14
            replace q14 := eq_true q14
            go_wp2
            go_ret
            exact ⟨by first | rfl | (simp; done) | (simp [*]; done), by repeat (first | exact Zao.refl _ | apply Zao.step)⟩
           ·rw [if_neg c15] at H
            have c15b0 : decide (57 < (bt a0 x7_1)) = false := decide_eq_false c15
            clear c15
            have H' := Zaa.mk H
            clear H
            have p5 : 0 ≤ (x7_1 : Int) := zod
            have q5 : x7_1 < (a0.size : Int) := zod
            have hx5 := Za0 a0 x7_1
            replace p5 := eq_true p5
            replace q5 := eq_true q5
            have p7 : 0 ≤ (x7_1 : Int) := zod
            have q7 : x7_1 < (a0.size : Int) := zod
            have hx7 := Za0 a0 x7_1
            replace p7 := eq_true p7
            replace q7 := eq_true q7
            have p10 : 0 ≤ (x7_1 : Int) := zod
            have q10 : x7_1 < (a0.size : Int) := zod
            have hx10 := Za0 a0 x7_1
            replace p10 := eq_true p10
            replace q10 := eq_true q10
            have p12 : 0 ≤ (x7_1 : Int) := zod
            have q12 : x7_1 < (a0.size : Int) := zod
            have hx12 := Za0 a0 x7_1
            replace p12 := eq_true p12
            replace q12 := eq_true q12
            have p14 : 0 ≤ (x7_1 : Int) := zod
            have q14 : x7_1 < (a0.size : Int) := zod
            have hx14 := Za0 a0 x7_1
            replace p14 := eq_true p14
            replace q14 := eq_true q14
            go_wp2
            go_roundg k1
            case measure => have := HK1.out; omega
            case rel => exact ⟨(wrap64 (x7_1 + 1)), (by first | rfl | (simp; done) | (simp [*]; done)), H', ⟨by have := HK1.out; omega⟩, by repeat (first | exact Zao.refl _ | apply Zao.step)⟩
      ·rw [if_neg c6] at H
       have c6b0 : decide (97 ≤ (bt a0 x7_1)) = false := decide_eq_false c6
       clear c6
       by_cases c16 : x7_1 = 0
       ·rw [if_pos c16] at H
        have c16b0 : (x7_1 == 0) = true := beq_iff_eq.mpr c16
        have c16b1 : (x7_1 != 0) = false := bne_eq_false_iff_eq.mpr c16
        clear c16
        obtain rfl := Option.some.inj H
        have p5 : 0 ≤ (x7_1 : Int) := zod
        have q5 : x7_1 < (a0.size : Int) := zod
        have hx5 := Za0 a0 x7_1
        replace p5 := eq_true p5
        replace q5 := eq_true q5
        go_wp2
        go_ret
        exact ⟨by first | rfl | (simp; done) | (simp [*]; done), by repeat (first | exact Zao.refl _ | apply Zao.step)⟩
       ·rw [if_neg c16] at H
        have c16b0 : (x7_1 == 0) = false := beq_eq_false_iff_ne.mpr c16
        have c16b1 : (x7_1 != 0) = true := bne_iff_ne.mpr c16
        by_cases c18 : (bt a0 x7_1) = 95
        ·rw [if_pos c18] at H
         have c18b0 : ((bt a0 x7_1) == 95) = true := beq_iff_eq.mpr c18
         have c18b1 : ((bt a0 x7_1) != 95) = false := bne_eq_false_iff_eq.mpr c18
         clear c18
         have H' := Zaa.mk H
         clear H
         have p5 : 0 ≤ (x7_1 : Int) := zod
         have q5 : x7_1 < (a0.size : Int) := zod
         have hx5 := Za0 a0 x7_1
         replace p5 := eq_true p5
         replace q5 := eq_true q5
         have p17 : 0 ≤ (x7_1 : Int) := zod
         have q17 : x7_1 < (a0.size : Int) := zod
         have hx17 := Za0 a0 x7_1
         replace p17 := eq_true p17
         replace q17 := eq_true q17
         go_wp2
         go_roundg k1
         case measure => have := HK1.out; omega
         case rel => exact ⟨(wrap64 (x7_1 + 1)), (by first | rfl | (simp; done) | (simp [*]; done)), H', ⟨by have := HK1.out; omega⟩, by repeat (first | exact Zao.refl _ | apply Zao.step)⟩
        ·rw [if_neg c18] at H
         have c18b0 : ((bt a0 x7_1) == 95) = false := beq_eq_false_iff_ne.mpr c18
         have c18b1 : ((bt a0 x7_1) != 95) = true := bne_iff_ne.mpr c18
         by_cases c20 : (bt a0 x7_1) < 48
         ·rw [if_pos c20] at H
          have c20b0 : decide ((bt a0 x7_1) < 48) = true := decide_eq_true c20
          clear c20
          obtain rfl := Option.some.inj H
          have p5 : 0 ≤ (x7_1 : Int) := zod
          have q5 : x7_1 < (a0.size : Int) := zod
          have hx5 := Za0 a0 x7_1
          replace p5 := eq_true p5
          replace q5 := eq_true q5
          have p17 : 0 ≤ (x7_1 : Int) := zod
          have q17 : x7_1 < (a0.size : Int) := zod
          have hx17 := Za0 a0 x7_1
          replace p17 := eq_true p17
          replace q17 := eq_true q17
          have p19 : 0 ≤ (x7_1 : Int) := zod
          have q19 : x7_1 < (a0.size : Int) := zod
          have hx19 := Za0 a0 x7_1
          replace p19 := eq_true p19
          replace q19 := eq_true q19
          go_wp2
          go_ret
          exact ⟨by first | rfl | (simp; done) | (simp [*]; done), by repeat (first | exact Zao.refl _ | apply Zao.step)⟩
         ·rw [if_neg c20] at H
          have c20b0 : decide ((bt a0 x7_1) < 48) = false := decide_eq_false c20
          clear c20
          by_cases c22 : (bt a0 x7_1) > 57
          ·rw [if_pos c22] at H
           have c22b0 : decide (57 < (bt a0 x7_1)) = true := decide_eq_true c22
           clear c22
           obtain rfl := Option.some.inj H
           have p5 : 0 ≤ (x7_1 : Int) := zod
           have q5 : x7_1 < (a0.size : Int) := zod
           have hx5 := Za0 a0 x7_1
           replace p5 := eq_true p5
           replace q5 := eq_true q5
           have p17 : 0 ≤ (x7_1 : Int) := zod
           have q17 : x7_1 < (a0.size : Int) := zod
           have hx17 := Za0 a0 x7_1
           replace p17 := eq_true p17
           replace q17 := eq_true q17
           have p19 : 0 ≤ (x7_1 : Int) := zod
           have q19 : x7_1 < (a0.size : Int) := zod
           have hx19 := Za0 a0 x7_1
           replace p19 := eq_true p19
           replace q19 := eq_true q19
           have p21 : 0 ≤ (x7_1 : Int) := zod
           have q21 : x7_1 < (a0.size : Int) := zod
           have hx21 := Za0 a0 x7_1
           replace p21 := eq_true p21
           replace q21 := eq_true q21
           go_wp2
           go_ret
           exact ⟨by first | rfl | (simp; done) | (simp [*]; done), by repeat (first | exact Zao.refl _ | apply Zao.step)⟩
          ·rw [if_neg c22] at H
           have c22b0 : decide (57 < (bt a0 x7_1)) = false := decide_eq_false c22
           clear c22
           have H' := Zaa.mk H
           clear H
           have p5 : 0 ≤ (x7_1 : Int) := zod
           have q5 : x7_1 < (a0.size : Int) := zod
           have hx5 := Za0 a0 x7_1
           replace p5 := eq_true p5
           replace q5 := eq_true q5
           have p17 : 0 ≤ (x7_1 : Int) := zod
           have q17 : x7_1 < (a0.size : Int) := zod
           have hx17 := Za0 a0 x7_1
           replace p17 := eq_true p17
           replace q17 := eq_true q17
           have p19 : 0 ≤ (x7_1 : Int) := zod
           have q19 : x7_1 < (a0.size : Int) := zod
           have hx19 := Za0 a0 x7_1
           replace p19 := eq_true p19
           replace q19 := eq_true q19
           have p21 : 0 ≤ (x7_1 : Int) := zod
           have q21 : x7_1 < (a0.size : Int) := zod
           have hx21 := Za0 a0 x7_1
           replace p21 := eq_true p21
           replace q21 := eq_true q21
           go_wp2
           go_roundg k1
           case measure => have := HK1.out; omega
           case rel => exact ⟨(wrap64 (x7_1 + 1)), (by first | rfl | (simp; done) | (simp [*]; done)), H', ⟨by have := HK1.out; omega⟩, by repeat (first | exact Zao.refl _ | apply Zao.step)⟩
     ·rw [if_neg c4] at H
      exact absurd H (by simp)
    ·rw [if_neg c3] at H
     exact absurd H (by simp)
   ·rw [if_neg c2] at H
    have c2b0 : decide (x7_1 < (a0.size : Int)) = false := decide_eq_false c2
    clear c2
    by_cases c23 : a0.toList = ([] : List UInt8)
    ·rw [if_pos c23] at H
     have c23b0 : (a0.toList == ([] : List UInt8)) = true := beq_iff_eq.mpr c23
     have c23b1 : (a0.toList != ([] : List UInt8)) = false := bne_eq_false_iff_eq.mpr c23
     clear c23
     obtain rfl := Option.some.inj H
     go_wp2
     go_ret
     exact ⟨by first | rfl | (simp; done) | (simp [*]; done), by repeat (first | exact Zao.refl _ | apply Zao.step)⟩
    ·rw [if_neg c23] at H
     have c23b0 : (a0.toList == ([] : List UInt8)) = false := beq_eq_false_iff_ne.mpr c23
     have c23b1 : (a0.toList != ([] : List UInt8)) = true := bne_iff_ne.mpr c23
     obtain rfl := Option.some.inj H
     go_wp2
     go_ret
     exact ⟨by first | rfl | (simp; done) | (simp [*]; done), by repeat (first | exact Zao.refl _ | apply Zao.step)⟩
def value_Check.j0 : Nat → Bool → ByteArray → Int → Int → ByteArray → Option (Int)
 | 0, _, _, _, _, _ => none
 | k + 1, x8, x301000, x301001, x301002, x301003 => if x8 = true then (some 23) else (if (x301003.size : Int) > 640 then (some 20) else (some 0))
def value_Check.f (k : Nat) (a0_0 : ByteArray) (a0_1 : Int) (a0_2 : Int) (a0_3 : ByteArray) : Option (Int) := (value_name.f k a0_0).bind fun t301 => (if t301 = true then (if a0_1 < 1 then (value_Check.j0 k true a0_0 a0_1 a0_2 a0_3) else (if a0_1 > 3 then (value_Check.j0 k true a0_0 a0_1 a0_2 a0_3) else (if a0_1 = 1 then (if a0_1 = 2 then (value_Check.j0 k false a0_0 a0_1 a0_2 a0_3) else (value_Check.j0 k (a0_3.toList != ([] : List UInt8)) a0_0 a0_1 a0_2 a0_3)) else (if a0_2 = 0 then (if a0_1 = 2 then (value_Check.j0 k false a0_0 a0_1 a0_2 a0_3) else (value_Check.j0 k (a0_3.toList != ([] : List UInt8)) a0_0 a0_1 a0_2 a0_3)) else (value_Check.j0 k true a0_0 a0_1 a0_2 a0_3))))) else (some 22))
theorem value_Check.mono_l : ∀ k, (∀ y0 y1 y2 y3 y4, LeO (value_Check.j0 k y0 y1 y2 y3 y4) (value_Check.j0 (k + 1) y0 y1 y2 y3 y4))
 | 0 => fun _ _ _ _ _ r h => by simp [value_Check.j0] at h
 | k + 1 => by
  have ih0 := value_Check.mono_l k
  ·intro y0 y1 y2 y3 y4
   unfold value_Check.j0
   repeat' first
   | (with_reducible exact ih0 _ _ _ _ _)
   | (with_reducible exact value_name.mono _ _)
   | (with_reducible exact LeO.refl _)
   | (with_reducible exact LeO.none _)
   | (with_reducible refine LeO.ite ?_ ?_)
   | (with_reducible refine LeO.bind ?_ (fun _ => ?_))
   | exact ih0 _ _ _ _ _
   | exact value_name.mono _ _
   | exact LeO.none _
   | refine LeO.ite ?_ ?_
   | refine LeO.bind ?_ (fun _ => ?_)
theorem value_Check.mono : ∀ a0 a1 a2 a3 k, LeO (value_Check.f k a0 a1 a2 a3) (value_Check.f (k + 1) a0 a1 a2 a3) := by
 intro a0 a1 a2 a3 k
 have ih0 := value_Check.mono_l k
 unfold value_Check.f
 repeat' first
   | (with_reducible exact ih0 _ _ _ _ _)
   | (with_reducible exact value_name.mono _ _)
   | (with_reducible exact LeO.refl _)
   | (with_reducible exact LeO.none _)
   | (with_reducible refine LeO.ite ?_ ?_)
   | (with_reducible refine LeO.bind ?_ (fun _ => ?_))
   | exact ih0 _ _ _ _ _
   | exact value_name.mono _ _
   | exact LeO.none _
   | refine LeO.ite ?_ ?_
   | refine LeO.bind ?_ (fun _ => ?_)
set_option maxHeartbeats 8000000 in
set_option maxRecDepth 100000 in
theorem value_Check.calls (k : Nat) (a0_0 : ByteArray) (a0_1 : Int) (a0_2 : Int) (a0_3 : ByteArray) (r : Int) (w : World) (h : value_Check.f k a0_0 a0_1 a0_2 a0_3 = some r) :
  Calls Tryz.prog 82 #[.agg #[.string a0_0, .int .i64 a0_1, .int .i64 a0_2, .string a0_3]] w fun e w' => e = .returned (.int .i64 r) ∧ Below w.heap.size w w' := by
 have hu88 := Tryz.underlying88
 have HB := Zaa.mk (Below.refl w.heap.size w)
 unfold value_Check.f at h
 have H := h
 clear h
 replace H := Option.bind_eq_some_iff.mp H
 obtain ⟨t301, A20, H⟩ := H
 try dsimp only at H
 have A2 := Zaa.mk A20
 clear A20
 by_cases c3 : t301 = true
 ·subst c3
  rw [if_pos rfl] at H
  have HC4 := Zaa.mk H
  clear H
  go_enter Tryz.func82, Tryz.ntmps82
  go_upto_region 3 with (first | ((with_reducible refine Zav (N := 1) rfl ?_); refine Zaw ?hg (N := 1) ?hd (cs := #[.string a0_0, .int .i64 a0_1, .int .i64 a0_2, .string a0_3]) (t := 88) ?hr ?_; (case hd => rfl); (case hg => rfl); (case hr => first | (go_simp; done) | (go_simp; rfl)); intro gb300 hg w5 hbox hb; have BK300 := Zaa.mk (hbox); have GW300 := Zaa.mk ((by rw [hg]; exact (Zai (zb1 HB)) : w.heap.size ≤ gb300)); have GE300 := Zaa.mk ((by rw [hg]; exact (Zai (zb1 HB)) : w.heap.size ≤ gb300)); replace HB := Zaa.mk (Zae (zb1 HB) hb); clear hb hbox hg; obtain ⟨hcz6_0, hcz6_1, hcz6_2, hcz6_3⟩ := bc4 BK300.out; obtain ⟨hfz6_0, hfz6_1, hfz6_2, hfz6_3⟩ := bf4 BK300.out) | ((with_reducible refine Zam (f := 115) rfl ?_); refine Za1 (some 6) rfl rfl Tryz.func115 (by kernel_rfl) rfl #[.string a0_0] rfl zam ?_; (with_reducible refine (value_name.calls k a0_0 true _ A2.out).mono ?_); rintro e w' ⟨rfl, ⟨nd, rfl⟩⟩; refine ⟨_, rfl, ?_⟩))
  (try simp only [Act.put, List.setIfInBounds_toArray, List.set_cons_zero, List.set_cons_succ])
  go_cut [8] (fun v8 wc => ∃ (kq : Nat) (x8_3 : Bool), v8 = .bool x8_3 ∧ Zaa (value_Check.j0 kq x8_3 a0_0 a0_1 a0_2 a0_3 = some r) ∧ Zaa (kq ≤ k) ∧ Zaa (wc.heap[gb300]? = some (.cells #[.string a0_0, .int .i64 a0_1, .int .i64 a0_2, .string a0_3] 88 (0, 0))) ∧ Zaa (Below w.heap.size w wc))
  case first =>
   have H := HC4.out
   clear HC4
   by_cases c7 : a0_1 < 1
   ·rw [if_pos c7] at H
    have c7b0 : decide (a0_1 < 1) = true := decide_eq_true c7
    clear c7
    (first | rw [c7b0] | (simp only [Zax, Zay]; rw [c7b0]) | skip)
    have H' := Zaa.mk H
    clear H
    obtain ⟨hcz8_0, hcz8_1, hcz8_2, hcz8_3⟩ := bc4 BK300.out
    obtain ⟨hfz8_0, hfz8_1, hfz8_2, hfz8_3⟩ := bf4 BK300.out
    go_wp2
    go_meet
    case rel => exact ⟨_, (true), (by first | rfl | (simp; done) | (simp [*]; done)), H', ⟨by first | omega | exact Nat.le_refl _⟩, ⟨by (with_reducible repeat (first | refine Zac ?_ _ | refine Zad ?_ | refine Zab ?_ _)); exact BK300.out⟩, ⟨(zb2 HB GE300.out)⟩⟩
   ·rw [if_neg c7] at H
    have c7b0 : decide (a0_1 < 1) = false := decide_eq_false c7
    clear c7
    (first | rw [c7b0] | (simp only [Zax, Zay]; rw [c7b0]) | skip)
    by_cases c9 : a0_1 > 3
    ·rw [if_pos c9] at H
     have c9b0 : decide (3 < a0_1) = true := decide_eq_true c9
     clear c9
     have H' := Zaa.mk H
     clear H
     obtain ⟨hcz10_0, hcz10_1, hcz10_2, hcz10_3⟩ := bc4 BK300.out
     obtain ⟨hfz10_0, hfz10_1, hfz10_2, hfz10_3⟩ := bf4 BK300.out
     go_wp2
     go_meet
     case rel => exact ⟨_, (true), (by first | rfl | (simp; done) | (simp [*]; done)), H', ⟨by first | omega | exact Nat.le_refl _⟩, ⟨by (with_reducible repeat (first | refine Zac ?_ _ | refine Zad ?_ | refine Zab ?_ _)); exact BK300.out⟩, ⟨(zb2 HB GE300.out)⟩⟩
    ·rw [if_neg c9] at H
     have c9b0 : decide (3 < a0_1) = false := decide_eq_false c9
     clear c9
     by_cases c11 : a0_1 = 1
     ·rw [if_pos c11] at H
      have c11b0 : (a0_1 == 1) = true := beq_iff_eq.mpr c11
      have c11b1 : (a0_1 != 1) = false := bne_eq_false_iff_eq.mpr c11
      clear c11
      by_cases c12 : a0_1 = 2
      ·rw [if_pos c12] at H
       have c12b0 : (a0_1 == 2) = true := beq_iff_eq.mpr c12
       have c12b1 : (a0_1 != 2) = false := bne_eq_false_iff_eq.mpr c12
       clear c12
       have H' := Zaa.mk H
       clear H
       obtain ⟨hcz13_0, hcz13_1, hcz13_2, hcz13_3⟩ := bc4 BK300.out
       obtain ⟨hfz13_0, hfz13_1, hfz13_2, hfz13_3⟩ := bf4 BK300.out
       go_wp2
       go_meet
       case rel => exact ⟨_, (false), (by first | rfl | (simp; done) | (simp [*]; done)), H', ⟨by first | omega | exact Nat.le_refl _⟩, ⟨by (with_reducible repeat (first | refine Zac ?_ _ | refine Zad ?_ | refine Zab ?_ _)); exact BK300.out⟩, ⟨(zb2 HB GE300.out)⟩⟩
      ·rw [if_neg c12] at H
       have c12b0 : (a0_1 == 2) = false := beq_eq_false_iff_ne.mpr c12
       have c12b1 : (a0_1 != 2) = true := bne_iff_ne.mpr c12
       have H' := Zaa.mk H
       clear H
       obtain ⟨hcz14_0, hcz14_1, hcz14_2, hcz14_3⟩ := bc4 BK300.out
       obtain ⟨hfz14_0, hfz14_1, hfz14_2, hfz14_3⟩ := bf4 BK300.out
       go_wp2
       go_meet
       case rel => exact ⟨_, ((a0_3.toList != ([] : List UInt8))), (by first | rfl | (simp; done) | (simp [*]; done) | (simp [Go.Proofs.YtodbabeldolcbaaGreatDoor.PW.bne_nil]; done)), H', ⟨by first | omega | exact Nat.le_refl _⟩, ⟨by (with_reducible repeat (first | refine Zac ?_ _ | refine Zad ?_ | refine Zab ?_ _)); exact BK300.out⟩, ⟨(zb2 HB GE300.out)⟩⟩
     ·rw [if_neg c11] at H
      have c11b0 : (a0_1 == 1) = false := beq_eq_false_iff_ne.mpr c11
      have c11b1 : (a0_1 != 1) = true := bne_iff_ne.mpr c11
      by_cases c15 : a0_2 = 0
      ·rw [if_pos c15] at H
       have c15b0 : (a0_2 == 0) = true := beq_iff_eq.mpr c15
       have c15b1 : (a0_2 != 0) = false := bne_eq_false_iff_eq.mpr c15
       clear c15
       by_cases c16 : a0_1 = 2
       ·rw [if_pos c16] at H
        have c16b0 : (a0_1 == 2) = true := beq_iff_eq.mpr c16
        have c16b1 : (a0_1 != 2) = false := bne_eq_false_iff_eq.mpr c16
        clear c16
        have H' := Zaa.mk H
        clear H
        obtain ⟨hcz17_0, hcz17_1, hcz17_2, hcz17_3⟩ := bc4 BK300.out
        obtain ⟨hfz17_0, hfz17_1, hfz17_2, hfz17_3⟩ := bf4 BK300.out
        go_wp2
        go_meet
        case rel => exact ⟨_, (false), (by first | rfl | (simp; done) | (simp [*]; done)), H', ⟨by first | omega | exact Nat.le_refl _⟩, ⟨by (with_reducible repeat (first | refine Zac ?_ _ | refine Zad ?_ | refine Zab ?_ _)); exact BK300.out⟩, ⟨(zb2 HB GE300.out)⟩⟩
       ·rw [if_neg c16] at H
        have c16b0 : (a0_1 == 2) = false := beq_eq_false_iff_ne.mpr c16
        have c16b1 : (a0_1 != 2) = true := bne_iff_ne.mpr c16
        have H' := Zaa.mk H
        clear H
        obtain ⟨hcz18_0, hcz18_1, hcz18_2, hcz18_3⟩ := bc4 BK300.out
        obtain ⟨hfz18_0, hfz18_1, hfz18_2, hfz18_3⟩ := bf4 BK300.out
        go_wp2
        go_meet
        case rel => exact ⟨_, ((a0_3.toList != ([] : List UInt8))), (by first | rfl | (simp; done) | (simp [*]; done) | (simp [Go.Proofs.YtodbabeldolcbaaGreatDoor.PW.bne_nil]; done)), H', ⟨by first | omega | exact Nat.le_refl _⟩, ⟨by (with_reducible repeat (first | refine Zac ?_ _ | refine Zad ?_ | refine Zab ?_ _)); exact BK300.out⟩, ⟨(zb2 HB GE300.out)⟩⟩
      ·rw [if_neg c15] at H
       have c15b0 : (a0_2 == 0) = false := beq_eq_false_iff_ne.mpr c15
       have c15b1 : (a0_2 != 0) = true := bne_iff_ne.mpr c15
       have H' := Zaa.mk H
       clear H
       obtain ⟨hcz19_0, hcz19_1, hcz19_2, hcz19_3⟩ := bc4 BK300.out
       obtain ⟨hfz19_0, hfz19_1, hfz19_2, hfz19_3⟩ := bf4 BK300.out
       go_wp2
       go_meet
       case rel => exact ⟨_, (true), (by first | rfl | (simp; done) | (simp [*]; done)), H', ⟨by first | omega | exact Nat.le_refl _⟩, ⟨by (with_reducible repeat (first | refine Zac ?_ _ | refine Zad ?_ | refine Zab ?_ _)); exact BK300.out⟩, ⟨(zb2 HB GE300.out)⟩⟩
  case rest =>
   clear HC4
   (try clear c3)
   (try clear hcz6_0)
   (try clear hcz6_1)
   (try clear hcz6_2)
   (try clear hcz6_3)
   (try clear hfz6_0)
   (try clear hfz6_1)
   (try clear hfz6_2)
   (try clear hfz6_3)
   obtain ⟨kq, x8_3, rfl, HA, HJ3, BK300, HB⟩ := hcut
   cases kq with
   | zero => exact absurd HA.out (by simp [value_Check.j0])
   | succ kj3 =>
    have H := HA.out
    clear HA
    simp only [value_Check.j0] at H
    by_cases c20 : x8_3 = true
    ·subst c20
     rw [if_pos rfl] at H
     obtain rfl := Option.some.inj H
     go_wp2
     go_ret
     exact ⟨by first | rfl | (simp [errW_none, errW_some] <;> rfl) | (simp [*, errW_none, errW_some] <;> rfl), (zb2 HB GE300.out)⟩
    ·replace c20 := Bool.eq_false_iff.mpr c20
     subst c20
     rw [if_neg (show ¬ (false = true) by decide)] at H
     by_cases c21 : (a0_3.size : Int) > 640
     ·rw [if_pos c21] at H
      have c21b0 : decide (640 < (a0_3.size : Int)) = true := decide_eq_true c21
      have c21b1 : decide (640 < a0_3.size) = true := decide_eq_true (by omega)
      clear c21
      obtain rfl := Option.some.inj H
      obtain ⟨hcz22_0, hcz22_1, hcz22_2, hcz22_3⟩ := bc4 BK300.out
      obtain ⟨hfz22_0, hfz22_1, hfz22_2, hfz22_3⟩ := bf4 BK300.out
      go_wp2
      go_ret
      exact ⟨by first | rfl | (simp [errW_none, errW_some] <;> rfl) | (simp [*, errW_none, errW_some] <;> rfl), (zb2 HB GE300.out)⟩
     ·rw [if_neg c21] at H
      have c21b0 : decide (640 < (a0_3.size : Int)) = false := decide_eq_false c21
      have c21b1 : decide (640 < a0_3.size) = false := decide_eq_false (by omega)
      clear c21
      obtain rfl := Option.some.inj H
      obtain ⟨hcz23_0, hcz23_1, hcz23_2, hcz23_3⟩ := bc4 BK300.out
      obtain ⟨hfz23_0, hfz23_1, hfz23_2, hfz23_3⟩ := bf4 BK300.out
      go_wp2
      go_ret
      exact ⟨by first | rfl | (simp [errW_none, errW_some] <;> rfl) | (simp [*, errW_none, errW_some] <;> rfl), (zb2 HB GE300.out)⟩
 ·replace c3 := Bool.eq_false_iff.mpr c3
  subst c3
  rw [if_neg (show ¬ (false = true) by decide)] at H
  obtain rfl := Option.some.inj H
  go_enter Tryz.func82, Tryz.ntmps82
  go_wp2_with (first | ((with_reducible refine Zav (N := 1) rfl ?_); refine Zaw ?hg (N := 1) ?hd (cs := #[.string a0_0, .int .i64 a0_1, .int .i64 a0_2, .string a0_3]) (t := 88) ?hr ?_; (case hd => rfl); (case hg => rfl); (case hr => first | (go_simp; done) | (go_simp; rfl)); intro gb300 hg w24 hbox hb; have BK300 := Zaa.mk (hbox); have GW300 := Zaa.mk ((by rw [hg]; exact (Zai (zb1 HB)) : w.heap.size ≤ gb300)); have GE300 := Zaa.mk ((by rw [hg]; exact (Zai (zb1 HB)) : w.heap.size ≤ gb300)); replace HB := Zaa.mk (Zae (zb1 HB) hb); clear hb hbox hg; obtain ⟨hcz25_0, hcz25_1, hcz25_2, hcz25_3⟩ := bc4 BK300.out; obtain ⟨hfz25_0, hfz25_1, hfz25_2, hfz25_3⟩ := bf4 BK300.out) | ((with_reducible refine Zam (f := 115) rfl ?_); refine Za1 (some 6) rfl rfl Tryz.func115 (by kernel_rfl) rfl #[.string a0_0] rfl zam ?_; (with_reducible refine (value_name.calls k a0_0 false _ A2.out).mono ?_); rintro e w' ⟨rfl, ⟨nd, rfl⟩⟩; refine ⟨_, rfl, ?_⟩))
  go_ret
  exact ⟨by first | rfl | (simp [errW_none, errW_some] <;> rfl) | (simp [*, errW_none, errW_some] <;> rfl), (zb2 HB GE300.out)⟩
def value_Format.f (k : Nat) (a0_0 : ByteArray) (a0_1 : Int) (a0_2 : Int) (a0_3 : ByteArray) : Option (ByteArray × Int) := (value_Check.f k a0_0 a0_1 a0_2 a0_3).bind fun t303 => (if t303 = 0 then (if a0_1 = 1 then ((strconv_Itoa.f a0_2).bind fun t304 => (if a0_0.size + 1 ≤ 9223372036854775807 then (if (a0_0 ++ (⟨#[61]⟩ : ByteArray)).size + t304.size ≤ 9223372036854775807 then (some ((a0_0 ++ (⟨#[61]⟩ : ByteArray)) ++ t304, 0)) else (none)) else (none))) else (if a0_1 = 2 then ((value_Quote.f a0_3).bind fun bt305 => (if a0_0.size + 1 ≤ 9223372036854775807 then (if (a0_0 ++ (⟨#[61]⟩ : ByteArray)).size + bt305.1.size ≤ 9223372036854775807 then (some ((a0_0 ++ (⟨#[61]⟩ : ByteArray)) ++ bt305.1, 0)) else (none)) else (none))) else (if a0_0.size + 1 ≤ 9223372036854775807 then (if (a0_0 ++ (⟨#[61]⟩ : ByteArray)).size + 6 ≤ 9223372036854775807 then (some ((a0_0 ++ (⟨#[61]⟩ : ByteArray)) ++ (⟨#[40, 110, 117, 108, 108, 41]⟩ : ByteArray), 0)) else (none)) else (none)))) else (some ((⟨#[]⟩ : ByteArray), t303)))
theorem value_Format.mono : ∀ a0 a1 a2 a3 k, LeO (value_Format.f k a0 a1 a2 a3) (value_Format.f (k + 1) a0 a1 a2 a3) := by
 intro a0 a1 a2 a3 k
 unfold value_Format.f
 repeat' first
   | (with_reducible exact value_Check.mono _ _ _ _ _)
   | (with_reducible exact LeO.refl _)
   | (with_reducible exact LeO.none _)
   | (with_reducible refine LeO.ite ?_ ?_)
   | (with_reducible refine LeO.bind ?_ (fun _ => ?_))
   | exact value_Check.mono _ _ _ _ _
   | exact LeO.none _
   | refine LeO.ite ?_ ?_
   | refine LeO.bind ?_ (fun _ => ?_)
set_option maxHeartbeats 8000000 in
set_option maxRecDepth 100000 in
theorem value_Format.calls (k : Nat) (a0_0 : ByteArray) (a0_1 : Int) (a0_2 : Int) (a0_3 : ByteArray) (r1 : ByteArray) (r2 : Int) (w : World) (hG : GT 1 w) (h : value_Format.f k a0_0 a0_1 a0_2 a0_3 = some (r1, r2)) :
  Calls Tryz.prog 58 #[.agg #[.string a0_0, .int .i64 a0_1, .int .i64 a0_2, .string a0_3]] w fun e w' => e = .returned (.tuple #[.string r1, .int .i64 r2]) ∧ Below w.heap.size w w' := by
 have hu88 := Tryz.underlying88
 have HG := Zaa.mk hG
 clear hG
 have HB := Zaa.mk (Below.refl w.heap.size w)
 unfold value_Format.f at h
 have H := h
 clear h
 replace H := Option.bind_eq_some_iff.mp H
 obtain ⟨t303, A20, H⟩ := H
 try dsimp only at H
 have A2 := Zaa.mk A20
 clear A20
 by_cases c3 : t303 = 0
 ·rw [if_pos c3] at H
  have c3b0 : (t303 == 0) = true := beq_iff_eq.mpr c3
  have c3b1 : (t303 != 0) = false := bne_eq_false_iff_eq.mpr c3
  clear c3
  by_cases c4 : a0_1 = 1
  ·rw [if_pos c4] at H
   have c4b0 : (a0_1 == 1) = true := beq_iff_eq.mpr c4
   have c4b1 : (a0_1 != 1) = false := bne_eq_false_iff_eq.mpr c4
   clear c4
   replace H := Option.bind_eq_some_iff.mp H
   obtain ⟨t304, A50, H⟩ := H
   try dsimp only at H
   have A5 := Zaa.mk A50
   clear A50
   by_cases c6 : a0_0.size + 1 ≤ 9223372036854775807
   ·rw [if_pos c6] at H
    have c6b0 := eq_true c6
    have c6b1 : decide (a0_0.size + 1 ≤ 9223372036854775807) = true := decide_eq_true c6
    try have c6b2 : (9223372036854775807 < a0_0.size + 1) = False := eq_false (Nat.not_lt.2 c6)
    by_cases c7 : (a0_0 ++ (⟨#[61]⟩ : ByteArray)).size + t304.size ≤ 9223372036854775807
    ·rw [if_pos c7] at H
     have c7b0 := eq_true c7
     have c7b1 : decide ((a0_0 ++ (⟨#[61]⟩ : ByteArray)).size + t304.size ≤ 9223372036854775807) = true := decide_eq_true c7
     try have c7b2 : (9223372036854775807 < (a0_0 ++ (⟨#[61]⟩ : ByteArray)).size + t304.size) = False := eq_false (Nat.not_lt.2 c7)
     try (have c7b3 := c7; simp only [ByteArray.size_append, Go.Proofs.YtodbabeldolcbaaGreatDoor.PW.size_mk, List.size_toArray, List.length_cons, List.length_nil, Nat.reduceAdd] at c7b3; have c7b4 := eq_false (Nat.not_lt.2 c7b3))
     simp only [Option.some.injEq, Prod.mk.injEq] at H
     obtain ⟨rfl, rfl⟩ := H
     go_enter Tryz.func58, Tryz.ntmps58
     go_wp2_with (first | ((with_reducible refine Zav (N := 1) rfl ?_); refine Zaw ?hg (N := 1) ?hd (cs := #[.string a0_0, .int .i64 a0_1, .int .i64 a0_2, .string a0_3]) (t := 88) ?hr ?_; (case hd => rfl); (case hg => rfl); (case hr => first | (go_simp; done) | (go_simp; rfl)); intro gb302 hg w8 hbox hb; have BK302 := Zaa.mk (hbox); have GW302 := Zaa.mk ((by rw [hg]; exact (Zai (zb1 HB)) : w.heap.size ≤ gb302)); have GE302 := Zaa.mk ((by rw [hg]; exact (Zai (zb1 HB)) : w.heap.size ≤ gb302)); replace HB := Zaa.mk (Zae (zb1 HB) hb); clear hb hbox hg; obtain ⟨hcz9_0, hcz9_1, hcz9_2, hcz9_3⟩ := bc4 BK302.out; obtain ⟨hfz9_0, hfz9_1, hfz9_2, hfz9_3⟩ := bf4 BK302.out) | ((with_reducible refine Zam (f := 82) rfl ?_); refine Za1 (some 7) rfl rfl Tryz.func82 (by kernel_rfl) rfl #[.agg #[.string a0_0, .int .i64 a0_1, .int .i64 a0_2, .string a0_3]] rfl zam ?_; (with_reducible refine (value_Check.calls k a0_0 a0_1 a0_2 a0_3 t303 _ A2.out).mono ?_); rintro e w10 ⟨rfl, hb⟩; refine ⟨_, rfl, ?_⟩; replace BK302 := Zaa.mk (Zah (g := gb302) (o := .cells #[.string a0_0, .int .i64 a0_1, .int .i64 a0_2, .string a0_3] 88 (0, 0)) (zbk BK302) hb); replace HB := Zaa.mk (Zae (zb2 HB GE302.out) hb); (try clear hb); obtain ⟨hcz11_0, hcz11_1, hcz11_2, hcz11_3⟩ := bc4 BK302.out; obtain ⟨hfz11_0, hfz11_1, hfz11_2, hfz11_3⟩ := bf4 BK302.out) | ((with_reducible refine Zam (f := 55) rfl ?_); refine Za1 (some 17) rfl rfl Tryz.func55 (by kernel_rfl) rfl #[.int .i64 a0_2] rfl zam ?_; (with_reducible refine (strconv_Itoa.calls a0_2 t304 _ ?side1 A5.out).mono ?_); (case side1 => exact GT.below (by decide) HG.out (zb2 HB GE302.out)); rintro e w12 ⟨rfl, hb⟩; refine ⟨_, rfl, ?_⟩; replace BK302 := Zaa.mk (Zah (g := gb302) (o := .cells #[.string a0_0, .int .i64 a0_1, .int .i64 a0_2, .string a0_3] 88 (0, 0)) (zbk BK302) hb); replace HB := Zaa.mk (Zae (zb2 HB GE302.out) hb); (try clear hb); obtain ⟨hcz13_0, hcz13_1, hcz13_2, hcz13_3⟩ := bc4 BK302.out; obtain ⟨hfz13_0, hfz13_1, hfz13_2, hfz13_3⟩ := bf4 BK302.out))
     go_ret2
     exact ⟨by first | rfl | (simp [errW_none, errW_some] <;> rfl) | (simp [*, errW_none, errW_some] <;> rfl), (zb2 HB GE302.out)⟩
    ·rw [if_neg c7] at H
     exact absurd H (by simp)
   ·rw [if_neg c6] at H
    exact absurd H (by simp)
  ·rw [if_neg c4] at H
   have c4b0 : (a0_1 == 1) = false := beq_eq_false_iff_ne.mpr c4
   have c4b1 : (a0_1 != 1) = true := bne_iff_ne.mpr c4
   by_cases c14 : a0_1 = 2
   ·rw [if_pos c14] at H
    have c14b0 : (a0_1 == 2) = true := beq_iff_eq.mpr c14
    have c14b1 : (a0_1 != 2) = false := bne_eq_false_iff_eq.mpr c14
    clear c14
    replace H := Option.bind_eq_some_iff.mp H
    obtain ⟨⟨t305, t306⟩, A150, H⟩ := H
    try dsimp only at H
    have A15 := Zaa.mk A150
    clear A150
    by_cases c16 : a0_0.size + 1 ≤ 9223372036854775807
    ·rw [if_pos c16] at H
     have c16b0 := eq_true c16
     have c16b1 : decide (a0_0.size + 1 ≤ 9223372036854775807) = true := decide_eq_true c16
     try have c16b2 : (9223372036854775807 < a0_0.size + 1) = False := eq_false (Nat.not_lt.2 c16)
     by_cases c17 : (a0_0 ++ (⟨#[61]⟩ : ByteArray)).size + t305.size ≤ 9223372036854775807
     ·rw [if_pos c17] at H
      have c17b0 := eq_true c17
      have c17b1 : decide ((a0_0 ++ (⟨#[61]⟩ : ByteArray)).size + t305.size ≤ 9223372036854775807) = true := decide_eq_true c17
      try have c17b2 : (9223372036854775807 < (a0_0 ++ (⟨#[61]⟩ : ByteArray)).size + t305.size) = False := eq_false (Nat.not_lt.2 c17)
      try (have c17b3 := c17; simp only [ByteArray.size_append, Go.Proofs.YtodbabeldolcbaaGreatDoor.PW.size_mk, List.size_toArray, List.length_cons, List.length_nil, Nat.reduceAdd] at c17b3; have c17b4 := eq_false (Nat.not_lt.2 c17b3))
      simp only [Option.some.injEq, Prod.mk.injEq] at H
      obtain ⟨rfl, rfl⟩ := H
      go_enter Tryz.func58, Tryz.ntmps58
      go_wp2_with (first | ((with_reducible refine Zav (N := 1) rfl ?_); refine Zaw ?hg (N := 1) ?hd (cs := #[.string a0_0, .int .i64 a0_1, .int .i64 a0_2, .string a0_3]) (t := 88) ?hr ?_; (case hd => rfl); (case hg => rfl); (case hr => first | (go_simp; done) | (go_simp; rfl)); intro gb302 hg w18 hbox hb; have BK302 := Zaa.mk (hbox); have GW302 := Zaa.mk ((by rw [hg]; exact (Zai (zb1 HB)) : w.heap.size ≤ gb302)); have GE302 := Zaa.mk ((by rw [hg]; exact (Zai (zb1 HB)) : w.heap.size ≤ gb302)); replace HB := Zaa.mk (Zae (zb1 HB) hb); clear hb hbox hg; obtain ⟨hcz19_0, hcz19_1, hcz19_2, hcz19_3⟩ := bc4 BK302.out; obtain ⟨hfz19_0, hfz19_1, hfz19_2, hfz19_3⟩ := bf4 BK302.out) | ((with_reducible refine Zam (f := 82) rfl ?_); refine Za1 (some 7) rfl rfl Tryz.func82 (by kernel_rfl) rfl #[.agg #[.string a0_0, .int .i64 a0_1, .int .i64 a0_2, .string a0_3]] rfl zam ?_; (with_reducible refine (value_Check.calls k a0_0 a0_1 a0_2 a0_3 t303 _ A2.out).mono ?_); rintro e w20 ⟨rfl, hb⟩; refine ⟨_, rfl, ?_⟩; replace BK302 := Zaa.mk (Zah (g := gb302) (o := .cells #[.string a0_0, .int .i64 a0_1, .int .i64 a0_2, .string a0_3] 88 (0, 0)) (zbk BK302) hb); replace HB := Zaa.mk (Zae (zb2 HB GE302.out) hb); (try clear hb); obtain ⟨hcz21_0, hcz21_1, hcz21_2, hcz21_3⟩ := bc4 BK302.out; obtain ⟨hfz21_0, hfz21_1, hfz21_2, hfz21_3⟩ := bf4 BK302.out) | ((with_reducible refine Zam (f := 104) rfl ?_); refine Za1 (some 25) rfl rfl Tryz.func104 (by kernel_rfl) rfl #[.string a0_3] rfl zam ?_; (with_reducible refine (value_Quote.calls a0_3 t305 t306 _ ?side1 A15.out).mono ?_); (case side1 => exact GT.below (by decide) HG.out (zb2 HB GE302.out)); rintro e w22 ⟨rfl, hb⟩; refine ⟨_, rfl, ?_⟩; replace BK302 := Zaa.mk (Zah (g := gb302) (o := .cells #[.string a0_0, .int .i64 a0_1, .int .i64 a0_2, .string a0_3] 88 (0, 0)) (zbk BK302) hb); replace HB := Zaa.mk (Zae (zb2 HB GE302.out) hb); (try clear hb); obtain ⟨hcz23_0, hcz23_1, hcz23_2, hcz23_3⟩ := bc4 BK302.out; obtain ⟨hfz23_0, hfz23_1, hfz23_2, hfz23_3⟩ := bf4 BK302.out))
      go_ret2
      exact ⟨by first | rfl | (simp [errW_none, errW_some] <;> rfl) | (simp [*, errW_none, errW_some] <;> rfl), (zb2 HB GE302.out)⟩
     ·rw [if_neg c17] at H
      exact absurd H (by simp)
    ·rw [if_neg c16] at H
     exact absurd H (by simp)
   ·rw [if_neg c14] at H
    have c14b0 : (a0_1 == 2) = false := beq_eq_false_iff_ne.mpr c14
    have c14b1 : (a0_1 != 2) = true := bne_iff_ne.mpr c14
    by_cases c24 : a0_0.size + 1 ≤ 9223372036854775807
    ·rw [if_pos c24] at H
     have c24b0 := eq_true c24
     have c24b1 : decide (a0_0.size + 1 ≤ 9223372036854775807) = true := decide_eq_true c24
     try have c24b2 : (9223372036854775807 < a0_0.size + 1) = False := eq_false (Nat.not_lt.2 c24)
     by_cases c25 : (a0_0 ++ (⟨#[61]⟩ : ByteArray)).size + 6 ≤ 9223372036854775807
     ·rw [if_pos c25] at H
      have c25b0 := eq_true c25
      have c25b1 : decide ((a0_0 ++ (⟨#[61]⟩ : ByteArray)).size + 6 ≤ 9223372036854775807) = true := decide_eq_true c25
      try have c25b2 : (9223372036854775807 < (a0_0 ++ (⟨#[61]⟩ : ByteArray)).size + 6) = False := eq_false (Nat.not_lt.2 c25)
      try (have c25b3 := c25; simp only [ByteArray.size_append, Go.Proofs.YtodbabeldolcbaaGreatDoor.PW.size_mk, List.size_toArray, List.length_cons, List.length_nil, Nat.reduceAdd] at c25b3; have c25b4 := eq_false (Nat.not_lt.2 c25b3))
      simp only [Option.some.injEq, Prod.mk.injEq] at H
      obtain ⟨rfl, rfl⟩ := H
      go_enter Tryz.func58, Tryz.ntmps58
      go_wp2_with (first | ((with_reducible refine Zav (N := 1) rfl ?_); refine Zaw ?hg (N := 1) ?hd (cs := #[.string a0_0, .int .i64 a0_1, .int .i64 a0_2, .string a0_3]) (t := 88) ?hr ?_; (case hd => rfl); (case hg => rfl); (case hr => first | (go_simp; done) | (go_simp; rfl)); intro gb302 hg w26 hbox hb; have BK302 := Zaa.mk (hbox); have GW302 := Zaa.mk ((by rw [hg]; exact (Zai (zb1 HB)) : w.heap.size ≤ gb302)); have GE302 := Zaa.mk ((by rw [hg]; exact (Zai (zb1 HB)) : w.heap.size ≤ gb302)); replace HB := Zaa.mk (Zae (zb1 HB) hb); clear hb hbox hg; obtain ⟨hcz27_0, hcz27_1, hcz27_2, hcz27_3⟩ := bc4 BK302.out; obtain ⟨hfz27_0, hfz27_1, hfz27_2, hfz27_3⟩ := bf4 BK302.out) | ((with_reducible refine Zam (f := 82) rfl ?_); refine Za1 (some 7) rfl rfl Tryz.func82 (by kernel_rfl) rfl #[.agg #[.string a0_0, .int .i64 a0_1, .int .i64 a0_2, .string a0_3]] rfl zam ?_; (with_reducible refine (value_Check.calls k a0_0 a0_1 a0_2 a0_3 t303 _ A2.out).mono ?_); rintro e w28 ⟨rfl, hb⟩; refine ⟨_, rfl, ?_⟩; replace BK302 := Zaa.mk (Zah (g := gb302) (o := .cells #[.string a0_0, .int .i64 a0_1, .int .i64 a0_2, .string a0_3] 88 (0, 0)) (zbk BK302) hb); replace HB := Zaa.mk (Zae (zb2 HB GE302.out) hb); (try clear hb); obtain ⟨hcz29_0, hcz29_1, hcz29_2, hcz29_3⟩ := bc4 BK302.out; obtain ⟨hfz29_0, hfz29_1, hfz29_2, hfz29_3⟩ := bf4 BK302.out))
      go_ret2
      exact ⟨by first | rfl | (simp [errW_none, errW_some] <;> rfl) | (simp [*, errW_none, errW_some] <;> rfl), (zb2 HB GE302.out)⟩
     ·rw [if_neg c25] at H
      exact absurd H (by simp)
    ·rw [if_neg c24] at H
     exact absurd H (by simp)
 ·rw [if_neg c3] at H
  have c3b0 : (t303 == 0) = false := beq_eq_false_iff_ne.mpr c3
  have c3b1 : (t303 != 0) = true := bne_iff_ne.mpr c3
  simp only [Option.some.injEq, Prod.mk.injEq] at H
  obtain ⟨rfl, rfl⟩ := H
  go_enter Tryz.func58, Tryz.ntmps58
  go_wp2_with (first | ((with_reducible refine Zav (N := 1) rfl ?_); refine Zaw ?hg (N := 1) ?hd (cs := #[.string a0_0, .int .i64 a0_1, .int .i64 a0_2, .string a0_3]) (t := 88) ?hr ?_; (case hd => rfl); (case hg => rfl); (case hr => first | (go_simp; done) | (go_simp; rfl)); intro gb302 hg w30 hbox hb; have BK302 := Zaa.mk (hbox); have GW302 := Zaa.mk ((by rw [hg]; exact (Zai (zb1 HB)) : w.heap.size ≤ gb302)); have GE302 := Zaa.mk ((by rw [hg]; exact (Zai (zb1 HB)) : w.heap.size ≤ gb302)); replace HB := Zaa.mk (Zae (zb1 HB) hb); clear hb hbox hg; obtain ⟨hcz31_0, hcz31_1, hcz31_2, hcz31_3⟩ := bc4 BK302.out; obtain ⟨hfz31_0, hfz31_1, hfz31_2, hfz31_3⟩ := bf4 BK302.out) | ((with_reducible refine Zam (f := 82) rfl ?_); refine Za1 (some 7) rfl rfl Tryz.func82 (by kernel_rfl) rfl #[.agg #[.string a0_0, .int .i64 a0_1, .int .i64 a0_2, .string a0_3]] rfl zam ?_; (with_reducible refine (value_Check.calls k a0_0 a0_1 a0_2 a0_3 t303 _ A2.out).mono ?_); rintro e w32 ⟨rfl, hb⟩; refine ⟨_, rfl, ?_⟩; replace BK302 := Zaa.mk (Zah (g := gb302) (o := .cells #[.string a0_0, .int .i64 a0_1, .int .i64 a0_2, .string a0_3] 88 (0, 0)) (zbk BK302) hb); replace HB := Zaa.mk (Zae (zb2 HB GE302.out) hb); (try clear hb)))
  go_ret2
  exact ⟨by first | rfl | (simp [errW_none, errW_some] <;> rfl) | (simp [*, errW_none, errW_some] <;> rfl), (zb2 HB GE302.out)⟩
end Go.Proofs.YtodbabeldolcbaaGreatDoor.PA
