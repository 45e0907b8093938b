/- Contracts of functions of the program: written by pr2.py (ours, round the print of the kit) out of the translation; conditions: each contract names its own. -/
import Derived.Test.YtkfddpbmclbdhaaDoorZAPAx0
section
namespace Go.Proofs.YtkfddpbmclbdhaaDoor.PA
open Go.RowKit Go.Proofs.YtkfddpbmclbdhaaDoorW.PrintWords Go.Proofs.YtkfddpbmclbdhaaDoorW.PrintLast Go.Proofs.YtkfddpbmclbdhaaDoorW.PrintMore
attribute [local go_sem] Zaz Zax Za5 Za4 Zas Zar Zay Zaw   -- for this text's walks alone
set_option linter.unusedVariables false
set_option linter.unusedSimpArgs false
def value_name.l0 : Nat → ByteArray → Int → Int → Option (Bool)
 | 0, _, _, _ => none
 | k + 1, x0, x6, x7 => if x7 < x6 then (if 0 ≤ x7 then (if x7 < (x0.size : Int) then (if (bt x0 x7) ≥ 97 then (if ((bt x0 x7) ≤ 122) then (value_name.l0 k x0 x6 (wrap64 (x7 + 1))) else (if x7 = 0 then (some false) else (if (bt x0 x7) = 95 then (value_name.l0 k x0 x6 (wrap64 (x7 + 1))) else (if (bt x0 x7) < 48 then (some false) else (if (bt x0 x7) > 57 then (some false) else (value_name.l0 k x0 x6 (wrap64 (x7 + 1)))))))) else (if x7 = 0 then (some false) else (if (bt x0 x7) = 95 then (value_name.l0 k x0 x6 (wrap64 (x7 + 1))) else (if (bt x0 x7) < 48 then (some false) else (if (bt x0 x7) > 57 then (some false) else (value_name.l0 k x0 x6 (wrap64 (x7 + 1)))))))) else (none)) else (none)) else (if x0.toList = ([] : List UInt8) then (some false) else (some (decide ((x0.size : Int) ≤ 16))))
def value_name.f (k : Nat) (a0 : ByteArray) : Option (Bool) := value_name.l0 k a0 (a0.size : Int) 0
theorem value_name.mono_l : ∀ k, (∀ y0 y1 y2, LeO (value_name.l0 k y0 y1 y2) (value_name.l0 (k + 1) y0 y1 y2))
 | 0 => fun _ _ _ r h => by simp [value_name.l0] at h
 | k + 1 => by
  have ih0 := value_name.mono_l k
  ·intro y0 y1 y2
   unfold value_name.l0
   repeat' first
   | (with_reducible exact ih0 _ _ _)
   | (with_reducible exact LeO.refl _)
   | (with_reducible exact LeO.none _)
   | (with_reducible refine LeO.ite ?_ ?_)
   | (with_reducible refine LeO.bind ?_ (fun _ => ?_))
   | exact ih0 _ _ _
   | exact LeO.none _
   | refine LeO.ite ?_ ?_
   | refine LeO.bind ?_ (fun _ => ?_)
theorem value_name.mono : ∀ a0 k, LeO (value_name.f k a0) (value_name.f (k + 1) a0) := by
 intro a0 k
 have ih0 := value_name.mono_l k
 unfold value_name.f
 repeat' first
   | (with_reducible exact ih0 _ _ _)
   | (with_reducible exact LeO.refl _)
   | (with_reducible exact LeO.none _)
   | (with_reducible refine LeO.ite ?_ ?_)
   | (with_reducible refine LeO.bind ?_ (fun _ => ?_))
   | exact ih0 _ _ _
   | exact LeO.none _
   | refine LeO.ite ?_ ?_
   | refine LeO.bind ?_ (fun _ => ?_)
set_option maxHeartbeats 8000000 in
set_option maxRecDepth 100000 in
theorem value_name.calls (k : Nat) (a0 : ByteArray) (r : Bool) (w : World) (h : value_name.f k a0 = some r) :
  Calls Tryd.prog 75 #[.string a0] w fun e w' => e = .returned (.bool r) ∧ Zat w w' := by
 unfold value_name.f at h
 have H := h
 clear h
 have H' := Zaa.mk H
 clear H
 go_enter Tryd.func75, Tryd.ntmps75
 go_wp2
 go_loopg [7] k (fun kq v7 w' => ∃ (x7_1 : Int), v7 = .int .i64 x7_1 ∧ Zaa (value_name.l0 kq a0 (a0.size : Int) x7_1 = some r) ∧ Zaa (kq ≤ k) ∧ Zat w w')
 case atStart => exact ⟨(0), (by first | rfl | (simp; done) | (simp [*]; done)), H', ⟨Nat.le_refl _⟩, by repeat (first | exact Zat.refl _ | apply Zat.step)⟩
 case round =>
  clear H'
  obtain ⟨x7_1, rfl, HA, HK1, ⟨m1, rfl⟩⟩ := hrel
  cases gk with
  | zero => exact absurd HA.out (by simp [value_name.l0])
  | succ k1 =>
   have H := HA.out
   clear HA
   simp only [value_name.l0] at H
   by_cases c2 : x7_1 < (a0.size : Int)
   ·rw [if_pos c2] at H
    have c2b0 : decide (x7_1 < (a0.size : Int)) = true := decide_eq_true c2
    clear c2
    by_cases c3 : 0 ≤ x7_1
    ·rw [if_pos c3] at H
     have c3b0 : decide (0 ≤ x7_1) = true := decide_eq_true c3
     clear c3
     by_cases c4 : x7_1 < (a0.size : Int)
     ·rw [if_pos c4] at H
      have c4b0 : decide (x7_1 < (a0.size : Int)) = true := decide_eq_true c4
      clear c4
      by_cases c6 : (bt a0 x7_1) ≥ 97
      ·rw [if_pos c6] at H
       have c6b0 : decide (97 ≤ (bt a0 x7_1)) = true := decide_eq_true c6
       clear c6
       by_cases c8 : ((bt a0 x7_1) ≤ 122)
       ·rw [if_pos c8] at H
        have c8b0 : decide ((bt a0 x7_1) ≤ 122) = true := decide_eq_true c8
        clear c8
        have H' := Zaa.mk H
        clear H
        have p5 : 0 ≤ (x7_1 : Int) := zod
        have q5 : x7_1 < (a0.size : Int) := zod
        have hx5 := Zbc a0 x7_1
        replace p5 := eq_true p5
        replace q5 := eq_true q5
        have p7 : 0 ≤ (x7_1 : Int) := zod
        have q7 : x7_1 < (a0.size : Int) := zod
        have hx7 := Zbc a0 x7_1
        replace p7 := eq_true p7
        replace q7 := eq_true q7
        go_wp2
        go_roundg k1
        case measure => have := HK1.out; omega
        case rel => exact ⟨(wrap64 (x7_1 + 1)), (by first | rfl | (simp; done) | (simp [*]; done)), H', ⟨by have := HK1.out; omega⟩, by repeat (first | exact Zat.refl _ | apply Zat.step)⟩
       ·rw [if_neg c8] at H
        have c8b0 : decide ((bt a0 x7_1) ≤ 122) = false := decide_eq_false c8
        clear c8
        by_cases c9 : x7_1 = 0
        ·rw [if_pos c9] at H
         have c9b0 : (x7_1 == 0) = true := beq_iff_eq.mpr c9
         have c9b1 : (x7_1 != 0) = false := bne_eq_false_iff_eq.mpr c9
         clear c9
         obtain rfl := Option.some.inj H
         have p5 : 0 ≤ (x7_1 : Int) := zod
         have q5 : x7_1 < (a0.size : Int) := zod
         have hx5 := Zbc a0 x7_1
         replace p5 := eq_true p5
         replace q5 := eq_true q5
         have p7 : 0 ≤ (x7_1 : Int) := zod
         have q7 : x7_1 < (a0.size : Int) := zod
         have hx7 := Zbc a0 x7_1
         replace p7 := eq_true p7
         replace q7 := eq_true q7
         go_wp2
         go_ret
         exact ⟨by first | rfl | (simp; done) | (simp [*]; done), by repeat (first | exact Zat.refl _ | apply Zat.step)⟩
        ·rw [if_neg c9] at H
         have c9b0 : (x7_1 == 0) = false := beq_eq_false_iff_ne.mpr c9
         have c9b1 : (x7_1 != 0) = true := bne_iff_ne.mpr c9
         by_cases c11 : (bt a0 x7_1) = 95
         ·rw [if_pos c11] at H
          have c11b0 : ((bt a0 x7_1) == 95) = true := beq_iff_eq.mpr c11
          have c11b1 : ((bt a0 x7_1) != 95) = false := bne_eq_false_iff_eq.mpr c11
          clear c11
          have H' := Zaa.mk H
          clear H
          have p5 : 0 ≤ (x7_1 : Int) := zod
          have q5 : x7_1 < (a0.size : Int) := zod
          have hx5 := Zbc a0 x7_1
          replace p5 := eq_true p5
          replace q5 := eq_true q5
          have p7 : 0 ≤ (x7_1 : Int) := zod
          have q7 : x7_1 < (a0.size : Int) := zod
          have hx7 := Zbc a0 x7_1
          replace p7 := eq_true p7
          replace q7 := eq_true q7
          have p10 : 0 ≤ (x7_1 : Int) := zod
          have q10 : x7_1 < (a0.size : Int) := zod
          have hx10 := Zbc a0 x7_1
          replace p10 := eq_true p10
          replace q10 := eq_true q10
          go_wp2
          go_roundg k1
          case measure => have := HK1.out; omega
          case rel => exact ⟨(wrap64 (x7_1 + 1)), (by first | rfl | (simp; done) | (simp [*]; done)), H', ⟨by have := HK1.out; omega⟩, by repeat (first | exact Zat.refl _ | apply Zat.step)⟩
         ·rw [if_neg c11] at H
          have c11b0 : ((bt a0 x7_1) == 95) = false := beq_eq_false_iff_ne.mpr c11
          have c11b1 : ((bt a0 x7_1) != 95) = true := bne_iff_ne.mpr c11
          by_cases c13 : (bt a0 x7_1) < 48
          ·rw [if_pos c13] at H
           have c13b0 : decide ((bt a0 x7_1) < 48) = true := decide_eq_true c13
           clear c13
           obtain rfl := Option.some.inj H
           have p5 : 0 ≤ (x7_1 : Int) := zod
           have q5 : x7_1 < (a0.size : Int) := zod
           have hx5 := Zbc a0 x7_1
           replace p5 := eq_true p5
           replace q5 := eq_true q5
           have p7 : 0 ≤ (x7_1 : Int) := zod
           have q7 : x7_1 < (a0.size : Int) := zod
           have hx7 := Zbc a0 x7_1
           replace p7 := eq_true p7
           replace q7 := eq_true q7
           have p10 : 0 ≤ (x7_1 : Int) := zod
           have q10 : x7_1 < (a0.size : Int) := zod
           have hx10 := Zbc a0 x7_1
           replace p10 := eq_true p10
           replace q10 := eq_true q10
           have p12 : 0 ≤ (x7_1 : Int) := zod
           have q12 : x7_1 < (a0.size : Int) := zod
           have hx12 := Zbc a0 x7_1
           replace p12 := eq_true p12
           replace q12 := eq_true q12
           go_wp2
           go_ret
           exact ⟨by first | rfl | (simp; done) | (simp [*]; done), by repeat (first | exact Zat.refl _ | apply Zat.step)⟩
          ·rw [if_neg c13] at H
           have c13b0 : decide ((bt a0 x7_1) < 48) = false := decide_eq_false c13
           clear c13
           by_cases c15 : (bt a0 x7_1) > 57
           ·rw [if_pos c15] at H
            have c15b0 : decide (57 < (bt a0 x7_1)) = true := decide_eq_true c15
            clear c15
            obtain rfl := Option.some.inj H
            have p5 : 0 ≤ (x7_1 : Int) := zod
            have q5 : x7_1 < (a0.size : Int) := zod
            have hx5 := Zbc a0 x7_1
            replace p5 := eq_true p5
            replace q5 := eq_true q5
            have p7 : 0 ≤ (x7_1 : Int) := zod
            have q7 : x7_1 < (a0.size : Int) := zod
            have hx7 := Zbc a0 x7_1
            replace p7 := eq_true p7
            replace q7 := eq_true q7
            have p10 : 0 ≤ (x7_1 : Int) := zod
            have q10 : x7_1 < (a0.size : Int) := zod
            have hx10 := Zbc a0 x7_1
            replace p10 := eq_true p10
            replace q10 := eq_true q10
            have p12 : 0 ≤ (x7_1 : Int) := zod
            have q12 : x7_1 < (a0.size : Int) := zod
            have hx12 := Zbc a0 x7_1
            replace p12 := eq_true p12
            replace q12 := eq_true q12
            have p14 : 0 ≤ (x7_1 : Int) := zod
            have q14 : x7_1 < (a0.size : Int) := zod
            have hx14 := Zbc a0 x7_1
            replace p14 := eq_true p14
            replace q14 := eq_true q14
            go_wp2
            go_ret
            exact ⟨by first | rfl | (simp; done) | (simp [*]; done), by repeat (first | exact Zat.refl _ | apply Zat.step)⟩
           ·rw [if_neg c15] at H
            have c15b0 : decide (57 < (bt a0 x7_1)) = false := decide_eq_false c15
            clear c15
            have H' := Zaa.mk H
            clear H
            have p5 : 0 ≤ (x7_1 : Int) := zod
            have q5 : x7_1 < (a0.size : Int) := zod
            have hx5 := Zbc a0 x7_1
            replace p5 := eq_true p5
            replace q5 := eq_true q5
            have p7 : 0 ≤ (x7_1 : Int) := zod
            have q7 : x7_1 < (a0.size : Int) := zod
            have hx7 := Zbc a0 x7_1
            replace p7 := eq_true p7
            replace q7 := eq_true q7
            have p10 : 0 ≤ (x7_1 : Int) := zod
            have q10 : x7_1 < (a0.size : Int) := zod
            have hx10 := Zbc a0 x7_1
            replace p10 := eq_true p10
            replace q10 := eq_true q10
            have p12 : 0 ≤ (x7_1 : Int) := zod
            have q12 : x7_1 < (a0.size : Int) := zod
            have hx12 := Zbc a0 x7_1
            replace p12 := eq_true p12
            replace q12 := eq_true q12
            have p14 : 0 ≤ (x7_1 : Int) := zod
            have q14 : x7_1 < (a0.size : Int) := zod
            have hx14 := Zbc a0 x7_1
            replace p14 := eq_true p14
            replace q14 := eq_true q14
            go_wp2
            go_roundg k1
            case measure => have := HK1.out; omega
            case rel => exact ⟨(wrap64 (x7_1 + 1)), (by first | rfl | (simp; done) | (simp [*]; done)), H', ⟨by have := HK1.out; omega⟩, by repeat (first | exact Zat.refl _ | apply Zat.step)⟩
      ·rw [if_neg c6] at H
       have c6b0 : decide (97 ≤ (bt a0 x7_1)) = false := decide_eq_false c6
       clear c6
       by_cases c16 : x7_1 = 0
       ·rw [if_pos c16] at H
        have c16b0 : (x7_1 == 0) = true := beq_iff_eq.mpr c16
        have c16b1 : (x7_1 != 0) = false := bne_eq_false_iff_eq.mpr c16
        clear c16
        obtain rfl := Option.some.inj H
        have p5 : 0 ≤ (x7_1 : Int) := zod
        have q5 : x7_1 < (a0.size : Int) := zod
        have hx5 := Zbc a0 x7_1
        replace p5 := eq_true p5
        replace q5 := eq_true q5
        go_wp2
        go_ret
        exact ⟨by first | rfl | (simp; done) | (simp [*]; done), by repeat (first | exact Zat.refl _ | apply Zat.step)⟩
       ·rw [if_neg c16] at H
        have c16b0 : (x7_1 == 0) = false := beq_eq_false_iff_ne.mpr c16
        have c16b1 : (x7_1 != 0) = true := bne_iff_ne.mpr c16
        by_cases c18 : (bt a0 x7_1) = 95
        ·rw [if_pos c18] at H
         have c18b0 : ((bt a0 x7_1) == 95) = true := beq_iff_eq.mpr c18
         have c18b1 : ((bt a0 x7_1) != 95) = false := bne_eq_false_iff_eq.mpr c18
         clear c18
         have H' := Zaa.mk H
         clear H
         have p5 : 0 ≤ (x7_1 : Int) := zod
         have q5 : x7_1 < (a0.size : Int) := zod
         have hx5 := Zbc a0 x7_1
         replace p5 := eq_true p5
         replace q5 := eq_true q5
         have p17 : 0 ≤ (x7_1 : Int) := zod
         have q17 : x7_1 < (a0.size : Int) := zod
         have hx17 := Zbc a0 x7_1
         replace p17 := eq_true p17
         replace q17 := eq_true q17
         go_wp2
         go_roundg k1
         case measure => have := HK1.out; omega
         case rel => exact ⟨(wrap64 (x7_1 + 1)), (by first | rfl | (simp; done) | (simp [*]; done)), H', ⟨by have := HK1.out; omega⟩, by repeat (first | exact Zat.refl _ | apply Zat.step)⟩
        ·rw [if_neg c18] at H
         have c18b0 : ((bt a0 x7_1) == 95) = false := beq_eq_false_iff_ne.mpr c18
         have c18b1 : ((bt a0 x7_1) != 95) = true := bne_iff_ne.mpr c18
         by_cases c20 : (bt a0 x7_1) < 48
         ·rw [if_pos c20] at H
          have c20b0 : decide ((bt a0 x7_1) < 48) = true := decide_eq_true c20
          clear c20
          obtain rfl := Option.some.inj H
          have p5 : 0 ≤ (x7_1 : Int) := zod
          have q5 : x7_1 < (a0.size : Int) := zod
          have hx5 := Zbc a0 x7_1
          replace p5 := eq_true p5
          replace q5 := eq_true q5
          have p17 : 0 ≤ (x7_1 : Int) := zod
          have q17 : x7_1 < (a0.size : Int) := zod
          have hx17 := Zbc a0 x7_1
          replace p17 := eq_true p17
          replace q17 := eq_true q17
          have p19 : 0 ≤ (x7_1 : Int) := zod
          have q19 : x7_1 < (a0.size : Int) := zod
          have hx19 := Zbc a0 x7_1
          replace p19 := eq_true p19
          replace q19 := eq_true q19
          go_wp2
          go_ret
          exact ⟨by first | rfl | (simp; done) | (simp [*]; done), by repeat (first | exact Zat.refl _ | apply Zat.step)⟩
         ·rw [if_neg c20] at H
          have c20b0 : decide ((bt a0 x7_1) < 48) = false := decide_eq_false c20
          clear c20
          by_cases c22 : (bt a0 x7_1) > 57
          ·rw [if_pos c22] at H
           have c22b0 : decide (57 < (bt a0 x7_1)) = true := decide_eq_true c22
           clear c22
           obtain rfl := Option.some.inj H
           have p5 : 0 ≤ (x7_1 : Int) := zod
           have q5 : x7_1 < (a0.size : Int) := zod
           have hx5 := Zbc a0 x7_1
           replace p5 := eq_true p5
           replace q5 := eq_true q5
           have p17 : 0 ≤ (x7_1 : Int) := zod
           have q17 : x7_1 < (a0.size : Int) := zod
           have hx17 := Zbc a0 x7_1
           replace p17 := eq_true p17
           replace q17 := eq_true q17
           have p19 : 0 ≤ (x7_1 : Int) := zod
           have q19 : x7_1 < (a0.size : Int) := zod
           have hx19 := Zbc a0 x7_1
           replace p19 := eq_true p19
           replace q19 := eq_true q19
           have p21 : 0 ≤ (x7_1 : Int) := zod
           have q21 : x7_1 < (a0.size : Int) := zod
           have hx21 := Zbc a0 x7_1
           replace p21 := eq_true p21
           replace q21 := eq_true q21
           go_wp2
           go_ret
           exact ⟨by first | rfl | (simp; done) | (simp [*]; done), by repeat (first | exact Zat.refl _ | apply Zat.step)⟩
          ·rw [if_neg c22] at H
           have c22b0 : decide (57 < (bt a0 x7_1)) = false := decide_eq_false c22
           clear c22
           have H' := Zaa.mk H
           clear H
           have p5 : 0 ≤ (x7_1 : Int) := zod
           have q5 : x7_1 < (a0.size : Int) := zod
           have hx5 := Zbc a0 x7_1
           replace p5 := eq_true p5
           replace q5 := eq_true q5
           have p17 : 0 ≤ (x7_1 : Int) := zod
           have q17 : x7_1 < (a0.size : Int) := zod
           have hx17 := Zbc a0 x7_1
           replace p17 := eq_true p17
           replace q17 := eq_true q17
           have p19 : 0 ≤ (x7_1 : Int) := zod
           have q19 : x7_1 < (a0.size : Int) := zod
           have hx19 := Zbc a0 x7_1
           replace p19 := eq_true p19
           replace q19 := eq_true q19
           have p21 : 0 ≤ (x7_1 : Int) := zod
           have q21 : x7_1 < (a0.size : Int) := zod
           have hx21 := Zbc a0 x7_1
           replace p21 := eq_true p21
           replace q21 := eq_true q21
           go_wp2
           go_roundg k1
           case measure => have := HK1.out; omega
           case rel => exact ⟨(wrap64 (x7_1 + 1)), (by first | rfl | (simp; done) | (simp [*]; done)), H', ⟨by have := HK1.out; omega⟩, by repeat (first | exact Zat.refl _ | apply Zat.step)⟩
     ·rw [if_neg c4] at H
      exact absurd H (by simp)
    ·rw [if_neg c3] at H
     exact absurd H (by simp)
   ·rw [if_neg c2] at H
    have c2b0 : decide (x7_1 < (a0.size : Int)) = false := decide_eq_false c2
    clear c2
    by_cases c23 : a0.toList = ([] : List UInt8)
    ·rw [if_pos c23] at H
     have c23b0 : (a0.toList == ([] : List UInt8)) = true := beq_iff_eq.mpr c23
     have c23b1 : (a0.toList != ([] : List UInt8)) = false := bne_eq_false_iff_eq.mpr c23
     clear c23
     obtain rfl := Option.some.inj H
     go_wp2
     go_ret
     exact ⟨by first | rfl | (simp; done) | (simp [*]; done), by repeat (first | exact Zat.refl _ | apply Zat.step)⟩
    ·rw [if_neg c23] at H
     have c23b0 : (a0.toList == ([] : List UInt8)) = false := beq_eq_false_iff_ne.mpr c23
     have c23b1 : (a0.toList != ([] : List UInt8)) = true := bne_iff_ne.mpr c23
     obtain rfl := Option.some.inj H
     go_wp2
     go_ret
     exact ⟨by first | rfl | (simp; done) | (simp [*]; done), by repeat (first | exact Zat.refl _ | apply Zat.step)⟩
end Go.Proofs.YtkfddpbmclbdhaaDoor.PA
end
section
namespace Go.Proofs.YtkfddpbmclbdhaaDoor.PA
open Go.RowKit Go.Proofs.YtkfddpbmclbdhaaDoorW.PrintWords Go.Proofs.YtkfddpbmclbdhaaDoorW.PrintLast Go.Proofs.YtkfddpbmclbdhaaDoorW.PrintMore
attribute [local go_sem] Zaz Zax Za5 Za4 Zas Zar Zay Zaw   -- for this text's walks alone
set_option linter.unusedVariables false
set_option linter.unusedSimpArgs false
def value_Check.j0 : Nat → Bool → ByteArray → Int → Int → ByteArray → Option (Int)
 | 0, _, _, _, _, _ => none
 | k + 1, x8, x155000, x155001, x155002, x155003 => if x8 = true then (some 23) else (if (x155003.size : Int) > 640 then (some 20) else (some 0))
def value_Check.f (k : Nat) (a0_0 : ByteArray) (a0_1 : Int) (a0_2 : Int) (a0_3 : ByteArray) : Option (Int) := (value_name.f k a0_0).bind fun t155 => (if t155 = true then (if a0_1 < 1 then (value_Check.j0 k true a0_0 a0_1 a0_2 a0_3) else (if a0_1 > 3 then (value_Check.j0 k true a0_0 a0_1 a0_2 a0_3) else (if a0_1 = 1 then (if a0_1 = 2 then (value_Check.j0 k false a0_0 a0_1 a0_2 a0_3) else (value_Check.j0 k (a0_3.toList != ([] : List UInt8)) a0_0 a0_1 a0_2 a0_3)) else (if a0_2 = 0 then (if a0_1 = 2 then (value_Check.j0 k false a0_0 a0_1 a0_2 a0_3) else (value_Check.j0 k (a0_3.toList != ([] : List UInt8)) a0_0 a0_1 a0_2 a0_3)) else (value_Check.j0 k true a0_0 a0_1 a0_2 a0_3))))) else (some 22))
theorem value_Check.mono_l : ∀ k, (∀ y0 y1 y2 y3 y4, LeO (value_Check.j0 k y0 y1 y2 y3 y4) (value_Check.j0 (k + 1) y0 y1 y2 y3 y4))
 | 0 => fun _ _ _ _ _ r h => by simp [value_Check.j0] at h
 | k + 1 => by
  have ih0 := value_Check.mono_l k
  ·intro y0 y1 y2 y3 y4
   unfold value_Check.j0
   repeat' first
   | (with_reducible exact ih0 _ _ _ _ _)
   | (with_reducible exact value_name.mono _ _)
   | (with_reducible exact LeO.refl _)
   | (with_reducible exact LeO.none _)
   | (with_reducible refine LeO.ite ?_ ?_)
   | (with_reducible refine LeO.bind ?_ (fun _ => ?_))
   | exact ih0 _ _ _ _ _
   | exact value_name.mono _ _
   | exact LeO.none _
   | refine LeO.ite ?_ ?_
   | refine LeO.bind ?_ (fun _ => ?_)
theorem value_Check.mono : ∀ a0 a1 a2 a3 k, LeO (value_Check.f k a0 a1 a2 a3) (value_Check.f (k + 1) a0 a1 a2 a3) := by
 intro a0 a1 a2 a3 k
 have ih0 := value_Check.mono_l k
 unfold value_Check.f
 repeat' first
   | (with_reducible exact ih0 _ _ _ _ _)
   | (with_reducible exact value_name.mono _ _)
   | (with_reducible exact LeO.refl _)
   | (with_reducible exact LeO.none _)
   | (with_reducible refine LeO.ite ?_ ?_)
   | (with_reducible refine LeO.bind ?_ (fun _ => ?_))
   | exact ih0 _ _ _ _ _
   | exact value_name.mono _ _
   | exact LeO.none _
   | refine LeO.ite ?_ ?_
   | refine LeO.bind ?_ (fun _ => ?_)
set_option maxHeartbeats 8000000 in
set_option maxRecDepth 100000 in
theorem value_Check.calls (k : Nat) (a0_0 : ByteArray) (a0_1 : Int) (a0_2 : Int) (a0_3 : ByteArray) (r : Int) (w : World) (h : value_Check.f k a0_0 a0_1 a0_2 a0_3 = some r) :
  Calls Tryd.prog 26 #[.agg #[.string a0_0, .int .i64 a0_1, .int .i64 a0_2, .string a0_3]] w fun e w' => e = .returned (.int .i64 r) ∧ Below w.heap.size w w' := by
 have hu31 := Tryd.underlying31
 have HB := Zaa.mk (Below.refl w.heap.size w)
 unfold value_Check.f at h
 have H := h
 clear h
 replace H := Option.bind_eq_some_iff.mp H
 obtain ⟨t155, A20, H⟩ := H
 try dsimp only at H
 have A2 := Zaa.mk A20
 clear A20
 by_cases c3 : t155 = true
 ·subst c3
  rw [if_pos rfl] at H
  have HC4 := Zaa.mk H
  clear H
  go_enter Tryd.func26, Tryd.ntmps26
  go_upto_region 3 with (first | ((with_reducible refine Zao (N := 1) rfl ?_); refine Zap ?hg (N := 1) ?hd (cs := #[.string a0_0, .int .i64 a0_1, .int .i64 a0_2, .string a0_3]) (t := 31) ?hr ?_; (case hd => rfl); (case hg => rfl); (case hr => first | (go_simp; done) | (go_simp; rfl)); intro gb154 hg w5 hbox hb; have BK154 := Zaa.mk (hbox); have GW154 := Zaa.mk ((by rw [hg]; exact (Zae (zb1 HB)) : w.heap.size ≤ gb154)); have GE154 := Zaa.mk ((by rw [hg]; exact (Zae (zb1 HB)) : w.heap.size ≤ gb154)); replace HB := Zaa.mk (Zaf (zb1 HB) hb); clear hb hbox hg; obtain ⟨hcz6_0, hcz6_1, hcz6_2, hcz6_3⟩ := bc4 BK154.out; obtain ⟨hfz6_0, hfz6_1, hfz6_2, hfz6_3⟩ := bf4 BK154.out) | ((with_reducible refine Zal (f := 75) rfl ?_); refine Za2 (some 6) rfl rfl Tryd.func75 (by kernel_rfl) rfl #[.string a0_0] rfl zam ?_; (with_reducible refine (value_name.calls k a0_0 true _ A2.out).mono ?_); rintro e w' ⟨rfl, ⟨nd, rfl⟩⟩; refine ⟨_, rfl, ?_⟩))
  (try simp only [Act.put, List.setIfInBounds_toArray, List.set_cons_zero, List.set_cons_succ])
  go_cut [8] (fun v8 wc => ∃ (kq : Nat) (x8_3 : Bool), v8 = .bool x8_3 ∧ Zaa (value_Check.j0 kq x8_3 a0_0 a0_1 a0_2 a0_3 = some r) ∧ Zaa (kq ≤ k) ∧ Zaa (wc.heap[gb154]? = some (.cells #[.string a0_0, .int .i64 a0_1, .int .i64 a0_2, .string a0_3] 31 (0, 0))) ∧ Zaa (Below w.heap.size w wc))
  case first =>
   have H := HC4.out
   clear HC4
   by_cases c7 : a0_1 < 1
   ·rw [if_pos c7] at H
    have c7b0 : decide (a0_1 < 1) = true := decide_eq_true c7
    clear c7
    (first | rw [c7b0] | (simp only [Zav, Za0]; rw [c7b0]) | skip)
    have H' := Zaa.mk H
    clear H
    obtain ⟨hcz8_0, hcz8_1, hcz8_2, hcz8_3⟩ := bc4 BK154.out
    obtain ⟨hfz8_0, hfz8_1, hfz8_2, hfz8_3⟩ := bf4 BK154.out
    go_wp2
    go_meet
    case rel => exact ⟨_, (true), (by first | rfl | (simp; done) | (simp [*]; done)), H', ⟨by first | omega | exact Nat.le_refl _⟩, ⟨by (with_reducible repeat (first | refine Zac ?_ _ | refine Zad ?_ | refine Zab ?_ _)); exact BK154.out⟩, ⟨(zb2 HB GE154.out)⟩⟩
   ·rw [if_neg c7] at H
    have c7b0 : decide (a0_1 < 1) = false := decide_eq_false c7
    clear c7
    (first | rw [c7b0] | (simp only [Zav, Za0]; rw [c7b0]) | skip)
    by_cases c9 : a0_1 > 3
    ·rw [if_pos c9] at H
     have c9b0 : decide (3 < a0_1) = true := decide_eq_true c9
     clear c9
     have H' := Zaa.mk H
     clear H
     obtain ⟨hcz10_0, hcz10_1, hcz10_2, hcz10_3⟩ := bc4 BK154.out
     obtain ⟨hfz10_0, hfz10_1, hfz10_2, hfz10_3⟩ := bf4 BK154.out
     go_wp2
     go_meet
     case rel => exact ⟨_, (true), (by first | rfl | (simp; done) | (simp [*]; done)), H', ⟨by first | omega | exact Nat.le_refl _⟩, ⟨by (with_reducible repeat (first | refine Zac ?_ _ | refine Zad ?_ | refine Zab ?_ _)); exact BK154.out⟩, ⟨(zb2 HB GE154.out)⟩⟩
    ·rw [if_neg c9] at H
     have c9b0 : decide (3 < a0_1) = false := decide_eq_false c9
     clear c9
     by_cases c11 : a0_1 = 1
     ·rw [if_pos c11] at H
      have c11b0 : (a0_1 == 1) = true := beq_iff_eq.mpr c11
      have c11b1 : (a0_1 != 1) = false := bne_eq_false_iff_eq.mpr c11
      clear c11
      by_cases c12 : a0_1 = 2
      ·rw [if_pos c12] at H
       have c12b0 : (a0_1 == 2) = true := beq_iff_eq.mpr c12
       have c12b1 : (a0_1 != 2) = false := bne_eq_false_iff_eq.mpr c12
       clear c12
       have H' := Zaa.mk H
       clear H
       obtain ⟨hcz13_0, hcz13_1, hcz13_2, hcz13_3⟩ := bc4 BK154.out
       obtain ⟨hfz13_0, hfz13_1, hfz13_2, hfz13_3⟩ := bf4 BK154.out
       go_wp2
       go_meet
       case rel => exact ⟨_, (false), (by first | rfl | (simp; done) | (simp [*]; done)), H', ⟨by first | omega | exact Nat.le_refl _⟩, ⟨by (with_reducible repeat (first | refine Zac ?_ _ | refine Zad ?_ | refine Zab ?_ _)); exact BK154.out⟩, ⟨(zb2 HB GE154.out)⟩⟩
      ·rw [if_neg c12] at H
       have c12b0 : (a0_1 == 2) = false := beq_eq_false_iff_ne.mpr c12
       have c12b1 : (a0_1 != 2) = true := bne_iff_ne.mpr c12
       have H' := Zaa.mk H
       clear H
       obtain ⟨hcz14_0, hcz14_1, hcz14_2, hcz14_3⟩ := bc4 BK154.out
       obtain ⟨hfz14_0, hfz14_1, hfz14_2, hfz14_3⟩ := bf4 BK154.out
       go_wp2
       go_meet
       case rel => exact ⟨_, ((a0_3.toList != ([] : List UInt8))), (by first | rfl | (simp; done) | (simp [*]; done) | (simp [Go.Proofs.YtkfddpbmclbdhaaDoor.PW.bne_nil]; done)), H', ⟨by first | omega | exact Nat.le_refl _⟩, ⟨by (with_reducible repeat (first | refine Zac ?_ _ | refine Zad ?_ | refine Zab ?_ _)); exact BK154.out⟩, ⟨(zb2 HB GE154.out)⟩⟩
     ·rw [if_neg c11] at H
      have c11b0 : (a0_1 == 1) = false := beq_eq_false_iff_ne.mpr c11
      have c11b1 : (a0_1 != 1) = true := bne_iff_ne.mpr c11
      by_cases c15 : a0_2 = 0
      ·rw [if_pos c15] at H
       have c15b0 : (a0_2 == 0) = true := beq_iff_eq.mpr c15
       have c15b1 : (a0_2 != 0) = false := bne_eq_false_iff_eq.mpr c15
       clear c15
       by_cases c16 : a0_1 = 2
       ·rw [if_pos c16] at H
        have c16b0 : (a0_1 == 2) = true := beq_iff_eq.mpr c16
        have c16b1 : (a0_1 != 2) = false := bne_eq_false_iff_eq.mpr c16
        clear c16
        have H' := Zaa.mk H
        clear H
        obtain ⟨hcz17_0, hcz17_1, hcz17_2, hcz17_3⟩ := bc4 BK154.out
        obtain ⟨hfz17_0, hfz17_1, hfz17_2, hfz17_3⟩ := bf4 BK154.out
        go_wp2
        go_meet
        case rel => exact ⟨_, (false), (by first | rfl | (simp; done) | (simp [*]; done)), H', ⟨by first | omega | exact Nat.le_refl _⟩, ⟨by (with_reducible repeat (first | refine Zac ?_ _ | refine Zad ?_ | refine Zab ?_ _)); exact BK154.out⟩, ⟨(zb2 HB GE154.out)⟩⟩
       ·rw [if_neg c16] at H
        have c16b0 : (a0_1 == 2) = false := beq_eq_false_iff_ne.mpr c16
        have c16b1 : (a0_1 != 2) = true := bne_iff_ne.mpr c16
        have H' := Zaa.mk H
        clear H
        obtain ⟨hcz18_0, hcz18_1, hcz18_2, hcz18_3⟩ := bc4 BK154.out
        obtain ⟨hfz18_0, hfz18_1, hfz18_2, hfz18_3⟩ := bf4 BK154.out
        go_wp2
        go_meet
        case rel => exact ⟨_, ((a0_3.toList != ([] : List UInt8))), (by first | rfl | (simp; done) | (simp [*]; done) | (simp [Go.Proofs.YtkfddpbmclbdhaaDoor.PW.bne_nil]; done)), H', ⟨by first | omega | exact Nat.le_refl _⟩, ⟨by (with_reducible repeat (first | refine Zac ?_ _ | refine Zad ?_ | refine Zab ?_ _)); exact BK154.out⟩, ⟨(zb2 HB GE154.out)⟩⟩
      ·rw [if_neg c15] at H
       have c15b0 : (a0_2 == 0) = false := beq_eq_false_iff_ne.mpr c15
       have c15b1 : (a0_2 != 0) = true := bne_iff_ne.mpr c15
       have H' := Zaa.mk H
       clear H
       obtain ⟨hcz19_0, hcz19_1, hcz19_2, hcz19_3⟩ := bc4 BK154.out
       obtain ⟨hfz19_0, hfz19_1, hfz19_2, hfz19_3⟩ := bf4 BK154.out
       go_wp2
       go_meet
       case rel => exact ⟨_, (true), (by first | rfl | (simp; done) | (simp [*]; done)), H', ⟨by first | omega | exact Nat.le_refl _⟩, ⟨by (with_reducible repeat (first | refine Zac ?_ _ | refine Zad ?_ | refine Zab ?_ _)); exact BK154.out⟩, ⟨(zb2 HB GE154.out)⟩⟩
  case rest =>
   clear HC4
   (try clear c3)
   (try clear hcz6_0)
   (try clear hcz6_1)
   (try clear hcz6_2)
   (try clear hcz6_3)
   (try clear hfz6_0)
   (try clear hfz6_1)
   (try clear hfz6_2)
   (try clear hfz6_3)
   obtain ⟨kq, x8_3, rfl, HA, HJ3, BK154, HB⟩ := hcut
   cases kq with
   | zero => exact absurd HA.out (by simp [value_Check.j0])
   | succ kj3 =>
    have H := HA.out
    clear HA
    simp only [value_Check.j0] at H
    by_cases c20 : x8_3 = true
    ·subst c20
     rw [if_pos rfl] at H
     obtain rfl := Option.some.inj H
     go_wp2
     go_ret
     exact ⟨by first | rfl | (simp [errW_none, errW_some] <;> rfl) | (simp [*, errW_none, errW_some] <;> rfl), (zb2 HB GE154.out)⟩
    ·replace c20 := Bool.eq_false_iff.mpr c20
     subst c20
     rw [if_neg (show ¬ (false = true) by decide)] at H
     by_cases c21 : (a0_3.size : Int) > 640
     ·rw [if_pos c21] at H
      have c21b0 : decide (640 < (a0_3.size : Int)) = true := decide_eq_true c21
      have c21b1 : decide (640 < a0_3.size) = true := decide_eq_true (by omega)
      clear c21
      obtain rfl := Option.some.inj H
      obtain ⟨hcz22_0, hcz22_1, hcz22_2, hcz22_3⟩ := bc4 BK154.out
      obtain ⟨hfz22_0, hfz22_1, hfz22_2, hfz22_3⟩ := bf4 BK154.out
      go_wp2
      go_ret
      exact ⟨by first | rfl | (simp [errW_none, errW_some] <;> rfl) | (simp [*, errW_none, errW_some] <;> rfl), (zb2 HB GE154.out)⟩
     ·rw [if_neg c21] at H
      have c21b0 : decide (640 < (a0_3.size : Int)) = false := decide_eq_false c21
      have c21b1 : decide (640 < a0_3.size) = false := decide_eq_false (by omega)
      clear c21
      obtain rfl := Option.some.inj H
      obtain ⟨hcz23_0, hcz23_1, hcz23_2, hcz23_3⟩ := bc4 BK154.out
      obtain ⟨hfz23_0, hfz23_1, hfz23_2, hfz23_3⟩ := bf4 BK154.out
      go_wp2
      go_ret
      exact ⟨by first | rfl | (simp [errW_none, errW_some] <;> rfl) | (simp [*, errW_none, errW_some] <;> rfl), (zb2 HB GE154.out)⟩
 ·replace c3 := Bool.eq_false_iff.mpr c3
  subst c3
  rw [if_neg (show ¬ (false = true) by decide)] at H
  obtain rfl := Option.some.inj H
  go_enter Tryd.func26, Tryd.ntmps26
  go_wp2_with (first | ((with_reducible refine Zao (N := 1) rfl ?_); refine Zap ?hg (N := 1) ?hd (cs := #[.string a0_0, .int .i64 a0_1, .int .i64 a0_2, .string a0_3]) (t := 31) ?hr ?_; (case hd => rfl); (case hg => rfl); (case hr => first | (go_simp; done) | (go_simp; rfl)); intro gb154 hg w24 hbox hb; have BK154 := Zaa.mk (hbox); have GW154 := Zaa.mk ((by rw [hg]; exact (Zae (zb1 HB)) : w.heap.size ≤ gb154)); have GE154 := Zaa.mk ((by rw [hg]; exact (Zae (zb1 HB)) : w.heap.size ≤ gb154)); replace HB := Zaa.mk (Zaf (zb1 HB) hb); clear hb hbox hg; obtain ⟨hcz25_0, hcz25_1, hcz25_2, hcz25_3⟩ := bc4 BK154.out; obtain ⟨hfz25_0, hfz25_1, hfz25_2, hfz25_3⟩ := bf4 BK154.out) | ((with_reducible refine Zal (f := 75) rfl ?_); refine Za2 (some 6) rfl rfl Tryd.func75 (by kernel_rfl) rfl #[.string a0_0] rfl zam ?_; (with_reducible refine (value_name.calls k a0_0 false _ A2.out).mono ?_); rintro e w' ⟨rfl, ⟨nd, rfl⟩⟩; refine ⟨_, rfl, ?_⟩))
  go_ret
  exact ⟨by first | rfl | (simp [errW_none, errW_some] <;> rfl) | (simp [*, errW_none, errW_some] <;> rfl), (zb2 HB GE154.out)⟩
end Go.Proofs.YtkfddpbmclbdhaaDoor.PA
end
