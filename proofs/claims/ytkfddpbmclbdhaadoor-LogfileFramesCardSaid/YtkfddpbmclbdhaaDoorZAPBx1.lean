/- Contracts of functions of the program: written by pr2.py (ours, round the print of the kit) out of the translation; conditions: each contract names its own. -/
import Derived.Test.YtkfddpbmclbdhaaDoorZAPW
import Derived.Test.YtkfddpbmclbdhaaDoorZAWMore
section
namespace Go.Proofs.YtkfddpbmclbdhaaDoor.PB
open Go.RowKit Go.Proofs.YtkfddpbmclbdhaaDoorW.PrintWords Go.Proofs.YtkfddpbmclbdhaaDoorW.PrintLast Go.Proofs.YtkfddpbmclbdhaaDoorW.PrintMore
attribute [local go_sem] Zaz Zax Za5 Za4 Zas Zar Zay Zaw   -- for this text's walks alone
set_option linter.unusedVariables false
set_option linter.unusedSimpArgs false
def errW : Option Int → Value
 | none => .nilIface
 | some c => .iface 0 (.int .i64 c)
theorem errW_none : errW none = .nilIface := rfl
theorem errW_some (c : Int) : errW (some c) = .iface 0 (.int .i64 c) := rfl
-- the values' own types
end Go.Proofs.YtkfddpbmclbdhaaDoor.PB
end
section
namespace Go.Proofs.YtkfddpbmclbdhaaDoor.PB
open Go.RowKit Go.Proofs.YtkfddpbmclbdhaaDoorW.PrintWords Go.Proofs.YtkfddpbmclbdhaaDoorW.PrintLast Go.Proofs.YtkfddpbmclbdhaaDoorW.PrintMore
attribute [local go_sem] Zaz Zax Za5 Za4 Zas Zar Zay Zaw   -- for this text's walks alone
set_option linter.unusedVariables false
set_option linter.unusedSimpArgs false
def value_safe.l0 : Nat → ByteArray → Int → Int → Option (Bool)
 | 0, _, _, _ => none
 | k + 1, x0, x5, x6 => if x6 < x5 then (if 0 ≤ x6 then (if x6 < (x0.size : Int) then (if (bt x0 x6) < 33 then (some false) else (if (bt x0 x6) > 126 then (some false) else (if (bt x0 x6) = 34 then (some false) else (value_safe.l0 k x0 x5 (wrap64 (x6 + 1)))))) else (none)) else (none)) else (some true)
def value_safe.f (k : Nat) (a0 : ByteArray) : Option (Bool) := value_safe.l0 k a0 (a0.size : Int) 0
theorem value_safe.mono_l : ∀ k, (∀ y0 y1 y2, LeO (value_safe.l0 k y0 y1 y2) (value_safe.l0 (k + 1) y0 y1 y2))
 | 0 => fun _ _ _ r h => by simp [value_safe.l0] at h
 | k + 1 => by
  have ih0 := value_safe.mono_l k
  ·intro y0 y1 y2
   unfold value_safe.l0
   repeat' first
   | (with_reducible exact ih0 _ _ _)
   | (with_reducible exact LeO.refl _)
   | (with_reducible exact LeO.none _)
   | (with_reducible refine LeO.ite ?_ ?_)
   | (with_reducible refine LeO.bind ?_ (fun _ => ?_))
   | exact ih0 _ _ _
   | exact LeO.none _
   | refine LeO.ite ?_ ?_
   | refine LeO.bind ?_ (fun _ => ?_)
theorem value_safe.mono : ∀ a0 k, LeO (value_safe.f k a0) (value_safe.f (k + 1) a0) := by
 intro a0 k
 have ih0 := value_safe.mono_l k
 unfold value_safe.f
 repeat' first
   | (with_reducible exact ih0 _ _ _)
   | (with_reducible exact LeO.refl _)
   | (with_reducible exact LeO.none _)
   | (with_reducible refine LeO.ite ?_ ?_)
   | (with_reducible refine LeO.bind ?_ (fun _ => ?_))
   | exact ih0 _ _ _
   | exact LeO.none _
   | refine LeO.ite ?_ ?_
   | refine LeO.bind ?_ (fun _ => ?_)
set_option maxHeartbeats 8000000 in
set_option maxRecDepth 100000 in
theorem value_safe.calls (k : Nat) (a0 : ByteArray) (r : Bool) (w : World) (h : value_safe.f k a0 = some r) :
  Calls Tryd.prog 69 #[.string a0] w fun e w' => e = .returned (.bool r) ∧ Zat w w' := by
 unfold value_safe.f at h
 have H := h
 clear h
 have H' := Zaa.mk H
 clear H
 go_enter Tryd.func69, Tryd.ntmps69
 go_wp2
 go_loopg [6] k (fun kq v6 w' => ∃ (x6_1 : Int), v6 = .int .i64 x6_1 ∧ Zaa (value_safe.l0 kq a0 (a0.size : Int) x6_1 = some r) ∧ Zaa (kq ≤ k) ∧ Zat w w')
 case atStart => exact ⟨(0), (by first | rfl | (simp; done) | (simp [*]; done)), H', ⟨Nat.le_refl _⟩, by repeat (first | exact Zat.refl _ | apply Zat.step)⟩
 case round =>
  clear H'
  obtain ⟨x6_1, rfl, HA, HK1, ⟨m1, rfl⟩⟩ := hrel
  cases gk with
  | zero => exact absurd HA.out (by simp [value_safe.l0])
  | succ k1 =>
   have H := HA.out
   clear HA
   simp only [value_safe.l0] at H
   by_cases c2 : x6_1 < (a0.size : Int)
   ·rw [if_pos c2] at H
    have c2b0 : decide (x6_1 < (a0.size : Int)) = true := decide_eq_true c2
    clear c2
    by_cases c3 : 0 ≤ x6_1
    ·rw [if_pos c3] at H
     have c3b0 : decide (0 ≤ x6_1) = true := decide_eq_true c3
     clear c3
     by_cases c4 : x6_1 < (a0.size : Int)
     ·rw [if_pos c4] at H
      have c4b0 : decide (x6_1 < (a0.size : Int)) = true := decide_eq_true c4
      clear c4
      by_cases c6 : (bt a0 x6_1) < 33
      ·rw [if_pos c6] at H
       have c6b0 : decide ((bt a0 x6_1) < 33) = true := decide_eq_true c6
       clear c6
       obtain rfl := Option.some.inj H
       have p5 : 0 ≤ (x6_1 : Int) := zod
       have q5 : x6_1 < (a0.size : Int) := zod
       have hx5 := Zbc a0 x6_1
       replace p5 := eq_true p5
       replace q5 := eq_true q5
       go_wp2
       go_ret
       exact ⟨by first | rfl | (simp; done) | (simp [*]; done), by repeat (first | exact Zat.refl _ | apply Zat.step)⟩
      ·rw [if_neg c6] at H
       have c6b0 : decide ((bt a0 x6_1) < 33) = false := decide_eq_false c6
       clear c6
       by_cases c8 : (bt a0 x6_1) > 126
       ·rw [if_pos c8] at H
        have c8b0 : decide (126 < (bt a0 x6_1)) = true := decide_eq_true c8
        clear c8
        obtain rfl := Option.some.inj H
        have p5 : 0 ≤ (x6_1 : Int) := zod
        have q5 : x6_1 < (a0.size : Int) := zod
        have hx5 := Zbc a0 x6_1
        replace p5 := eq_true p5
        replace q5 := eq_true q5
        have p7 : 0 ≤ (x6_1 : Int) := zod
        have q7 : x6_1 < (a0.size : Int) := zod
        have hx7 := Zbc a0 x6_1
        replace p7 := eq_true p7
        replace q7 := eq_true q7
        go_wp2
        go_ret
        exact ⟨by first | rfl | (simp; done) | (simp [*]; done), by repeat (first | exact Zat.refl _ | apply Zat.step)⟩
       ·rw [if_neg c8] at H
        have c8b0 : decide (126 < (bt a0 x6_1)) = false := decide_eq_false c8
        clear c8
        by_cases c10 : (bt a0 x6_1) = 34
        ·rw [if_pos c10] at H
         have c10b0 : ((bt a0 x6_1) == 34) = true := beq_iff_eq.mpr c10
         have c10b1 : ((bt a0 x6_1) != 34) = false := bne_eq_false_iff_eq.mpr c10
         clear c10
         obtain rfl := Option.some.inj H
         have p5 : 0 ≤ (x6_1 : Int) := zod
         have q5 : x6_1 < (a0.size : Int) := zod
         have hx5 := Zbc a0 x6_1
         replace p5 := eq_true p5
         replace q5 := eq_true q5
         have p7 : 0 ≤ (x6_1 : Int) := zod
         have q7 : x6_1 < (a0.size : Int) := zod
         have hx7 := Zbc a0 x6_1
         replace p7 := eq_true p7
         replace q7 := eq_true q7
         have p9 : 0 ≤ (x6_1 : Int) := zod
         have q9 : x6_1 < (a0.size : Int) := zod
         have hx9 := Zbc a0 x6_1
         replace p9 := eq_true p9
         replace q9 := eq_true q9
         go_wp2
         go_ret
         exact ⟨by first | rfl | (simp; done) | (simp [*]; done), by repeat (first | exact Zat.refl _ | apply Zat.step)⟩
        ·rw [if_neg c10] at H
         have c10b0 : ((bt a0 x6_1) == 34) = false := beq_eq_false_iff_ne.mpr c10
         have c10b1 : ((bt a0 x6_1) != 34) = true := bne_iff_ne.mpr c10
         have H' := Zaa.mk H
         clear H
         have p5 : 0 ≤ (x6_1 : Int) := zod
         have q5 : x6_1 < (a0.size : Int) := zod
         have hx5 := Zbc a0 x6_1
         replace p5 := eq_true p5
         replace q5 := eq_true q5
         have p7 : 0 ≤ (x6_1 : Int) := zod
         have q7 : x6_1 < (a0.size : Int) := zod
         have hx7 := Zbc a0 x6_1
         replace p7 := eq_true p7
         replace q7 := eq_true q7
         have p9 : 0 ≤ (x6_1 : Int) := zod
         have q9 : x6_1 < (a0.size : Int) := zod
         have hx9 := Zbc a0 x6_1
         replace p9 := eq_true p9
         replace q9 := eq_true q9
         go_wp2
         go_roundg k1
         case measure => have := HK1.out; omega
         case rel => exact ⟨(wrap64 (x6_1 + 1)), (by first | rfl | (simp; done) | (simp [*]; done)), H', ⟨by have := HK1.out; omega⟩, by repeat (first | exact Zat.refl _ | apply Zat.step)⟩
     ·rw [if_neg c4] at H
      exact absurd H (by simp)
    ·rw [if_neg c3] at H
     exact absurd H (by simp)
   ·rw [if_neg c2] at H
    have c2b0 : decide (x6_1 < (a0.size : Int)) = false := decide_eq_false c2
    clear c2
    obtain rfl := Option.some.inj H
    go_wp2
    go_ret
    exact ⟨by first | rfl | (simp; done) | (simp [*]; done), by repeat (first | exact Zat.refl _ | apply Zat.step)⟩
end Go.Proofs.YtkfddpbmclbdhaaDoor.PB
end
