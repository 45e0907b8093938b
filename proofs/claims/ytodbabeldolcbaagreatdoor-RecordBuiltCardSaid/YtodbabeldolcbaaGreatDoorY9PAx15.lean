/- Contracts of functions of the program: written by pr2.py (ours, round the print of the kit) out of the translation; conditions: each contract names its own. -/
import Derived.Test.YtodbabeldolcbaaGreatDoorY9PAx6
namespace Go.Proofs.YtodbabeldolcbaaGreatDoor.PA
open Go.RowKit Go.Proofs.YtodbabeldolcbaaGreatDoorW.PrintWords Go.Proofs.YtodbabeldolcbaaGreatDoorW.PrintLast Go.Proofs.YtodbabeldolcbaaGreatDoorW.PrintMore
attribute [local go_sem] Zbg Zbe Zbs Zbr Za8 Za7 Zbf Zbd   -- for this text's walks alone
set_option linter.unusedVariables false
set_option linter.unusedSimpArgs false
mutual
def kauditref02_ReadNumber.l0 : Nat → ByteArray → Int → Int → Option (Int × Bool)
 | 0, _, _, _ => none
 | k + 1, x0, x4, x5 => if x5 < (x0.size : Int) then (kauditref02_ReadNumber.j1 k x0 x4 x5 (decide ((x0.size : Int) ≤ 20))) else (kauditref02_ReadNumber.j1 k x0 x4 x5 false)
def kauditref02_ReadNumber.j1 : Nat → ByteArray → Int → Int → Bool → Option (Int × Bool)
 | 0, _, _, _, _ => none
 | k + 1, x0, x4, x5, x14 => if x14 = true then (if 0 ≤ x5 then (if x5 < (x0.size : Int) then (if (bt x0 x5) ≥ 48 then (if (bt x0 x5) ≤ 57 then (kauditref02_ReadNumber.l0 k x0 (wrap64 ((wrap64 (x4 * 10)) - (((bt x0 x5) - 48) % 256))) (wrap64 (x5 + 1))) else (kauditref02_ReadNumber.l0 k x0 x4 (wrap64 (x5 + 1)))) else (kauditref02_ReadNumber.l0 k x0 x4 (wrap64 (x5 + 1)))) else (none)) else (none)) else (if (x0.size : Int) > 0 then (if 0 < (x0.size : Int) then (if (bt x0 0) = 45 then ((kauditref02_Number.f x4).bind fun t307 => (some (x4, (t307.toList == x0.toList)))) else ((kauditref02_Number.f (wrap64 (-x4))).bind fun t308 => (some (wrap64 (-x4), (t308.toList == x0.toList))))) else (none)) else ((kauditref02_Number.f x4).bind fun t309 => (some (x4, (t309.toList == x0.toList)))))
end
def kauditref02_ReadNumber.f (k : Nat) (a0 : ByteArray) : Option (Int × Bool) := kauditref02_ReadNumber.l0 k a0 0 0
theorem kauditref02_ReadNumber.mono_l : ∀ k, (∀ y0 y1 y2, LeO (kauditref02_ReadNumber.l0 k y0 y1 y2) (kauditref02_ReadNumber.l0 (k + 1) y0 y1 y2)) ∧ (∀ y0 y1 y2 y3, LeO (kauditref02_ReadNumber.j1 k y0 y1 y2 y3) (kauditref02_ReadNumber.j1 (k + 1) y0 y1 y2 y3))
 | 0 => ⟨fun _ _ _ r h => by simp [kauditref02_ReadNumber.l0] at h, fun _ _ _ _ r h => by simp [kauditref02_ReadNumber.j1] at h⟩
 | k + 1 => by
  obtain ⟨ih0, ih1⟩ := kauditref02_ReadNumber.mono_l k
  refine ⟨?_, ?_⟩
  ·intro y0 y1 y2
   unfold kauditref02_ReadNumber.l0
   repeat' first
   | (with_reducible exact ih0 _ _ _)
   | (with_reducible exact ih1 _ _ _ _)
   | (with_reducible exact LeO.refl _)
   | (with_reducible exact LeO.none _)
   | (with_reducible refine LeO.ite ?_ ?_)
   | (with_reducible refine LeO.bind ?_ (fun _ => ?_))
   | exact ih0 _ _ _
   | exact ih1 _ _ _ _
   | exact LeO.none _
   | refine LeO.ite ?_ ?_
   | refine LeO.bind ?_ (fun _ => ?_)
  ·intro y0 y1 y2 y3
   unfold kauditref02_ReadNumber.j1
   repeat' first
   | (with_reducible exact ih0 _ _ _)
   | (with_reducible exact ih1 _ _ _ _)
   | (with_reducible exact LeO.refl _)
   | (with_reducible exact LeO.none _)
   | (with_reducible refine LeO.ite ?_ ?_)
   | (with_reducible refine LeO.bind ?_ (fun _ => ?_))
   | exact ih0 _ _ _
   | exact ih1 _ _ _ _
   | exact LeO.none _
   | refine LeO.ite ?_ ?_
   | refine LeO.bind ?_ (fun _ => ?_)
theorem kauditref02_ReadNumber.mono : ∀ a0 k, LeO (kauditref02_ReadNumber.f k a0) (kauditref02_ReadNumber.f (k + 1) a0) := by
 intro a0 k
 obtain ⟨ih0, ih1⟩ := kauditref02_ReadNumber.mono_l k
 unfold kauditref02_ReadNumber.f
 repeat' first
   | (with_reducible exact ih0 _ _ _)
   | (with_reducible exact ih1 _ _ _ _)
   | (with_reducible exact LeO.refl _)
   | (with_reducible exact LeO.none _)
   | (with_reducible refine LeO.ite ?_ ?_)
   | (with_reducible refine LeO.bind ?_ (fun _ => ?_))
   | exact ih0 _ _ _
   | exact ih1 _ _ _ _
   | exact LeO.none _
   | refine LeO.ite ?_ ?_
   | refine LeO.bind ?_ (fun _ => ?_)
set_option maxHeartbeats 8000000 in
set_option maxRecDepth 100000 in
theorem kauditref02_ReadNumber.calls (k : Nat) (a0 : ByteArray) (r1 : Int) (r2 : Bool) (w : World) (h : kauditref02_ReadNumber.f k a0 = some (r1, r2)) :
  Calls Tryz.prog 126 #[.string a0] w fun e w' => e = .returned (.tuple #[.int .i64 r1, .bool r2]) ∧ Zao w w' := by
 unfold kauditref02_ReadNumber.f at h
 have H := h
 clear h
 have H' := Zaa.mk H
 clear H
 go_enter Tryz.func126, Tryz.ntmps126
 go_wp2
 go_loopg [4, 5] k (fun kq v4 v5 w' => ∃ (x4_1 : Int) (x5_1 : Int), v4 = .int .i64 x4_1 ∧ v5 = .int .i64 x5_1 ∧ Zaa (kauditref02_ReadNumber.l0 kq a0 x4_1 x5_1 = some (r1, r2)) ∧ Zaa (kq ≤ k) ∧ Zao w w')
 case atStart => exact ⟨(0), (0), (by first | rfl | (simp; done) | (simp [*]; done)), (by first | rfl | (simp; done) | (simp [*]; done)), H', ⟨Nat.le_refl _⟩, by repeat (first | exact Zao.refl _ | apply Zao.step)⟩
 case round =>
  clear H'
  obtain ⟨x4_1, x5_1, rfl, rfl, HA, HK1, ⟨m1, rfl⟩⟩ := hrel
  cases gk with
  | zero => exact absurd HA.out (by simp [kauditref02_ReadNumber.l0])
  | succ k1 =>
   have H := HA.out
   clear HA
   simp only [kauditref02_ReadNumber.l0] at H
   have HC2 := Zaa.mk H
   clear H
   go_upto_region 3 with (fail)
   go_cut [14] (fun v14 wc => ∃ (kq : Nat) (x14_1 : Bool), v14 = .bool x14_1 ∧ Zaa (kauditref02_ReadNumber.j1 kq a0 x4_1 x5_1 x14_1 = some (r1, r2)) ∧ Zaa (kq ≤ k1) ∧ Zao w wc)
   case first =>
    have H := HC2.out
    clear HC2
    by_cases c3 : x5_1 < (a0.size : Int)
    ·rw [if_pos c3] at H
     have c3b0 : decide (x5_1 < (a0.size : Int)) = true := decide_eq_true c3
     clear c3
     (first | rw [c3b0] | (simp only [Zax, Zay]; rw [c3b0]) | skip)
     have H' := Zaa.mk H
     clear H
     go_wp2
     go_meet
     case rel => exact ⟨_, (decide ((a0.size : Int) ≤ 20)), (by first | rfl | (simp; done) | (simp [*]; done)), H', ⟨by have := HK1.out; first | omega | exact Nat.le_refl _⟩, by repeat (first | exact Zao.refl _ | apply Zao.step)⟩
    ·rw [if_neg c3] at H
     have c3b0 : decide (x5_1 < (a0.size : Int)) = false := decide_eq_false c3
     clear c3
     (first | rw [c3b0] | (simp only [Zax, Zay]; rw [c3b0]) | skip)
     have H' := Zaa.mk H
     clear H
     go_wp2
     go_meet
     case rel => exact ⟨_, (false), (by first | rfl | (simp; done) | (simp [*]; done)), H', ⟨by have := HK1.out; first | omega | exact Nat.le_refl _⟩, by repeat (first | exact Zao.refl _ | apply Zao.step)⟩
   case rest =>
    clear HC2
    obtain ⟨kq, x14_1, rfl, HA, HJ1, ⟨mc1, rfl⟩⟩ := hcut
    cases kq with
    | zero => exact absurd HA.out (by simp [kauditref02_ReadNumber.j1])
    | succ kj1 =>
     have H := HA.out
     clear HA
     simp only [kauditref02_ReadNumber.j1] at H
     by_cases c4 : x14_1 = true
     ·subst c4
      rw [if_pos rfl] at H
      by_cases c5 : 0 ≤ x5_1
      ·rw [if_pos c5] at H
       have c5b0 : decide (0 ≤ x5_1) = true := decide_eq_true c5
       clear c5
       by_cases c6 : x5_1 < (a0.size : Int)
       ·rw [if_pos c6] at H
        have c6b0 : decide (x5_1 < (a0.size : Int)) = true := decide_eq_true c6
        clear c6
        by_cases c8 : (bt a0 x5_1) ≥ 48
        ·rw [if_pos c8] at H
         have c8b0 : decide (48 ≤ (bt a0 x5_1)) = true := decide_eq_true c8
         clear c8
         by_cases c10 : (bt a0 x5_1) ≤ 57
         ·rw [if_pos c10] at H
          have c10b0 : decide ((bt a0 x5_1) ≤ 57) = true := decide_eq_true c10
          clear c10
          have H' := Zaa.mk H
          clear H
          have p7 : 0 ≤ (x5_1 : Int) := zod
          have q7 : x5_1 < (a0.size : Int) := zod
          have hx7 := Za0 a0 x5_1
          replace p7 := eq_true p7
          replace q7 := eq_true q7
          have p9 : 0 ≤ (x5_1 : Int) := zod
          have q9 : x5_1 < (a0.size : Int) := zod
          have hx9 := Za0 a0 x5_1
          replace p9 := eq_true p9
          replace q9 := eq_true q9
          have p11 : 0 ≤ (x5_1 : Int) := zod
          have q11 : x5_1 < (a0.size : Int) := zod
          have hx11 := Za0 a0 x5_1
          replace p11 := eq_true p11
          replace q11 := eq_true q11
          go_wp2
          go_roundg kj1
          case measure => have := HK1.out; have := HJ1.out; omega
          case rel => exact ⟨(wrap64 ((wrap64 (x4_1 * 10)) - (((bt a0 x5_1) - 48) % 256))), (wrap64 (x5_1 + 1)), (by first | rfl | (simp; done) | (simp [*]; done)), (by first | rfl | (simp; done) | (simp [*]; done)), H', ⟨by have := HK1.out; have := HJ1.out; omega⟩, by repeat (first | exact Zao.refl _ | apply Zao.step)⟩
         ·rw [if_neg c10] at H
          have c10b0 : decide ((bt a0 x5_1) ≤ 57) = false := decide_eq_false c10
          clear c10
          have H' := Zaa.mk H
          clear H
          have p7 : 0 ≤ (x5_1 : Int) := zod
          have q7 : x5_1 < (a0.size : Int) := zod
          have hx7 := Za0 a0 x5_1
          replace p7 := eq_true p7
          replace q7 := eq_true q7
          have p9 : 0 ≤ (x5_1 : Int) := zod
          have q9 : x5_1 < (a0.size : Int) := zod
          have hx9 := Za0 a0 x5_1
          replace p9 := eq_true p9
          replace q9 := eq_true q9
          go_wp2
          go_roundg kj1
          case measure => have := HK1.out; have := HJ1.out; omega
          case rel => exact ⟨(x4_1), (wrap64 (x5_1 + 1)), (by first | rfl | (simp; done) | (simp [*]; done)), (by first | rfl | (simp; done) | (simp [*]; done)), H', ⟨by have := HK1.out; have := HJ1.out; omega⟩, by repeat (first | exact Zao.refl _ | apply Zao.step)⟩
        ·rw [if_neg c8] at H
         have c8b0 : decide (48 ≤ (bt a0 x5_1)) = false := decide_eq_false c8
         clear c8
         have H' := Zaa.mk H
         clear H
         have p7 : 0 ≤ (x5_1 : Int) := zod
         have q7 : x5_1 < (a0.size : Int) := zod
         have hx7 := Za0 a0 x5_1
         replace p7 := eq_true p7
         replace q7 := eq_true q7
         go_wp2
         go_roundg kj1
         case measure => have := HK1.out; have := HJ1.out; omega
         case rel => exact ⟨(x4_1), (wrap64 (x5_1 + 1)), (by first | rfl | (simp; done) | (simp [*]; done)), (by first | rfl | (simp; done) | (simp [*]; done)), H', ⟨by have := HK1.out; have := HJ1.out; omega⟩, by repeat (first | exact Zao.refl _ | apply Zao.step)⟩
       ·rw [if_neg c6] at H
        exact absurd H (by simp)
      ·rw [if_neg c5] at H
       exact absurd H (by simp)
     ·replace c4 := Bool.eq_false_iff.mpr c4
      subst c4
      rw [if_neg (show ¬ (false = true) by decide)] at H
      by_cases c12 : (a0.size : Int) > 0
      ·rw [if_pos c12] at H
       have c12b0 : decide (0 < (a0.size : Int)) = true := decide_eq_true c12
       have c12b1 : decide (0 < a0.size) = true := decide_eq_true (by omega)
       clear c12
       by_cases c13 : 0 < (a0.size : Int)
       ·rw [if_pos c13] at H
        have c13b0 : decide (0 < (a0.size : Int)) = true := decide_eq_true c13
        have c13b1 : decide (0 < a0.size) = true := decide_eq_true (by omega)
        clear c13
        by_cases c15 : (bt a0 0) = 45
        ·rw [if_pos c15] at H
         have c15b0 : ((bt a0 0) == 45) = true := beq_iff_eq.mpr c15
         have c15b1 : ((bt a0 0) != 45) = false := bne_eq_false_iff_eq.mpr c15
         clear c15
         replace H := Option.bind_eq_some_iff.mp H
         obtain ⟨t307, A160, H⟩ := H
         try dsimp only at H
         have A16 := Zaa.mk A160
         clear A160
         simp only [Option.some.injEq, Prod.mk.injEq] at H
         obtain ⟨rfl, rfl⟩ := H
         have p14 : 0 ≤ (0 : Int) := (by omega)
         have q14 : 0 < a0.size := (by have : (0 : Int) < (a0.size : Int) := zod; omega)
         have hx14 : ∀ h : 0 < a0.size, ((a0[0]'h).toNat : Int) = bt a0 0 := Za0 a0 0
         clear p14
         have qi14 : (0 < (a0.size : Int)) = True := eq_true (zod)
         replace q14 := eq_true q14
         go_wp2_with (first | ((with_reducible refine Zam (f := 87) rfl ?_); refine Za1 (some 47) rfl rfl Tryz.func87 (by kernel_rfl) rfl #[.int .i64 x4_1] rfl zam ?_; (with_reducible refine (kauditref02_Number.calls x4_1 t307 _ A16.out).mono ?_); rintro e w' ⟨rfl, ⟨nd, rfl⟩⟩; refine ⟨_, rfl, ?_⟩))
         go_ret2
         exact ⟨by first | rfl | (simp; done) | (simp [*]; done), by repeat (first | exact Zao.refl _ | apply Zao.step)⟩
        ·rw [if_neg c15] at H
         have c15b0 : ((bt a0 0) == 45) = false := beq_eq_false_iff_ne.mpr c15
         have c15b1 : ((bt a0 0) != 45) = true := bne_iff_ne.mpr c15
         replace H := Option.bind_eq_some_iff.mp H
         obtain ⟨t308, A170, H⟩ := H
         try dsimp only at H
         have A17 := Zaa.mk A170
         clear A170
         simp only [Option.some.injEq, Prod.mk.injEq] at H
         obtain ⟨rfl, rfl⟩ := H
         have p14 : 0 ≤ (0 : Int) := (by omega)
         have q14 : 0 < a0.size := (by have : (0 : Int) < (a0.size : Int) := zod; omega)
         have hx14 : ∀ h : 0 < a0.size, ((a0[0]'h).toNat : Int) = bt a0 0 := Za0 a0 0
         clear p14
         have qi14 : (0 < (a0.size : Int)) = True := eq_true (zod)
         replace q14 := eq_true q14
         go_wp2_with (first | ((with_reducible refine Zam (f := 87) rfl ?_); refine Za1 (some 47) rfl rfl Tryz.func87 (by kernel_rfl) rfl #[.int .i64 (wrap64 (-x4_1))] rfl zam ?_; (with_reducible refine (kauditref02_Number.calls (wrap64 (-x4_1)) t308 _ A17.out).mono ?_); rintro e w' ⟨rfl, ⟨nd, rfl⟩⟩; refine ⟨_, rfl, ?_⟩))
         go_ret2
         exact ⟨by first | rfl | (simp; done) | (simp [*]; done), by repeat (first | exact Zao.refl _ | apply Zao.step)⟩
       ·rw [if_neg c13] at H
        exact absurd H (by simp)
      ·rw [if_neg c12] at H
       have c12b0 : decide (0 < (a0.size : Int)) = false := decide_eq_false c12
       have c12b1 : decide (0 < a0.size) = false := decide_eq_false (by omega)
       clear c12
       replace H := Option.bind_eq_some_iff.mp H
       obtain ⟨t309, A180, H⟩ := H
       try dsimp only at H
       have A18 := Zaa.mk A180
       clear A180
       simp only [Option.some.injEq, Prod.mk.injEq] at H
       obtain ⟨rfl, rfl⟩ := H
       go_wp2_with (first | ((with_reducible refine Zam (f := 87) rfl ?_); refine Za1 (some 47) rfl rfl Tryz.func87 (by kernel_rfl) rfl #[.int .i64 x4_1] rfl zam ?_; (with_reducible refine (kauditref02_Number.calls x4_1 t309 _ A18.out).mono ?_); rintro e w' ⟨rfl, ⟨nd, rfl⟩⟩; refine ⟨_, rfl, ?_⟩))
       go_ret2
       exact ⟨by first | rfl | (simp; done) | (simp [*]; done), by repeat (first | exact Zao.refl _ | apply Zao.step)⟩
def kauditref02_value.l0 : Nat → Int → Int → Option (Int)
 | 0, _, _ => none
 | k + 1, x0, x3 => if x3 < 16 then (if 0 ≤ x3 then (if (bt (⟨#[48, 49, 50, 51, 52, 53, 54, 55, 56, 57, 97, 98, 99, 100, 101, 102]⟩ : ByteArray) x3) = x0 then (some x3) else (kauditref02_value.l0 k x0 (wrap64 (x3 + 1)))) else (none)) else (some (-1))
def kauditref02_value.f (k : Nat) (a0 : Int) : Option (Int) := kauditref02_value.l0 k a0 0
theorem kauditref02_value.mono_l : ∀ k, (∀ y0 y1, LeO (kauditref02_value.l0 k y0 y1) (kauditref02_value.l0 (k + 1) y0 y1))
 | 0 => fun _ _ r h => by simp [kauditref02_value.l0] at h
 | k + 1 => by
  have ih0 := kauditref02_value.mono_l k
  ·intro y0 y1
   unfold kauditref02_value.l0
   repeat' first
   | (with_reducible exact ih0 _ _)
   | (with_reducible exact LeO.refl _)
   | (with_reducible exact LeO.none _)
   | (with_reducible refine LeO.ite ?_ ?_)
   | (with_reducible refine LeO.bind ?_ (fun _ => ?_))
   | exact ih0 _ _
   | exact LeO.none _
   | refine LeO.ite ?_ ?_
   | refine LeO.bind ?_ (fun _ => ?_)
theorem kauditref02_value.mono : ∀ a0 k, LeO (kauditref02_value.f k a0) (kauditref02_value.f (k + 1) a0) := by
 intro a0 k
 have ih0 := kauditref02_value.mono_l k
 unfold kauditref02_value.f
 repeat' first
   | (with_reducible exact ih0 _ _)
   | (with_reducible exact LeO.refl _)
   | (with_reducible exact LeO.none _)
   | (with_reducible refine LeO.ite ?_ ?_)
   | (with_reducible refine LeO.bind ?_ (fun _ => ?_))
   | exact ih0 _ _
   | exact LeO.none _
   | refine LeO.ite ?_ ?_
   | refine LeO.bind ?_ (fun _ => ?_)
set_option maxHeartbeats 8000000 in
set_option maxRecDepth 100000 in
theorem kauditref02_value.calls (k : Nat) (a0 : Int) (r : Int) (w : World) (h : kauditref02_value.f k a0 = some r) :
  Calls Tryz.prog 145 #[.int .u8 a0] w fun e w' => e = .returned (.int .i64 r) ∧ Zao w w' := by
 unfold kauditref02_value.f at h
 have H := h
 clear h
 have H' := Zaa.mk H
 clear H
 go_enter Tryz.func145, Tryz.ntmps145
 go_wp2
 go_loopg [3] k (fun kq v3 w' => ∃ (x3_1 : Int), v3 = .int .i64 x3_1 ∧ Zaa (kauditref02_value.l0 kq a0 x3_1 = some r) ∧ Zaa (kq ≤ k) ∧ Zao w w')
 case atStart => exact ⟨(0), (by first | rfl | (simp; done) | (simp [*]; done)), H', ⟨Nat.le_refl _⟩, by repeat (first | exact Zao.refl _ | apply Zao.step)⟩
 case round =>
  clear H'
  obtain ⟨x3_1, rfl, HA, HK1, ⟨m1, rfl⟩⟩ := hrel
  cases gk with
  | zero => exact absurd HA.out (by simp [kauditref02_value.l0])
  | succ k1 =>
   have H := HA.out
   clear HA
   simp only [kauditref02_value.l0] at H
   by_cases c2 : x3_1 < 16
   ·rw [if_pos c2] at H
    have c2b0 : decide (x3_1 < 16) = true := decide_eq_true c2
    clear c2
    by_cases c3 : 0 ≤ x3_1
    ·rw [if_pos c3] at H
     have c3b0 : decide (0 ≤ x3_1) = true := decide_eq_true c3
     clear c3
     by_cases c5 : (bt (⟨#[48, 49, 50, 51, 52, 53, 54, 55, 56, 57, 97, 98, 99, 100, 101, 102]⟩ : ByteArray) x3_1) = a0
     ·rw [if_pos c5] at H
      have c5b0 : ((bt (⟨#[48, 49, 50, 51, 52, 53, 54, 55, 56, 57, 97, 98, 99, 100, 101, 102]⟩ : ByteArray) x3_1) == a0) = true := beq_iff_eq.mpr c5
      have c5b1 : ((bt (⟨#[48, 49, 50, 51, 52, 53, 54, 55, 56, 57, 97, 98, 99, 100, 101, 102]⟩ : ByteArray) x3_1) != a0) = false := bne_eq_false_iff_eq.mpr c5
      clear c5
      obtain rfl := Option.some.inj H
      have p4 : 0 ≤ (x3_1 : Int) := zod
      have q4 : x3_1 < (16 : Int) := zod
      have hx4 := Za0 (⟨#[48, 49, 50, 51, 52, 53, 54, 55, 56, 57, 97, 98, 99, 100, 101, 102]⟩ : ByteArray) x3_1
      replace p4 := eq_true p4
      replace q4 := eq_true q4
      go_wp2
      go_ret
      exact ⟨by first | rfl | (simp; done) | (simp [*]; done), by repeat (first | exact Zao.refl _ | apply Zao.step)⟩
     ·rw [if_neg c5] at H
      have c5b0 : ((bt (⟨#[48, 49, 50, 51, 52, 53, 54, 55, 56, 57, 97, 98, 99, 100, 101, 102]⟩ : ByteArray) x3_1) == a0) = false := beq_eq_false_iff_ne.mpr c5
      have c5b1 : ((bt (⟨#[48, 49, 50, 51, 52, 53, 54, 55, 56, 57, 97, 98, 99, 100, 101, 102]⟩ : ByteArray) x3_1) != a0) = true := bne_iff_ne.mpr c5
      have H' := Zaa.mk H
      clear H
      have p4 : 0 ≤ (x3_1 : Int) := zod
      have q4 : x3_1 < (16 : Int) := zod
      have hx4 := Za0 (⟨#[48, 49, 50, 51, 52, 53, 54, 55, 56, 57, 97, 98, 99, 100, 101, 102]⟩ : ByteArray) x3_1
      replace p4 := eq_true p4
      replace q4 := eq_true q4
      go_wp2
      go_roundg k1
      case measure => have := HK1.out; omega
      case rel => exact ⟨(wrap64 (x3_1 + 1)), (by first | rfl | (simp; done) | (simp [*]; done)), H', ⟨by have := HK1.out; omega⟩, by repeat (first | exact Zao.refl _ | apply Zao.step)⟩
    ·rw [if_neg c3] at H
     exact absurd H (by simp)
   ·rw [if_neg c2] at H
    have c2b0 : decide (x3_1 < 16) = false := decide_eq_false c2
    clear c2
    obtain rfl := Option.some.inj H
    go_wp2
    go_ret
    exact ⟨by first | rfl | (simp; done) | (simp [*]; done), by repeat (first | exact Zao.refl _ | apply Zao.step)⟩
end Go.Proofs.YtodbabeldolcbaaGreatDoor.PA
