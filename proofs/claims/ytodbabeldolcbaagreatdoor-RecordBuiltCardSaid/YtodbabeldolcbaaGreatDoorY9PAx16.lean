/- Contracts of functions of the program: written by pr2.py (ours, round the print of the kit) out of the translation; conditions: each contract names its own. -/
import Derived.Test.YtodbabeldolcbaaGreatDoorY9PAx15
namespace Go.Proofs.YtodbabeldolcbaaGreatDoor.PA
open Go.RowKit Go.Proofs.YtodbabeldolcbaaGreatDoorW.PrintWords Go.Proofs.YtodbabeldolcbaaGreatDoorW.PrintLast Go.Proofs.YtodbabeldolcbaaGreatDoorW.PrintMore
attribute [local go_sem] Zbg Zbe Zbs Zbr Za8 Za7 Zbf Zbd   -- for this text's walks alone
set_option linter.unusedVariables false
set_option linter.unusedSimpArgs false
mutual
def kauditref02_Unquote.j0 : Nat → ByteArray → ByteArray → Bool → Option (ByteArray × Int)
 | 0, _, _, _ => none
 | k + 1, x0, x4, x17 => if x17 = true then (if 1 ≤ (wrap64 ((x0.size : Int) - 1)) then (if (wrap64 ((x0.size : Int) - 1)) ≤ (x0.size : Int) then ((kauditref02_Quote.f k (x0.extract 1 ((wrap64 ((x0.size : Int) - 1)) : Int).toNat)).bind fun bt310 => (if bt310.2 = 0 then (if bt310.1.toList = x0.toList then (some (x0.extract 1 ((wrap64 ((x0.size : Int) - 1)) : Int).toNat, 0)) else (some ((⟨#[]⟩ : ByteArray), 21))) else (some ((⟨#[]⟩ : ByteArray), 21)))) else (none)) else (none)) else (if (x0.size : Int) ≥ 3 then (if 0 < (x0.size : Int) then (if (bt x0 0) = 120 then (if ((x0.size : Int) % 2) = 1 then (kauditref02_Unquote.j1 k x0 x4 (decide ((x0.size : Int) ≤ 1281))) else (kauditref02_Unquote.j1 k x0 x4 false)) else (kauditref02_Unquote.j1 k x0 x4 false)) else (none)) else (kauditref02_Unquote.j1 k x0 x4 false))
def kauditref02_Unquote.j1 : Nat → ByteArray → ByteArray → Bool → Option (ByteArray × Int)
 | 0, _, _, _ => none
 | k + 1, x0, x4, x41 => if x41 = true then (kauditref02_Unquote.l0 k x0 x4 1) else ((kauditref02_Quote.f k x4).bind fun bt319 => (if bt319.2 = 0 then (if bt319.1.toList = x0.toList then (some (x4, 0)) else (some ((⟨#[]⟩ : ByteArray), 21))) else (some ((⟨#[]⟩ : ByteArray), 21))))
def kauditref02_Unquote.l0 : Nat → ByteArray → ByteArray → Int → Option (ByteArray × Int)
 | 0, _, _, _ => none
 | k + 1, x0, x4, x5 => if x5 < (x0.size : Int) then (if 0 ≤ x5 then ((kauditref02_value.f k (bt x0 x5)).bind fun t314 => (if 0 ≤ (wrap64 (x5 + 1)) then (if (wrap64 (x5 + 1)) < (x0.size : Int) then ((kauditref02_value.f k (bt x0 (wrap64 (x5 + 1)))).bind fun t315 => (if t314 < 0 then (some ((⟨#[]⟩ : ByteArray), 21)) else (if t315 < 0 then (some ((⟨#[]⟩ : ByteArray), 21)) else ((some (([(wrap64 ((wrap64 (16 * t314)) + t315)) % 256] : List Int) : List Int)).bind fun y316 => (if x4.size + (strOfNums y316).size ≤ 9223372036854775807 then (kauditref02_Unquote.l0 k x0 (x4 ++ (strOfNums y316)) (wrap64 (x5 + 2))) else (none)))))) else (none)) else (none))) else (none)) else ((kauditref02_Quote.f k x4).bind fun bt312 => (if bt312.2 = 0 then (if bt312.1.toList = x0.toList then (some (x4, 0)) else (some ((⟨#[]⟩ : ByteArray), 21))) else (some ((⟨#[]⟩ : ByteArray), 21))))
end
def kauditref02_Unquote.f (k : Nat) (a0 : ByteArray) : Option (ByteArray × Int) := if (a0.size : Int) ≥ 2 then (if 0 < (a0.size : Int) then (kauditref02_Unquote.j0 k a0 (⟨#[]⟩ : ByteArray) ((bt a0 0) == 34)) else (none)) else (kauditref02_Unquote.j0 k a0 (⟨#[]⟩ : ByteArray) false)
theorem kauditref02_Unquote.mono_l : ∀ k, (∀ y0 y1 y2, LeO (kauditref02_Unquote.j0 k y0 y1 y2) (kauditref02_Unquote.j0 (k + 1) y0 y1 y2)) ∧ (∀ y0 y1 y2, LeO (kauditref02_Unquote.j1 k y0 y1 y2) (kauditref02_Unquote.j1 (k + 1) y0 y1 y2)) ∧ (∀ y0 y1 y2, LeO (kauditref02_Unquote.l0 k y0 y1 y2) (kauditref02_Unquote.l0 (k + 1) y0 y1 y2))
 | 0 => ⟨fun _ _ _ r h => by simp [kauditref02_Unquote.j0] at h, fun _ _ _ r h => by simp [kauditref02_Unquote.j1] at h, fun _ _ _ r h => by simp [kauditref02_Unquote.l0] at h⟩
 | k + 1 => by
  obtain ⟨ih0, ih1, ih2⟩ := kauditref02_Unquote.mono_l k
  refine ⟨?_, ?_, ?_⟩
  ·intro y0 y1 y2
   unfold kauditref02_Unquote.j0
   repeat' first
   | (with_reducible exact ih0 _ _ _)
   | (with_reducible exact ih1 _ _ _)
   | (with_reducible exact ih2 _ _ _)
   | (with_reducible exact kauditref02_Quote.mono _ _)
   | (with_reducible exact kauditref02_value.mono _ _)
   | (with_reducible exact LeO.refl _)
   | (with_reducible exact LeO.none _)
   | (with_reducible refine LeO.ite ?_ ?_)
   | (with_reducible refine LeO.bind ?_ (fun _ => ?_))
   | exact ih0 _ _ _
   | exact ih1 _ _ _
   | exact ih2 _ _ _
   | exact kauditref02_Quote.mono _ _
   | exact kauditref02_value.mono _ _
   | exact LeO.none _
   | refine LeO.ite ?_ ?_
   | refine LeO.bind ?_ (fun _ => ?_)
  ·intro y0 y1 y2
   unfold kauditref02_Unquote.j1
   repeat' first
   | (with_reducible exact ih0 _ _ _)
   | (with_reducible exact ih1 _ _ _)
   | (with_reducible exact ih2 _ _ _)
   | (with_reducible exact kauditref02_Quote.mono _ _)
   | (with_reducible exact kauditref02_value.mono _ _)
   | (with_reducible exact LeO.refl _)
   | (with_reducible exact LeO.none _)
   | (with_reducible refine LeO.ite ?_ ?_)
   | (with_reducible refine LeO.bind ?_ (fun _ => ?_))
   | exact ih0 _ _ _
   | exact ih1 _ _ _
   | exact ih2 _ _ _
   | exact kauditref02_Quote.mono _ _
   | exact kauditref02_value.mono _ _
   | exact LeO.none _
   | refine LeO.ite ?_ ?_
   | refine LeO.bind ?_ (fun _ => ?_)
  ·intro y0 y1 y2
   unfold kauditref02_Unquote.l0
   repeat' first
   | (with_reducible exact ih0 _ _ _)
   | (with_reducible exact ih1 _ _ _)
   | (with_reducible exact ih2 _ _ _)
   | (with_reducible exact kauditref02_Quote.mono _ _)
   | (with_reducible exact kauditref02_value.mono _ _)
   | (with_reducible exact LeO.refl _)
   | (with_reducible exact LeO.none _)
   | (with_reducible refine LeO.ite ?_ ?_)
   | (with_reducible refine LeO.bind ?_ (fun _ => ?_))
   | exact ih0 _ _ _
   | exact ih1 _ _ _
   | exact ih2 _ _ _
   | exact kauditref02_Quote.mono _ _
   | exact kauditref02_value.mono _ _
   | exact LeO.none _
   | refine LeO.ite ?_ ?_
   | refine LeO.bind ?_ (fun _ => ?_)
theorem kauditref02_Unquote.mono : ∀ a0 k, LeO (kauditref02_Unquote.f k a0) (kauditref02_Unquote.f (k + 1) a0) := by
 intro a0 k
 obtain ⟨ih0, ih1, ih2⟩ := kauditref02_Unquote.mono_l k
 unfold kauditref02_Unquote.f
 repeat' first
   | (with_reducible exact ih0 _ _ _)
   | (with_reducible exact ih1 _ _ _)
   | (with_reducible exact ih2 _ _ _)
   | (with_reducible exact kauditref02_Quote.mono _ _)
   | (with_reducible exact kauditref02_value.mono _ _)
   | (with_reducible exact LeO.refl _)
   | (with_reducible exact LeO.none _)
   | (with_reducible refine LeO.ite ?_ ?_)
   | (with_reducible refine LeO.bind ?_ (fun _ => ?_))
   | exact ih0 _ _ _
   | exact ih1 _ _ _
   | exact ih2 _ _ _
   | exact kauditref02_Quote.mono _ _
   | exact kauditref02_value.mono _ _
   | exact LeO.none _
   | refine LeO.ite ?_ ?_
   | refine LeO.bind ?_ (fun _ => ?_)
set_option maxHeartbeats 8000000 in
set_option maxRecDepth 100000 in
theorem kauditref02_Unquote.calls (k : Nat) (a0 : ByteArray) (r1 : ByteArray) (r2 : Int) (w : World) (h : kauditref02_Unquote.f k a0 = some (r1, r2)) :
  Calls Tryz.prog 127 #[.string a0] w fun e w' => e = .returned (.tuple #[.string r1, .int .i64 r2]) ∧ Below w.heap.size w w' := by
 have HB := Zaa.mk (Below.refl w.heap.size w)
 unfold kauditref02_Unquote.f at h
 have H := h
 clear h
 have HC2 := Zaa.mk H
 clear H
 go_enter Tryz.func127, Tryz.ntmps127
 go_upto_region 2 with (fail)
 repeat (go_quiet (fail); go_upto_region 2 with (fail))
 go_cut [17] (fun v17 wc => ∃ (kq : Nat) (x17_1 : Bool), v17 = .bool x17_1 ∧ Zaa (kauditref02_Unquote.j0 kq a0 (⟨#[]⟩ : ByteArray) x17_1 = some (r1, r2)) ∧ Zaa (kq ≤ k) ∧ Zaa (Below w.heap.size w wc))
 case first =>
  have H := HC2.out
  clear HC2
  by_cases c3 : (a0.size : Int) ≥ 2
  ·rw [if_pos c3] at H
   have c3b0 : decide (2 ≤ (a0.size : Int)) = true := decide_eq_true c3
   have c3b1 : decide (2 ≤ a0.size) = true := decide_eq_true (by omega)
   clear c3
   (first | rw [c3b0] | (simp only [Zax, Zay]; rw [c3b0]) | skip)
   by_cases c4 : 0 < (a0.size : Int)
   ·rw [if_pos c4] at H
    have c4b0 : decide (0 < (a0.size : Int)) = true := decide_eq_true c4
    have c4b1 : decide (0 < a0.size) = true := decide_eq_true (by omega)
    clear c4
    have H' := Zaa.mk H
    clear H
    have p5 : 0 ≤ (0 : Int) := (by omega)
    have q5 : 0 < a0.size := (by have : (0 : Int) < (a0.size : Int) := zod; omega)
    have hx5 : ∀ h : 0 < a0.size, ((a0[0]'h).toNat : Int) = bt a0 0 := Za0 a0 0
    clear p5
    have qi5 : (0 < (a0.size : Int)) = True := eq_true (zod)
    replace q5 := eq_true q5
    go_wp2
    repeat (go_quiet (fail); try go_wp2)
    go_meet
    case rel => exact ⟨_, (((bt a0 0) == 34)), (by first | rfl | (simp; done) | (simp [*]; done)), H', ⟨by first | omega | exact Nat.le_refl _⟩, ⟨(zb1 HB)⟩⟩
   ·rw [if_neg c4] at H
    exact absurd H (by simp)
  ·rw [if_neg c3] at H
   have c3b0 : decide (2 ≤ (a0.size : Int)) = false := decide_eq_false c3
   have c3b1 : decide (2 ≤ a0.size) = false := decide_eq_false (by omega)
   clear c3
   (first | rw [c3b0] | (simp only [Zax, Zay]; rw [c3b0]) | skip)
   have H' := Zaa.mk H
   clear H
   go_wp2
   repeat (go_quiet (fail); try go_wp2)
   go_meet
   case rel => exact ⟨_, (false), (by first | rfl | (simp; done) | (simp [*]; done)), H', ⟨by first | omega | exact Nat.le_refl _⟩, ⟨(zb1 HB)⟩⟩
 case rest =>
  clear HC2
  obtain ⟨kq, x17_1, rfl, HA, HJ1, HB⟩ := hcut
  cases kq with
  | zero => exact absurd HA.out (by simp [kauditref02_Unquote.j0])
  | succ kj1 =>
   have H := HA.out
   clear HA
   simp only [kauditref02_Unquote.j0] at H
   by_cases c6 : x17_1 = true
   ·subst c6
    rw [if_pos rfl] at H
    by_cases c7 : 1 ≤ (wrap64 ((a0.size : Int) - 1))
    ·rw [if_pos c7] at H
     have c7b0 := eq_true c7
     have c7b1 : decide (1 ≤ (wrap64 ((a0.size : Int) - 1))) = true := decide_eq_true c7
     clear c7
     by_cases c8 : (wrap64 ((a0.size : Int) - 1)) ≤ (a0.size : Int)
     ·rw [if_pos c8] at H
      have c8b0 := eq_true c8
      have c8b1 : decide ((wrap64 ((a0.size : Int) - 1)) ≤ (a0.size : Int)) = true := decide_eq_true c8
      clear c8
      replace H := Option.bind_eq_some_iff.mp H
      obtain ⟨⟨t310, t311⟩, A90, H⟩ := H
      try dsimp only at H
      have A9 := Zaa.mk A90
      clear A90
      by_cases c10 : t311 = 0
      ·rw [if_pos c10] at H
       have c10b0 : (t311 == 0) = true := beq_iff_eq.mpr c10
       have c10b1 : (t311 != 0) = false := bne_eq_false_iff_eq.mpr c10
       clear c10
       by_cases c11 : t310.toList = a0.toList
       ·rw [if_pos c11] at H
        have c11b0 : (t310.toList == a0.toList) = true := beq_iff_eq.mpr c11
        have c11b1 : (t310.toList != a0.toList) = false := bne_eq_false_iff_eq.mpr c11
        clear c11
        simp only [Option.some.injEq, Prod.mk.injEq] at H
        obtain ⟨rfl, rfl⟩ := H
        go_wp2_with (first | (go_at_call 88; (with_reducible refine (kauditref02_Quote.calls kj1 (a0.extract 1 ((wrap64 ((a0.size : Int) - 1)) : Int).toNat) t310 t311 _ A9.out).mono ?_); rintro e w' ⟨rfl, ⟨nd, rfl⟩⟩; (try first | exact ⟨rfl, _, World.drewN_drewN _ _ _⟩ | exact ⟨rfl, _, Eq.trans (World.drewN_drewN _ _ _) (congrArg (World.drewN _) (Nat.add_assoc _ _ _))⟩)))
        repeat (go_quiet (first | (go_at_call 88; (with_reducible refine (kauditref02_Quote.calls kj1 (a0.extract 1 ((wrap64 ((a0.size : Int) - 1)) : Int).toNat) t310 t311 _ A9.out).mono ?_); rintro e w' ⟨rfl, ⟨nd, rfl⟩⟩; (try first | exact ⟨rfl, _, World.drewN_drewN _ _ _⟩ | exact ⟨rfl, _, Eq.trans (World.drewN_drewN _ _ _) (congrArg (World.drewN _) (Nat.add_assoc _ _ _))⟩))); try go_wp2_with (first | (go_at_call 88; (with_reducible refine (kauditref02_Quote.calls kj1 (a0.extract 1 ((wrap64 ((a0.size : Int) - 1)) : Int).toNat) t310 t311 _ A9.out).mono ?_); rintro e w' ⟨rfl, ⟨nd, rfl⟩⟩; (try first | exact ⟨rfl, _, World.drewN_drewN _ _ _⟩ | exact ⟨rfl, _, Eq.trans (World.drewN_drewN _ _ _) (congrArg (World.drewN _) (Nat.add_assoc _ _ _))⟩))))
        go_ret2
        exact ⟨by first | rfl | (simp [errW_none, errW_some] <;> rfl) | (simp [*, errW_none, errW_some] <;> rfl), (zb1 HB)⟩
       ·rw [if_neg c11] at H
        have c11b0 : (t310.toList == a0.toList) = false := beq_eq_false_iff_ne.mpr c11
        have c11b1 : (t310.toList != a0.toList) = true := bne_iff_ne.mpr c11
        simp only [Option.some.injEq, Prod.mk.injEq] at H
        obtain ⟨rfl, rfl⟩ := H
        go_wp2_with (first | (go_at_call 88; (with_reducible refine (kauditref02_Quote.calls kj1 (a0.extract 1 ((wrap64 ((a0.size : Int) - 1)) : Int).toNat) t310 t311 _ A9.out).mono ?_); rintro e w' ⟨rfl, ⟨nd, rfl⟩⟩; (try first | exact ⟨rfl, _, World.drewN_drewN _ _ _⟩ | exact ⟨rfl, _, Eq.trans (World.drewN_drewN _ _ _) (congrArg (World.drewN _) (Nat.add_assoc _ _ _))⟩)))
        repeat (go_quiet (first | (go_at_call 88; (with_reducible refine (kauditref02_Quote.calls kj1 (a0.extract 1 ((wrap64 ((a0.size : Int) - 1)) : Int).toNat) t310 t311 _ A9.out).mono ?_); rintro e w' ⟨rfl, ⟨nd, rfl⟩⟩; (try first | exact ⟨rfl, _, World.drewN_drewN _ _ _⟩ | exact ⟨rfl, _, Eq.trans (World.drewN_drewN _ _ _) (congrArg (World.drewN _) (Nat.add_assoc _ _ _))⟩))); try go_wp2_with (first | (go_at_call 88; (with_reducible refine (kauditref02_Quote.calls kj1 (a0.extract 1 ((wrap64 ((a0.size : Int) - 1)) : Int).toNat) t310 t311 _ A9.out).mono ?_); rintro e w' ⟨rfl, ⟨nd, rfl⟩⟩; (try first | exact ⟨rfl, _, World.drewN_drewN _ _ _⟩ | exact ⟨rfl, _, Eq.trans (World.drewN_drewN _ _ _) (congrArg (World.drewN _) (Nat.add_assoc _ _ _))⟩))))
        go_ret2
        exact ⟨by first | rfl | (simp [errW_none, errW_some] <;> rfl) | (simp [*, errW_none, errW_some] <;> rfl), (zb1 HB)⟩
      ·rw [if_neg c10] at H
       have c10b0 : (t311 == 0) = false := beq_eq_false_iff_ne.mpr c10
       have c10b1 : (t311 != 0) = true := bne_iff_ne.mpr c10
       simp only [Option.some.injEq, Prod.mk.injEq] at H
       obtain ⟨rfl, rfl⟩ := H
       go_wp2_with (first | (go_at_call 88; (with_reducible refine (kauditref02_Quote.calls kj1 (a0.extract 1 ((wrap64 ((a0.size : Int) - 1)) : Int).toNat) t310 t311 _ A9.out).mono ?_); rintro e w' ⟨rfl, ⟨nd, rfl⟩⟩; (try first | exact ⟨rfl, _, World.drewN_drewN _ _ _⟩ | exact ⟨rfl, _, Eq.trans (World.drewN_drewN _ _ _) (congrArg (World.drewN _) (Nat.add_assoc _ _ _))⟩)))
       repeat (go_quiet (first | (go_at_call 88; (with_reducible refine (kauditref02_Quote.calls kj1 (a0.extract 1 ((wrap64 ((a0.size : Int) - 1)) : Int).toNat) t310 t311 _ A9.out).mono ?_); rintro e w' ⟨rfl, ⟨nd, rfl⟩⟩; (try first | exact ⟨rfl, _, World.drewN_drewN _ _ _⟩ | exact ⟨rfl, _, Eq.trans (World.drewN_drewN _ _ _) (congrArg (World.drewN _) (Nat.add_assoc _ _ _))⟩))); try go_wp2_with (first | (go_at_call 88; (with_reducible refine (kauditref02_Quote.calls kj1 (a0.extract 1 ((wrap64 ((a0.size : Int) - 1)) : Int).toNat) t310 t311 _ A9.out).mono ?_); rintro e w' ⟨rfl, ⟨nd, rfl⟩⟩; (try first | exact ⟨rfl, _, World.drewN_drewN _ _ _⟩ | exact ⟨rfl, _, Eq.trans (World.drewN_drewN _ _ _) (congrArg (World.drewN _) (Nat.add_assoc _ _ _))⟩))))
       go_ret2
       exact ⟨by first | rfl | (simp [errW_none, errW_some] <;> rfl) | (simp [*, errW_none, errW_some] <;> rfl), (zb1 HB)⟩
     ·rw [if_neg c8] at H
      exact absurd H (by simp)
    ·rw [if_neg c7] at H
     exact absurd H (by simp)
   ·replace c6 := Bool.eq_false_iff.mpr c6
    subst c6
    rw [if_neg (show ¬ (false = true) by decide)] at H
    have HC12 := Zaa.mk H
    clear H
    go_upto_region 4 with (fail)
    repeat (go_quiet (fail); go_upto_region 4 with (fail))
    go_cut [41] (fun v41 wc => ∃ (kq : Nat) (x41_11 : Bool), v41 = .bool x41_11 ∧ Zaa (kauditref02_Unquote.j1 kq a0 (⟨#[]⟩ : ByteArray) x41_11 = some (r1, r2)) ∧ Zaa (kq ≤ kj1) ∧ Zaa (Below w.heap.size w wc))
    case first =>
     have H := HC12.out
     clear HC12
     by_cases c13 : (a0.size : Int) ≥ 3
     ·rw [if_pos c13] at H
      have c13b0 : decide (3 ≤ (a0.size : Int)) = true := decide_eq_true c13
      have c13b1 : decide (3 ≤ a0.size) = true := decide_eq_true (by omega)
      clear c13
      (first | rw [c13b0] | (simp only [Zax, Zay]; rw [c13b0]) | skip)
      by_cases c14 : 0 < (a0.size : Int)
      ·rw [if_pos c14] at H
       have c14b0 : decide (0 < (a0.size : Int)) = true := decide_eq_true c14
       have c14b1 : decide (0 < a0.size) = true := decide_eq_true (by omega)
       clear c14
       by_cases c16 : (bt a0 0) = 120
       ·rw [if_pos c16] at H
        have c16b0 : ((bt a0 0) == 120) = true := beq_iff_eq.mpr c16
        have c16b1 : ((bt a0 0) != 120) = false := bne_eq_false_iff_eq.mpr c16
        clear c16
        by_cases c17 : ((a0.size : Int) % 2) = 1
        ·rw [if_pos c17] at H
         have c17b0 : (((a0.size : Int) % 2) == 1) = true := beq_iff_eq.mpr c17
         have c17b1 : (((a0.size : Int) % 2) != 1) = false := bne_eq_false_iff_eq.mpr c17
         clear c17
         have H' := Zaa.mk H
         clear H
         have p15 : 0 ≤ (0 : Int) := (by omega)
         have q15 : 0 < a0.size := (by have : (0 : Int) < (a0.size : Int) := zod; omega)
         have hx15 : ∀ h : 0 < a0.size, ((a0[0]'h).toNat : Int) = bt a0 0 := Za0 a0 0
         clear p15
         have qi15 : (0 < (a0.size : Int)) = True := eq_true (zod)
         replace q15 := eq_true q15
         go_wp2
         repeat (go_quiet (fail); try go_wp2)
         go_meet
         case rel => exact ⟨_, (decide ((a0.size : Int) ≤ 1281)), (by first | rfl | (simp; done) | (simp [*]; done)), H', ⟨by have := HJ1.out; first | omega | exact Nat.le_refl _⟩, ⟨(zb1 HB)⟩⟩
        ·rw [if_neg c17] at H
         have c17b0 : (((a0.size : Int) % 2) == 1) = false := beq_eq_false_iff_ne.mpr c17
         have c17b1 : (((a0.size : Int) % 2) != 1) = true := bne_iff_ne.mpr c17
         have H' := Zaa.mk H
         clear H
         have p15 : 0 ≤ (0 : Int) := (by omega)
         have q15 : 0 < a0.size := (by have : (0 : Int) < (a0.size : Int) := zod; omega)
         have hx15 : ∀ h : 0 < a0.size, ((a0[0]'h).toNat : Int) = bt a0 0 := Za0 a0 0
         clear p15
         have qi15 : (0 < (a0.size : Int)) = True := eq_true (zod)
         replace q15 := eq_true q15
         go_wp2
         repeat (go_quiet (fail); try go_wp2)
         go_meet
         case rel => exact ⟨_, (false), (by first | rfl | (simp; done) | (simp [*]; done)), H', ⟨by have := HJ1.out; first | omega | exact Nat.le_refl _⟩, ⟨(zb1 HB)⟩⟩
       ·rw [if_neg c16] at H
        have c16b0 : ((bt a0 0) == 120) = false := beq_eq_false_iff_ne.mpr c16
        have c16b1 : ((bt a0 0) != 120) = true := bne_iff_ne.mpr c16
        have H' := Zaa.mk H
        clear H
        have p15 : 0 ≤ (0 : Int) := (by omega)
        have q15 : 0 < a0.size := (by have : (0 : Int) < (a0.size : Int) := zod; omega)
        have hx15 : ∀ h : 0 < a0.size, ((a0[0]'h).toNat : Int) = bt a0 0 := Za0 a0 0
        clear p15
        have qi15 : (0 < (a0.size : Int)) = True := eq_true (zod)
        replace q15 := eq_true q15
        go_wp2
        repeat (go_quiet (fail); try go_wp2)
        go_meet
        case rel => exact ⟨_, (false), (by first | rfl | (simp; done) | (simp [*]; done)), H', ⟨by have := HJ1.out; first | omega | exact Nat.le_refl _⟩, ⟨(zb1 HB)⟩⟩
      ·rw [if_neg c14] at H
       exact absurd H (by simp)
     ·rw [if_neg c13] at H
      have c13b0 : decide (3 ≤ (a0.size : Int)) = false := decide_eq_false c13
      have c13b1 : decide (3 ≤ a0.size) = false := decide_eq_false (by omega)
      clear c13
      (first | rw [c13b0] | (simp only [Zax, Zay]; rw [c13b0]) | skip)
      have H' := Zaa.mk H
      clear H
      go_wp2
      repeat (go_quiet (fail); try go_wp2)
      go_meet
      case rel => exact ⟨_, (false), (by first | rfl | (simp; done) | (simp [*]; done)), H', ⟨by have := HJ1.out; first | omega | exact Nat.le_refl _⟩, ⟨(zb1 HB)⟩⟩
    case rest =>
     clear HC12
     (try clear c6)
     obtain ⟨kq, x41_11, rfl, HA, HJ11, HB⟩ := hcut
     cases kq with
     | zero => exact absurd HA.out (by simp [kauditref02_Unquote.j1])
     | succ kj11 =>
      have H := HA.out
      clear HA
      simp only [kauditref02_Unquote.j1] at H
      by_cases c18 : x41_11 = true
      ·subst c18
       rw [if_pos rfl] at H
       have H' := Zaa.mk H
       clear H
       go_wp2
       repeat (go_quiet (fail); try go_wp2)
       go_loopg [4, 5] kj11 (fun kq v4 v5 w' => ∃ (x4_3 : ByteArray) (x5_3 : Int), v4 = .string x4_3 ∧ v5 = .int .i64 x5_3 ∧ Zaa (kauditref02_Unquote.l0 kq a0 x4_3 x5_3 = some (r1, r2)) ∧ Zaa (kq ≤ kj11) ∧ Zaa (Below w.heap.size w w'))
       case atStart => exact ⟨((⟨#[]⟩ : ByteArray)), (1), (by first | rfl | (simp; done) | (simp [*]; done)), (by first | rfl | (simp; done) | (simp [*]; done)), H', ⟨Nat.le_refl _⟩, ⟨(zb1 HB)⟩⟩
       case round =>
        clear H'
        (try clear c6)
        (try clear c18)
        obtain ⟨x4_3, x5_3, rfl, rfl, HA, HK3, HB⟩ := hrel
        cases gk with
        | zero => exact absurd HA.out (by simp [kauditref02_Unquote.l0])
        | succ k3 =>
         have H := HA.out
         clear HA
         simp only [kauditref02_Unquote.l0] at H
         by_cases c19 : x5_3 < (a0.size : Int)
         ·rw [if_pos c19] at H
          have c19b0 : decide (x5_3 < (a0.size : Int)) = true := decide_eq_true c19
          clear c19
          by_cases c20 : 0 ≤ x5_3
          ·rw [if_pos c20] at H
           have c20b0 : decide (0 ≤ x5_3) = true := decide_eq_true c20
           clear c20
           replace H := Option.bind_eq_some_iff.mp H
           obtain ⟨t314, A220, H⟩ := H
           try dsimp only at H
           have A22 := Zaa.mk A220
           clear A220
           obtain ⟨ji23, hji23⟩ : ∃ j_ : Int, (wrap64 (x5_3 + 1)) = j_ := ⟨_, rfl⟩
           replace H : (if 0 ≤ (ji23) then (if (ji23) < (a0.size : Int) then ((kauditref02_value.f k3 (bt a0 (ji23))).bind fun t315 => (if t314 < 0 then (some ((⟨#[]⟩ : ByteArray), 21)) else (if t315 < 0 then (some ((⟨#[]⟩ : ByteArray), 21)) else ((some (([(wrap64 ((wrap64 (16 * t314)) + t315)) % 256] : List Int) : List Int)).bind fun y316 => (if x4_3.size + (strOfNums y316).size ≤ 9223372036854775807 then (kauditref02_Unquote.l0 k3 a0 (x4_3 ++ (strOfNums y316)) (wrap64 (x5_3 + 2))) else (none)))))) else (none)) else (none)) = some (r1, r2) := by first | (rw [hji23] at H; exact H) | (simp only [hji23] at H ⊢; exact H)
           (try rw [hji23] at A22)
           have hji23w : (IntKind.i64.wrap (x5_3 + 1)) = ji23 := (Zax _).trans hji23
           by_cases c24 : 0 ≤ (ji23)
           ·rw [if_pos c24] at H
            have c24b0 : decide (0 ≤ (ji23)) = true := decide_eq_true c24
            clear c24
            by_cases c25 : (ji23) < (a0.size : Int)
            ·rw [if_pos c25] at H
             have c25b0 : decide ((ji23) < (a0.size : Int)) = true := decide_eq_true c25
             clear c25
             replace H := Option.bind_eq_some_iff.mp H
             obtain ⟨t315, A270, H⟩ := H
             try dsimp only at H
             have A27 := Zaa.mk A270
             clear A270
             by_cases c28 : t314 < 0
             ·rw [if_pos c28] at H
              have c28b0 : decide (t314 < 0) = true := decide_eq_true c28
              clear c28
              simp only [Option.some.injEq, Prod.mk.injEq] at H
              obtain ⟨rfl, rfl⟩ := H
              have p21 : 0 ≤ (x5_3 : Int) := zod
              have q21 : x5_3 < (a0.size : Int) := zod
              have hx21 := Za0 a0 x5_3
              replace p21 := eq_true p21
              replace q21 := eq_true q21
              go_wp2_with (first | (go_at_call 145; (with_reducible refine (kauditref02_value.calls k3 (bt a0 x5_3) t314 _ A22.out).mono ?_); rintro e w' ⟨rfl, ⟨nd, rfl⟩⟩; (try first | exact ⟨rfl, _, World.drewN_drewN _ _ _⟩ | exact ⟨rfl, _, Eq.trans (World.drewN_drewN _ _ _) (congrArg (World.drewN _) (Nat.add_assoc _ _ _))⟩); have p26 : 0 ≤ ((ji23) : Int) := zod; have q26 : (ji23) < (a0.size : Int) := zod; have hx26 := Za0 a0 (ji23); replace p26 := eq_true p26; replace q26 := eq_true q26) | (go_at_call 145; (with_reducible refine (kauditref02_value.calls k3 (bt a0 (ji23)) t315 _ A27.out).mono ?_); rintro e w' ⟨rfl, ⟨nd, rfl⟩⟩; (try first | exact ⟨rfl, _, World.drewN_drewN _ _ _⟩ | exact ⟨rfl, _, Eq.trans (World.drewN_drewN _ _ _) (congrArg (World.drewN _) (Nat.add_assoc _ _ _))⟩)))
              repeat (go_quiet (first | (go_at_call 145; (with_reducible refine (kauditref02_value.calls k3 (bt a0 x5_3) t314 _ A22.out).mono ?_); rintro e w' ⟨rfl, ⟨nd, rfl⟩⟩; (try first | exact ⟨rfl, _, World.drewN_drewN _ _ _⟩ | exact ⟨rfl, _, Eq.trans (World.drewN_drewN _ _ _) (congrArg (World.drewN _) (Nat.add_assoc _ _ _))⟩); have p26 : 0 ≤ ((ji23) : Int) := zod; have q26 : (ji23) < (a0.size : Int) := zod; have hx26 := Za0 a0 (ji23); replace p26 := eq_true p26; replace q26 := eq_true q26) | (go_at_call 145; (with_reducible refine (kauditref02_value.calls k3 (bt a0 (ji23)) t315 _ A27.out).mono ?_); rintro e w' ⟨rfl, ⟨nd, rfl⟩⟩; (try first | exact ⟨rfl, _, World.drewN_drewN _ _ _⟩ | exact ⟨rfl, _, Eq.trans (World.drewN_drewN _ _ _) (congrArg (World.drewN _) (Nat.add_assoc _ _ _))⟩))); try go_wp2_with (first | (go_at_call 145; (with_reducible refine (kauditref02_value.calls k3 (bt a0 x5_3) t314 _ A22.out).mono ?_); rintro e w' ⟨rfl, ⟨nd, rfl⟩⟩; (try first | exact ⟨rfl, _, World.drewN_drewN _ _ _⟩ | exact ⟨rfl, _, Eq.trans (World.drewN_drewN _ _ _) (congrArg (World.drewN _) (Nat.add_assoc _ _ _))⟩); have p26 : 0 ≤ ((ji23) : Int) := zod; have q26 : (ji23) < (a0.size : Int) := zod; have hx26 := Za0 a0 (ji23); replace p26 := eq_true p26; replace q26 := eq_true q26) | (go_at_call 145; (with_reducible refine (kauditref02_value.calls k3 (bt a0 (ji23)) t315 _ A27.out).mono ?_); rintro e w' ⟨rfl, ⟨nd, rfl⟩⟩; (try first | exact ⟨rfl, _, World.drewN_drewN _ _ _⟩ | exact ⟨rfl, _, Eq.trans (World.drewN_drewN _ _ _) (congrArg (World.drewN _) (Nat.add_assoc _ _ _))⟩))))
              go_ret2
              exact ⟨by first | rfl | (simp [errW_none, errW_some] <;> rfl) | (simp only [← hji23]; first | rfl | (simp [errW_none, errW_some] <;> rfl)) | (simp [*, errW_none, errW_some] <;> rfl), (zb1 HB)⟩
             ·rw [if_neg c28] at H
              have c28b0 : decide (t314 < 0) = false := decide_eq_false c28
              clear c28
              by_cases c29 : t315 < 0
              ·rw [if_pos c29] at H
               have c29b0 : decide (t315 < 0) = true := decide_eq_true c29
               clear c29
               simp only [Option.some.injEq, Prod.mk.injEq] at H
               obtain ⟨rfl, rfl⟩ := H
               have p21 : 0 ≤ (x5_3 : Int) := zod
               have q21 : x5_3 < (a0.size : Int) := zod
               have hx21 := Za0 a0 x5_3
               replace p21 := eq_true p21
               replace q21 := eq_true q21
               go_wp2_with (first | (go_at_call 145; (with_reducible refine (kauditref02_value.calls k3 (bt a0 x5_3) t314 _ A22.out).mono ?_); rintro e w' ⟨rfl, ⟨nd, rfl⟩⟩; (try first | exact ⟨rfl, _, World.drewN_drewN _ _ _⟩ | exact ⟨rfl, _, Eq.trans (World.drewN_drewN _ _ _) (congrArg (World.drewN _) (Nat.add_assoc _ _ _))⟩); have p26 : 0 ≤ ((ji23) : Int) := zod; have q26 : (ji23) < (a0.size : Int) := zod; have hx26 := Za0 a0 (ji23); replace p26 := eq_true p26; replace q26 := eq_true q26) | (go_at_call 145; (with_reducible refine (kauditref02_value.calls k3 (bt a0 (ji23)) t315 _ A27.out).mono ?_); rintro e w' ⟨rfl, ⟨nd, rfl⟩⟩; (try first | exact ⟨rfl, _, World.drewN_drewN _ _ _⟩ | exact ⟨rfl, _, Eq.trans (World.drewN_drewN _ _ _) (congrArg (World.drewN _) (Nat.add_assoc _ _ _))⟩)))
               repeat (go_quiet (first | (go_at_call 145; (with_reducible refine (kauditref02_value.calls k3 (bt a0 x5_3) t314 _ A22.out).mono ?_); rintro e w' ⟨rfl, ⟨nd, rfl⟩⟩; (try first | exact ⟨rfl, _, World.drewN_drewN _ _ _⟩ | exact ⟨rfl, _, Eq.trans (World.drewN_drewN _ _ _) (congrArg (World.drewN _) (Nat.add_assoc _ _ _))⟩); have p26 : 0 ≤ ((ji23) : Int) := zod; have q26 : (ji23) < (a0.size : Int) := zod; have hx26 := Za0 a0 (ji23); replace p26 := eq_true p26; replace q26 := eq_true q26) | (go_at_call 145; (with_reducible refine (kauditref02_value.calls k3 (bt a0 (ji23)) t315 _ A27.out).mono ?_); rintro e w' ⟨rfl, ⟨nd, rfl⟩⟩; (try first | exact ⟨rfl, _, World.drewN_drewN _ _ _⟩ | exact ⟨rfl, _, Eq.trans (World.drewN_drewN _ _ _) (congrArg (World.drewN _) (Nat.add_assoc _ _ _))⟩))); try go_wp2_with (first | (go_at_call 145; (with_reducible refine (kauditref02_value.calls k3 (bt a0 x5_3) t314 _ A22.out).mono ?_); rintro e w' ⟨rfl, ⟨nd, rfl⟩⟩; (try first | exact ⟨rfl, _, World.drewN_drewN _ _ _⟩ | exact ⟨rfl, _, Eq.trans (World.drewN_drewN _ _ _) (congrArg (World.drewN _) (Nat.add_assoc _ _ _))⟩); have p26 : 0 ≤ ((ji23) : Int) := zod; have q26 : (ji23) < (a0.size : Int) := zod; have hx26 := Za0 a0 (ji23); replace p26 := eq_true p26; replace q26 := eq_true q26) | (go_at_call 145; (with_reducible refine (kauditref02_value.calls k3 (bt a0 (ji23)) t315 _ A27.out).mono ?_); rintro e w' ⟨rfl, ⟨nd, rfl⟩⟩; (try first | exact ⟨rfl, _, World.drewN_drewN _ _ _⟩ | exact ⟨rfl, _, Eq.trans (World.drewN_drewN _ _ _) (congrArg (World.drewN _) (Nat.add_assoc _ _ _))⟩))))
               go_ret2
               exact ⟨by first | rfl | (simp [errW_none, errW_some] <;> rfl) | (simp only [← hji23]; first | rfl | (simp [errW_none, errW_some] <;> rfl)) | (simp [*, errW_none, errW_some] <;> rfl), (zb1 HB)⟩
              ·rw [if_neg c29] at H
               have c29b0 : decide (t315 < 0) = false := decide_eq_false c29
               clear c29
               obtain ⟨y316, hy316⟩ : ∃ y_ : List Int, y_ = (([(wrap64 ((wrap64 (16 * t314)) + t315)) % 256] : List Int)) := ⟨_, rfl⟩
               replace H : (if x4_3.size + (strOfNums y316).size ≤ 9223372036854775807 then (kauditref02_Unquote.l0 k3 a0 (x4_3 ++ (strOfNums y316)) (wrap64 (x5_3 + 2))) else (none)) = some (r1, r2) := by first | (rw [hy316]; with_reducible exact H) | (have H2_ := (Option.bind_some _ _).symm.trans H; rw [hy316]; with_reducible exact H2_) | (have H2_ := (Option.bind_some _ _).symm.trans H; with_reducible exact H2_) | with_reducible exact H | (rw [hy316]; exact H) | exact H
               have Ny316 := Zaa.mk hy316
               clear hy316
               by_cases c30 : x4_3.size + (strOfNums y316).size ≤ 9223372036854775807
               ·rw [if_pos c30] at H
                have c30b0 := eq_true c30
                have c30b1 : decide (x4_3.size + (strOfNums y316).size ≤ 9223372036854775807) = true := decide_eq_true c30
                try have c30b2 : (9223372036854775807 < x4_3.size + (strOfNums y316).size) = False := eq_false (Nat.not_lt.2 c30)
                have H' := Zaa.mk H
                clear H
                have p21 : 0 ≤ (x5_3 : Int) := zod
                have q21 : x5_3 < (a0.size : Int) := zod
                have hx21 := Za0 a0 x5_3
                replace p21 := eq_true p21
                replace q21 := eq_true q21
                go_wp2_with (first | (go_at_call 145; (with_reducible refine (kauditref02_value.calls k3 (bt a0 x5_3) t314 _ A22.out).mono ?_); rintro e w' ⟨rfl, ⟨nd, rfl⟩⟩; (try first | exact ⟨rfl, _, World.drewN_drewN _ _ _⟩ | exact ⟨rfl, _, Eq.trans (World.drewN_drewN _ _ _) (congrArg (World.drewN _) (Nat.add_assoc _ _ _))⟩); have p26 : 0 ≤ ((ji23) : Int) := zod; have q26 : (ji23) < (a0.size : Int) := zod; have hx26 := Za0 a0 (ji23); replace p26 := eq_true p26; replace q26 := eq_true q26) | (go_at_call 145; (with_reducible refine (kauditref02_value.calls k3 (bt a0 (ji23)) t315 _ A27.out).mono ?_); rintro e w' ⟨rfl, ⟨nd, rfl⟩⟩; (try first | exact ⟨rfl, _, World.drewN_drewN _ _ _⟩ | exact ⟨rfl, _, Eq.trans (World.drewN_drewN _ _ _) (congrArg (World.drewN _) (Nat.add_assoc _ _ _))⟩)) | ((with_reducible refine Zav (N := 69) rfl ?_); (try (refine Zbv (by rfl) ?_; dsimp only)); refine Kd.R_lit (Kd.int .u8) _ 5 ?hg (N := 69) ?hd (xs := ([(wrap64 ((wrap64 (16 * t314)) + t315)) % 256] : List Int)) (inner := [.int .u8 ((wrap64 ((wrap64 (16 * t314)) + t315)) % 256)]) (ok := fun _ => True) (okp := fun _ => True) ?hr ?hp (fun _ hk => hk) trivial (Below.refl _ _) (Nat.le_refl _) (by simp) ?_; (case hd => rfl); (case hg => rfl); (case hr => first | (go_simp; done) | (go_simp; rfl)); (case hp => exact (Reps.one (show Kd.M (Kd.int .u8) _ _ _ ((wrap64 ((wrap64 (16 * t314)) + t315)) % 256) [.int .u8 ((wrap64 ((wrap64 (16 * t314)) + t315)) % 256)] from rfl) (Reps.none _ _))); intro v317 w31 ho32 hb hg_ hnew_; clear hg_ hnew_; (first | rw [← Ny316.out] at ho32 | (simp only [Int.reduceToNat] at ho32; rw [← Ny316.out] at ho32)); have HO318 := Zaa.mk (Kd.R_lower ho32 (Zai (zb1 HB))); replace HB := Zaa.mk (Zae (zb1 HB) hb); clear hb ho32; have hcv33 := Zcc (P := Tryz.prog) Tryz.underlying22 Tryz.underlying5 Tryz.underlying9 (Kd.own_of_R HO318.out)))
                repeat (go_quiet (first | (go_at_call 145; (with_reducible refine (kauditref02_value.calls k3 (bt a0 x5_3) t314 _ A22.out).mono ?_); rintro e w' ⟨rfl, ⟨nd, rfl⟩⟩; (try first | exact ⟨rfl, _, World.drewN_drewN _ _ _⟩ | exact ⟨rfl, _, Eq.trans (World.drewN_drewN _ _ _) (congrArg (World.drewN _) (Nat.add_assoc _ _ _))⟩); have p26 : 0 ≤ ((ji23) : Int) := zod; have q26 : (ji23) < (a0.size : Int) := zod; have hx26 := Za0 a0 (ji23); replace p26 := eq_true p26; replace q26 := eq_true q26) | (go_at_call 145; (with_reducible refine (kauditref02_value.calls k3 (bt a0 (ji23)) t315 _ A27.out).mono ?_); rintro e w' ⟨rfl, ⟨nd, rfl⟩⟩; (try first | exact ⟨rfl, _, World.drewN_drewN _ _ _⟩ | exact ⟨rfl, _, Eq.trans (World.drewN_drewN _ _ _) (congrArg (World.drewN _) (Nat.add_assoc _ _ _))⟩)) | ((with_reducible refine Zav (N := 69) rfl ?_); (try (refine Zbv (by rfl) ?_; dsimp only)); refine Kd.R_lit (Kd.int .u8) _ 5 ?hg (N := 69) ?hd (xs := ([(wrap64 ((wrap64 (16 * t314)) + t315)) % 256] : List Int)) (inner := [.int .u8 ((wrap64 ((wrap64 (16 * t314)) + t315)) % 256)]) (ok := fun _ => True) (okp := fun _ => True) ?hr ?hp (fun _ hk => hk) trivial (Below.refl _ _) (Nat.le_refl _) (by simp) ?_; (case hd => rfl); (case hg => rfl); (case hr => first | (go_simp; done) | (go_simp; rfl)); (case hp => exact (Reps.one (show Kd.M (Kd.int .u8) _ _ _ ((wrap64 ((wrap64 (16 * t314)) + t315)) % 256) [.int .u8 ((wrap64 ((wrap64 (16 * t314)) + t315)) % 256)] from rfl) (Reps.none _ _))); intro v317 w31 ho32 hb hg_ hnew_; clear hg_ hnew_; (first | rw [← Ny316.out] at ho32 | (simp only [Int.reduceToNat] at ho32; rw [← Ny316.out] at ho32)); have n0_ := Zaa.mk (Kd.R_lower ho32 (Zai (zb1 HB))); have n1_ := Zaa.mk (Zae (zb1 HB) hb); clear HB; have HO318 := n0_; have HB := n1_; clear n0_ n1_; clear hb ho32; have hcv33 := Zcc (P := Tryz.prog) Tryz.underlying22 Tryz.underlying5 Tryz.underlying9 (Kd.own_of_R HO318.out))); try go_wp2_with (first | (go_at_call 145; (with_reducible refine (kauditref02_value.calls k3 (bt a0 x5_3) t314 _ A22.out).mono ?_); rintro e w' ⟨rfl, ⟨nd, rfl⟩⟩; (try first | exact ⟨rfl, _, World.drewN_drewN _ _ _⟩ | exact ⟨rfl, _, Eq.trans (World.drewN_drewN _ _ _) (congrArg (World.drewN _) (Nat.add_assoc _ _ _))⟩); have p26 : 0 ≤ ((ji23) : Int) := zod; have q26 : (ji23) < (a0.size : Int) := zod; have hx26 := Za0 a0 (ji23); replace p26 := eq_true p26; replace q26 := eq_true q26) | (go_at_call 145; (with_reducible refine (kauditref02_value.calls k3 (bt a0 (ji23)) t315 _ A27.out).mono ?_); rintro e w' ⟨rfl, ⟨nd, rfl⟩⟩; (try first | exact ⟨rfl, _, World.drewN_drewN _ _ _⟩ | exact ⟨rfl, _, Eq.trans (World.drewN_drewN _ _ _) (congrArg (World.drewN _) (Nat.add_assoc _ _ _))⟩)) | ((with_reducible refine Zav (N := 69) rfl ?_); (try (refine Zbv (by rfl) ?_; dsimp only)); refine Kd.R_lit (Kd.int .u8) _ 5 ?hg (N := 69) ?hd (xs := ([(wrap64 ((wrap64 (16 * t314)) + t315)) % 256] : List Int)) (inner := [.int .u8 ((wrap64 ((wrap64 (16 * t314)) + t315)) % 256)]) (ok := fun _ => True) (okp := fun _ => True) ?hr ?hp (fun _ hk => hk) trivial (Below.refl _ _) (Nat.le_refl _) (by simp) ?_; (case hd => rfl); (case hg => rfl); (case hr => first | (go_simp; done) | (go_simp; rfl)); (case hp => exact (Reps.one (show Kd.M (Kd.int .u8) _ _ _ ((wrap64 ((wrap64 (16 * t314)) + t315)) % 256) [.int .u8 ((wrap64 ((wrap64 (16 * t314)) + t315)) % 256)] from rfl) (Reps.none _ _))); intro v317 w31 ho32 hb hg_ hnew_; clear hg_ hnew_; (first | rw [← Ny316.out] at ho32 | (simp only [Int.reduceToNat] at ho32; rw [← Ny316.out] at ho32)); have n0_ := Zaa.mk (Kd.R_lower ho32 (Zai (zb1 HB))); have n1_ := Zaa.mk (Zae (zb1 HB) hb); clear HB; have HO318 := n0_; have HB := n1_; clear n0_ n1_; clear hb ho32; have hcv33 := Zcc (P := Tryz.prog) Tryz.underlying22 Tryz.underlying5 Tryz.underlying9 (Kd.own_of_R HO318.out))))
                go_roundg k3
                case measure => have := HJ1.out; have := HJ11.out; have := HK3.out; omega
                case rel => exact ⟨(x4_3 ++ (strOfNums y316)), (wrap64 (x5_3 + 2)), (by first | rfl | (simp; done) | (simp [*]; done)), (by first | rfl | (simp; done) | (simp [*]; done)), H', ⟨by have := HJ1.out; have := HJ11.out; have := HK3.out; omega⟩, ⟨(zb1 HB)⟩⟩
               ·rw [if_neg c30] at H
                exact absurd H (by simp)
            ·rw [if_neg c25] at H
             exact absurd H (by simp)
           ·rw [if_neg c24] at H
            exact absurd H (by simp)
          ·rw [if_neg c20] at H
           exact absurd H (by simp)
         ·rw [if_neg c19] at H
          have c19b0 : decide (x5_3 < (a0.size : Int)) = false := decide_eq_false c19
          clear c19
          replace H := Option.bind_eq_some_iff.mp H
          obtain ⟨⟨t312, t313⟩, A340, H⟩ := H
          try dsimp only at H
          have A34 := Zaa.mk A340
          clear A340
          by_cases c35 : t313 = 0
          ·rw [if_pos c35] at H
           have c35b0 : (t313 == 0) = true := beq_iff_eq.mpr c35
           have c35b1 : (t313 != 0) = false := bne_eq_false_iff_eq.mpr c35
           clear c35
           by_cases c36 : t312.toList = a0.toList
           ·rw [if_pos c36] at H
            have c36b0 : (t312.toList == a0.toList) = true := beq_iff_eq.mpr c36
            have c36b1 : (t312.toList != a0.toList) = false := bne_eq_false_iff_eq.mpr c36
            clear c36
            simp only [Option.some.injEq, Prod.mk.injEq] at H
            obtain ⟨rfl, rfl⟩ := H
            go_wp2_with (first | (go_at_call 88; (with_reducible refine (kauditref02_Quote.calls k3 x4_3 t312 t313 _ A34.out).mono ?_); rintro e w' ⟨rfl, ⟨nd, rfl⟩⟩; (try first | exact ⟨rfl, _, World.drewN_drewN _ _ _⟩ | exact ⟨rfl, _, Eq.trans (World.drewN_drewN _ _ _) (congrArg (World.drewN _) (Nat.add_assoc _ _ _))⟩)))
            repeat (go_quiet (first | (go_at_call 88; (with_reducible refine (kauditref02_Quote.calls k3 x4_3 t312 t313 _ A34.out).mono ?_); rintro e w' ⟨rfl, ⟨nd, rfl⟩⟩; (try first | exact ⟨rfl, _, World.drewN_drewN _ _ _⟩ | exact ⟨rfl, _, Eq.trans (World.drewN_drewN _ _ _) (congrArg (World.drewN _) (Nat.add_assoc _ _ _))⟩))); try go_wp2_with (first | (go_at_call 88; (with_reducible refine (kauditref02_Quote.calls k3 x4_3 t312 t313 _ A34.out).mono ?_); rintro e w' ⟨rfl, ⟨nd, rfl⟩⟩; (try first | exact ⟨rfl, _, World.drewN_drewN _ _ _⟩ | exact ⟨rfl, _, Eq.trans (World.drewN_drewN _ _ _) (congrArg (World.drewN _) (Nat.add_assoc _ _ _))⟩))))
            go_ret2
            exact ⟨by first | rfl | (simp [errW_none, errW_some] <;> rfl) | (simp [*, errW_none, errW_some] <;> rfl), (zb1 HB)⟩
           ·rw [if_neg c36] at H
            have c36b0 : (t312.toList == a0.toList) = false := beq_eq_false_iff_ne.mpr c36
            have c36b1 : (t312.toList != a0.toList) = true := bne_iff_ne.mpr c36
            simp only [Option.some.injEq, Prod.mk.injEq] at H
            obtain ⟨rfl, rfl⟩ := H
            go_wp2_with (first | (go_at_call 88; (with_reducible refine (kauditref02_Quote.calls k3 x4_3 t312 t313 _ A34.out).mono ?_); rintro e w' ⟨rfl, ⟨nd, rfl⟩⟩; (try first | exact ⟨rfl, _, World.drewN_drewN _ _ _⟩ | exact ⟨rfl, _, Eq.trans (World.drewN_drewN _ _ _) (congrArg (World.drewN _) (Nat.add_assoc _ _ _))⟩)))
            repeat (go_quiet (first | (go_at_call 88; (with_reducible refine (kauditref02_Quote.calls k3 x4_3 t312 t313 _ A34.out).mono ?_); rintro e w' ⟨rfl, ⟨nd, rfl⟩⟩; (try first | exact ⟨rfl, _, World.drewN_drewN _ _ _⟩ | exact ⟨rfl, _, Eq.trans (World.drewN_drewN _ _ _) (congrArg (World.drewN _) (Nat.add_assoc _ _ _))⟩))); try go_wp2_with (first | (go_at_call 88; (with_reducible refine (kauditref02_Quote.calls k3 x4_3 t312 t313 _ A34.out).mono ?_); rintro e w' ⟨rfl, ⟨nd, rfl⟩⟩; (try first | exact ⟨rfl, _, World.drewN_drewN _ _ _⟩ | exact ⟨rfl, _, Eq.trans (World.drewN_drewN _ _ _) (congrArg (World.drewN _) (Nat.add_assoc _ _ _))⟩))))
            go_ret2
            exact ⟨by first | rfl | (simp [errW_none, errW_some] <;> rfl) | (simp [*, errW_none, errW_some] <;> rfl), (zb1 HB)⟩
          ·rw [if_neg c35] at H
           have c35b0 : (t313 == 0) = false := beq_eq_false_iff_ne.mpr c35
           have c35b1 : (t313 != 0) = true := bne_iff_ne.mpr c35
           simp only [Option.some.injEq, Prod.mk.injEq] at H
           obtain ⟨rfl, rfl⟩ := H
           go_wp2_with (first | (go_at_call 88; (with_reducible refine (kauditref02_Quote.calls k3 x4_3 t312 t313 _ A34.out).mono ?_); rintro e w' ⟨rfl, ⟨nd, rfl⟩⟩; (try first | exact ⟨rfl, _, World.drewN_drewN _ _ _⟩ | exact ⟨rfl, _, Eq.trans (World.drewN_drewN _ _ _) (congrArg (World.drewN _) (Nat.add_assoc _ _ _))⟩)))
           repeat (go_quiet (first | (go_at_call 88; (with_reducible refine (kauditref02_Quote.calls k3 x4_3 t312 t313 _ A34.out).mono ?_); rintro e w' ⟨rfl, ⟨nd, rfl⟩⟩; (try first | exact ⟨rfl, _, World.drewN_drewN _ _ _⟩ | exact ⟨rfl, _, Eq.trans (World.drewN_drewN _ _ _) (congrArg (World.drewN _) (Nat.add_assoc _ _ _))⟩))); try go_wp2_with (first | (go_at_call 88; (with_reducible refine (kauditref02_Quote.calls k3 x4_3 t312 t313 _ A34.out).mono ?_); rintro e w' ⟨rfl, ⟨nd, rfl⟩⟩; (try first | exact ⟨rfl, _, World.drewN_drewN _ _ _⟩ | exact ⟨rfl, _, Eq.trans (World.drewN_drewN _ _ _) (congrArg (World.drewN _) (Nat.add_assoc _ _ _))⟩))))
           go_ret2
           exact ⟨by first | rfl | (simp [errW_none, errW_some] <;> rfl) | (simp [*, errW_none, errW_some] <;> rfl), (zb1 HB)⟩
      ·replace c18 := Bool.eq_false_iff.mpr c18
       subst c18
       rw [if_neg (show ¬ (false = true) by decide)] at H
       replace H := Option.bind_eq_some_iff.mp H
       obtain ⟨⟨t319, t320⟩, A370, H⟩ := H
       try dsimp only at H
       have A37 := Zaa.mk A370
       clear A370
       by_cases c38 : t320 = 0
       ·rw [if_pos c38] at H
        have c38b0 : (t320 == 0) = true := beq_iff_eq.mpr c38
        have c38b1 : (t320 != 0) = false := bne_eq_false_iff_eq.mpr c38
        clear c38
        by_cases c39 : t319.toList = a0.toList
        ·rw [if_pos c39] at H
         have c39b0 : (t319.toList == a0.toList) = true := beq_iff_eq.mpr c39
         have c39b1 : (t319.toList != a0.toList) = false := bne_eq_false_iff_eq.mpr c39
         clear c39
         simp only [Option.some.injEq, Prod.mk.injEq] at H
         obtain ⟨rfl, rfl⟩ := H
         go_wp2_with (first | (go_at_call 88; (with_reducible refine (kauditref02_Quote.calls kj11 (⟨#[]⟩ : ByteArray) t319 t320 _ A37.out).mono ?_); rintro e w' ⟨rfl, ⟨nd, rfl⟩⟩; (try first | exact ⟨rfl, _, World.drewN_drewN _ _ _⟩ | exact ⟨rfl, _, Eq.trans (World.drewN_drewN _ _ _) (congrArg (World.drewN _) (Nat.add_assoc _ _ _))⟩)))
         repeat (go_quiet (first | (go_at_call 88; (with_reducible refine (kauditref02_Quote.calls kj11 (⟨#[]⟩ : ByteArray) t319 t320 _ A37.out).mono ?_); rintro e w' ⟨rfl, ⟨nd, rfl⟩⟩; (try first | exact ⟨rfl, _, World.drewN_drewN _ _ _⟩ | exact ⟨rfl, _, Eq.trans (World.drewN_drewN _ _ _) (congrArg (World.drewN _) (Nat.add_assoc _ _ _))⟩))); try go_wp2_with (first | (go_at_call 88; (with_reducible refine (kauditref02_Quote.calls kj11 (⟨#[]⟩ : ByteArray) t319 t320 _ A37.out).mono ?_); rintro e w' ⟨rfl, ⟨nd, rfl⟩⟩; (try first | exact ⟨rfl, _, World.drewN_drewN _ _ _⟩ | exact ⟨rfl, _, Eq.trans (World.drewN_drewN _ _ _) (congrArg (World.drewN _) (Nat.add_assoc _ _ _))⟩))))
         go_ret2
         exact ⟨by first | rfl | (simp [errW_none, errW_some] <;> rfl) | (simp [*, errW_none, errW_some] <;> rfl), (zb1 HB)⟩
        ·rw [if_neg c39] at H
         have c39b0 : (t319.toList == a0.toList) = false := beq_eq_false_iff_ne.mpr c39
         have c39b1 : (t319.toList != a0.toList) = true := bne_iff_ne.mpr c39
         simp only [Option.some.injEq, Prod.mk.injEq] at H
         obtain ⟨rfl, rfl⟩ := H
         go_wp2_with (first | (go_at_call 88; (with_reducible refine (kauditref02_Quote.calls kj11 (⟨#[]⟩ : ByteArray) t319 t320 _ A37.out).mono ?_); rintro e w' ⟨rfl, ⟨nd, rfl⟩⟩; (try first | exact ⟨rfl, _, World.drewN_drewN _ _ _⟩ | exact ⟨rfl, _, Eq.trans (World.drewN_drewN _ _ _) (congrArg (World.drewN _) (Nat.add_assoc _ _ _))⟩)))
         repeat (go_quiet (first | (go_at_call 88; (with_reducible refine (kauditref02_Quote.calls kj11 (⟨#[]⟩ : ByteArray) t319 t320 _ A37.out).mono ?_); rintro e w' ⟨rfl, ⟨nd, rfl⟩⟩; (try first | exact ⟨rfl, _, World.drewN_drewN _ _ _⟩ | exact ⟨rfl, _, Eq.trans (World.drewN_drewN _ _ _) (congrArg (World.drewN _) (Nat.add_assoc _ _ _))⟩))); try go_wp2_with (first | (go_at_call 88; (with_reducible refine (kauditref02_Quote.calls kj11 (⟨#[]⟩ : ByteArray) t319 t320 _ A37.out).mono ?_); rintro e w' ⟨rfl, ⟨nd, rfl⟩⟩; (try first | exact ⟨rfl, _, World.drewN_drewN _ _ _⟩ | exact ⟨rfl, _, Eq.trans (World.drewN_drewN _ _ _) (congrArg (World.drewN _) (Nat.add_assoc _ _ _))⟩))))
         go_ret2
         exact ⟨by first | rfl | (simp [errW_none, errW_some] <;> rfl) | (simp [*, errW_none, errW_some] <;> rfl), (zb1 HB)⟩
       ·rw [if_neg c38] at H
        have c38b0 : (t320 == 0) = false := beq_eq_false_iff_ne.mpr c38
        have c38b1 : (t320 != 0) = true := bne_iff_ne.mpr c38
        simp only [Option.some.injEq, Prod.mk.injEq] at H
        obtain ⟨rfl, rfl⟩ := H
        go_wp2_with (first | (go_at_call 88; (with_reducible refine (kauditref02_Quote.calls kj11 (⟨#[]⟩ : ByteArray) t319 t320 _ A37.out).mono ?_); rintro e w' ⟨rfl, ⟨nd, rfl⟩⟩; (try first | exact ⟨rfl, _, World.drewN_drewN _ _ _⟩ | exact ⟨rfl, _, Eq.trans (World.drewN_drewN _ _ _) (congrArg (World.drewN _) (Nat.add_assoc _ _ _))⟩)))
        repeat (go_quiet (first | (go_at_call 88; (with_reducible refine (kauditref02_Quote.calls kj11 (⟨#[]⟩ : ByteArray) t319 t320 _ A37.out).mono ?_); rintro e w' ⟨rfl, ⟨nd, rfl⟩⟩; (try first | exact ⟨rfl, _, World.drewN_drewN _ _ _⟩ | exact ⟨rfl, _, Eq.trans (World.drewN_drewN _ _ _) (congrArg (World.drewN _) (Nat.add_assoc _ _ _))⟩))); try go_wp2_with (first | (go_at_call 88; (with_reducible refine (kauditref02_Quote.calls kj11 (⟨#[]⟩ : ByteArray) t319 t320 _ A37.out).mono ?_); rintro e w' ⟨rfl, ⟨nd, rfl⟩⟩; (try first | exact ⟨rfl, _, World.drewN_drewN _ _ _⟩ | exact ⟨rfl, _, Eq.trans (World.drewN_drewN _ _ _) (congrArg (World.drewN _) (Nat.add_assoc _ _ _))⟩))))
        go_ret2
        exact ⟨by first | rfl | (simp [errW_none, errW_some] <;> rfl) | (simp [*, errW_none, errW_some] <;> rfl), (zb1 HB)⟩
def kauditref03_Number.l0 : Nat → ByteArray → List (S126) → Int → Option (Int)
 | 0, _, _, _ => none
 | k + 1, x0, x3, x4 => if x4 < (x3.length : Int) then (if 0 ≤ x4 then (if ((Zbh x3 x4).f0).toList = x0.toList then (some ((Zbh x3 x4).f1)) else (kauditref03_Number.l0 k x0 x3 (wrap64 (x4 + 1)))) else (none)) else (some 0)
def kauditref03_Number.f (k : Nat) (a0 : ByteArray) : Option (Int) := (kauditref03_kinds.f).bind fun t321 => (kauditref03_Number.l0 k a0 t321 0)
theorem kauditref03_Number.mono_l : ∀ k, (∀ y0 y1 y2, LeO (kauditref03_Number.l0 k y0 y1 y2) (kauditref03_Number.l0 (k + 1) y0 y1 y2))
 | 0 => fun _ _ _ r h => by simp [kauditref03_Number.l0] at h
 | k + 1 => by
  have ih0 := kauditref03_Number.mono_l k
  ·intro y0 y1 y2
   unfold kauditref03_Number.l0
   repeat' first
   | (with_reducible exact ih0 _ _ _)
   | (with_reducible exact LeO.refl _)
   | (with_reducible exact LeO.none _)
   | (with_reducible refine LeO.ite ?_ ?_)
   | (with_reducible refine LeO.bind ?_ (fun _ => ?_))
   | exact ih0 _ _ _
   | exact LeO.none _
   | refine LeO.ite ?_ ?_
   | refine LeO.bind ?_ (fun _ => ?_)
theorem kauditref03_Number.mono : ∀ a0 k, LeO (kauditref03_Number.f k a0) (kauditref03_Number.f (k + 1) a0) := by
 intro a0 k
 have ih0 := kauditref03_Number.mono_l k
 unfold kauditref03_Number.f
 repeat' first
   | (with_reducible exact ih0 _ _ _)
   | (with_reducible exact LeO.refl _)
   | (with_reducible exact LeO.none _)
   | (with_reducible refine LeO.ite ?_ ?_)
   | (with_reducible refine LeO.bind ?_ (fun _ => ?_))
   | exact ih0 _ _ _
   | exact LeO.none _
   | refine LeO.ite ?_ ?_
   | refine LeO.bind ?_ (fun _ => ?_)
set_option maxHeartbeats 8000000 in
set_option maxRecDepth 100000 in
theorem kauditref03_Number.calls (k : Nat) (a0 : ByteArray) (r : Int) (w : World) (h : kauditref03_Number.f k a0 = some r) :
  Calls Tryz.prog 96 #[.string a0] w fun e w' => e = .returned (.int .i64 r) ∧ Below w.heap.size w w' := by
 have HB := Zaa.mk (Below.refl w.heap.size w)
 unfold kauditref03_Number.f at h
 have H := h
 clear h
 replace H := Option.bind_eq_some_iff.mp H
 obtain ⟨t321, A20, H⟩ := H
 try dsimp only at H
 have A2 := Zaa.mk A20
 clear A20
 have H' := Zaa.mk H
 clear H
 go_enter Tryz.func96, Tryz.ntmps96
 go_wp2_with (first | ((with_reducible refine Zam (f := 117) rfl ?_); refine Za1 (some 5) rfl rfl Tryz.func117 (by kernel_rfl) rfl #[] rfl zam ?_; (with_reducible refine (kauditref03_kinds.calls  t321 _ A2.out).mono ?_); rintro e w3 ⟨v322, rfl, ho0, hb⟩; refine ⟨_, rfl, ?_⟩; have HO323 := Zaa.mk (Kd.R_lower ho0 (Zai (zb1 HB))); replace HB := Zaa.mk (Zae (zb1 HB) hb); (try clear hb); (try clear ho0)))
 go_loopg [4] k (fun kq v4 w' => ∃ (x4_1 : Int), v4 = .int .i64 x4_1 ∧ Zaa (kauditref03_Number.l0 kq a0 t321 x4_1 = some r) ∧ Zaa (kq ≤ k) ∧ Zaa (Kd.R k126 126 w' w.heap.size (fun _ => True) v322 t321) ∧ Zaa (Below w.heap.size w w'))
 case atStart => exact ⟨(0), (by first | rfl | (simp; done) | (simp [*]; done)), H', ⟨Nat.le_refl _⟩, ⟨by (with_reducible repeat (first | apply Kd.R_alloc | apply Kd.R_drewN | apply Kd.R_drew)); exact HO323.out⟩, ⟨(zb1 HB)⟩⟩
 case round =>
  clear H'
  obtain ⟨x4_1, rfl, HA, HK1, HO_3, HB⟩ := hrel
  cases gk with
  | zero => exact absurd HA.out (by simp [kauditref03_Number.l0])
  | succ k1 =>
   have H := HA.out
   clear HA
   simp only [kauditref03_Number.l0] at H
   by_cases c4 : x4_1 < (t321.length : Int)
   ·rw [if_pos c4] at H
    have c4b0 : decide (x4_1 < (t321.length : Int)) = true := decide_eq_true c4
    clear c4
    by_cases c5 : 0 ≤ x4_1
    ·rw [if_pos c5] at H
     have c5b0 : decide (0 ≤ x4_1) = true := decide_eq_true c5
     clear c5
     by_cases c6 : ((Zbh t321 x4_1).f0).toList = a0.toList
     ·rw [if_pos c6] at H
      have c6b0 : (((Zbh t321 x4_1).f0).toList == a0.toList) = true := beq_iff_eq.mpr c6
      have c6b1 : (((Zbh t321 x4_1).f0).toList != a0.toList) = false := bne_eq_false_iff_eq.mpr c6
      clear c6
      obtain rfl := Option.some.inj H
      obtain ⟨Ao7, co7, eo7⟩ := Kd.R_slice HO_3.out
      subst eo7
      have p324 : 0 ≤ (x4_1 : Int) := zod
      have q324 : x4_1 < (t321.length : Int) := zod
      obtain ⟨ad324, e324, hx324_0, hx324_1, hx324_2⟩ := at_T126 (Kd.R_reads' HO_3.out).2.2 x4_1 p324 q324
      cases e324
      replace p324 := eq_true p324
      replace q324 := eq_true q324
      have p325 : 0 ≤ (x4_1 : Int) := zod
      have q325 : x4_1 < (t321.length : Int) := zod
      obtain ⟨ad325, e325, hx325_0, hx325_1, hx325_2⟩ := at_T126 (Kd.R_reads' HO_3.out).2.2 x4_1 p325 q325
      obtain rfl : ad324 = ad325 := (by injection e325)
      replace p325 := eq_true p325
      replace q325 := eq_true q325
      go_wp2
      go_ret
      exact ⟨by first | rfl | (simp [errW_none, errW_some] <;> rfl) | (simp [*, errW_none, errW_some] <;> rfl), (zb1 HB)⟩
     ·rw [if_neg c6] at H
      have c6b0 : (((Zbh t321 x4_1).f0).toList == a0.toList) = false := beq_eq_false_iff_ne.mpr c6
      have c6b1 : (((Zbh t321 x4_1).f0).toList != a0.toList) = true := bne_iff_ne.mpr c6
      have H' := Zaa.mk H
      clear H
      obtain ⟨Ao8, co8, eo8⟩ := Kd.R_slice HO_3.out
      subst eo8
      have p324 : 0 ≤ (x4_1 : Int) := zod
      have q324 : x4_1 < (t321.length : Int) := zod
      obtain ⟨ad324, e324, hx324_0, hx324_1, hx324_2⟩ := at_T126 (Kd.R_reads' HO_3.out).2.2 x4_1 p324 q324
      cases e324
      replace p324 := eq_true p324
      replace q324 := eq_true q324
      go_wp2
      go_roundg k1
      case measure => have := HK1.out; omega
      case rel => exact ⟨(wrap64 (x4_1 + 1)), (by first | rfl | (simp; done) | (simp [*]; done)), H', ⟨by have := HK1.out; omega⟩, ⟨by (with_reducible repeat (first | apply Kd.R_alloc | apply Kd.R_drewN | apply Kd.R_drew)); exact HO_3.out⟩, ⟨(zb1 HB)⟩⟩
    ·rw [if_neg c5] at H
     exact absurd H (by simp)
   ·rw [if_neg c4] at H
    have c4b0 : decide (x4_1 < (t321.length : Int)) = false := decide_eq_false c4
    clear c4
    obtain rfl := Option.some.inj H
    obtain ⟨Ao9, co9, eo9⟩ := Kd.R_slice HO_3.out
    subst eo9
    go_wp2
    go_ret
    exact ⟨by first | rfl | (simp [errW_none, errW_some] <;> rfl) | (simp [*, errW_none, errW_some] <;> rfl), (zb1 HB)⟩
end Go.Proofs.YtodbabeldolcbaaGreatDoor.PA
