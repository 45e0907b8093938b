/- Contracts of functions of the program: written by pr2.py (ours, round the print of the kit) out of the translation; conditions: each contract names its own. -/
import Derived.Test.YtodbabeldolcbaaGreatDoorY9PAx0
import Derived.Test.YtodbabeldolcbaaGreatDoorY9EQuote
namespace Go.Proofs.YtodbabeldolcbaaGreatDoor.PA
open Go.RowKit Go.Proofs.YtodbabeldolcbaaGreatDoorW.PrintWords Go.Proofs.YtodbabeldolcbaaGreatDoorW.PrintLast Go.Proofs.YtodbabeldolcbaaGreatDoorW.PrintMore
attribute [local go_sem] Zbg Zbe Zbs Zbr Za8 Za7 Zbf Zbd   -- for this text's walks alone
set_option linter.unusedVariables false
set_option linter.unusedSimpArgs false
-- EXTERNAL: function 104 (value_Quote)
-- EXTERNAL: function 144 (value_digit)
mutual
def value_Unquote.j0 : Nat → ByteArray → ByteArray → Bool → Option (ByteArray × Int)
 | 0, _, _, _ => none
 | k + 1, x0, x4, x9 => if x9 = true then (if 1 ≤ (wrap64 ((x0.size : Int) - 1)) then (if (wrap64 ((x0.size : Int) - 1)) ≤ (x0.size : Int) then ((value_Quote.f (x0.extract 1 ((wrap64 ((x0.size : Int) - 1)) : Int).toNat)).bind fun bt289 => (if bt289.2 = 0 then (if bt289.1.toList = x0.toList then (some (x0.extract 1 ((wrap64 ((x0.size : Int) - 1)) : Int).toNat, 0)) else (some ((⟨#[]⟩ : ByteArray), 21))) else (some ((⟨#[]⟩ : ByteArray), 21)))) else (none)) else (none)) else (if ((x0.size : Int) % 2) = 1 then (if 0 < (x0.size : Int) then (value_Unquote.j1 k x0 x4 ((bt x0 0) == 120)) else (none)) else (value_Unquote.j1 k x0 x4 false))
def value_Unquote.j1 : Nat → ByteArray → ByteArray → Bool → Option (ByteArray × Int)
 | 0, _, _, _ => none
 | k + 1, x0, x4, x31 => if x31 = true then (value_Unquote.l0 k x0 ([] : List Int) 1) else ((value_Quote.f x4).bind fun bt298 => (if bt298.2 = 0 then (if bt298.1.toList = x0.toList then (some (x4, 0)) else (some ((⟨#[]⟩ : ByteArray), 21))) else (some ((⟨#[]⟩ : ByteArray), 21))))
def value_Unquote.l0 : Nat → ByteArray → List Int → Int → Option (ByteArray × Int)
 | 0, _, _, _ => none
 | k + 1, x0, x5, x6 => if x6 < (x0.size : Int) then (if 0 ≤ x6 then ((value_digit.f (bt x0 x6)).bind fun t291 => (if 0 ≤ (wrap64 (x6 + 1)) then (if (wrap64 (x6 + 1)) < (x0.size : Int) then ((value_digit.f (bt x0 (wrap64 (x6 + 1)))).bind fun t292 => (if x5.length < 140737488355328 then (value_Unquote.l0 k x0 (x5 ++ [Go.bits .or .u8 ((t291 * 16) % 256) (Go.bits .and .u8 t292 15)]) (wrap64 (x6 + 2))) else (none))) else (none)) else (none))) else (none)) else ((value_Quote.f (strOfNums x5)).bind fun bt296 => (if bt296.2 = 0 then (if bt296.1.toList = x0.toList then (some (strOfNums x5, 0)) else (some ((⟨#[]⟩ : ByteArray), 21))) else (some ((⟨#[]⟩ : ByteArray), 21))))
end
def value_Unquote.f (k : Nat) (a0 : ByteArray) : Option (ByteArray × Int) := if (a0.size : Int) ≥ 2 then (if 0 < (a0.size : Int) then (if (bt a0 0) = 34 then (if 0 ≤ (wrap64 ((a0.size : Int) - 1)) then (if (wrap64 ((a0.size : Int) - 1)) < (a0.size : Int) then (value_Unquote.j0 k a0 (⟨#[]⟩ : ByteArray) ((bt a0 (wrap64 ((a0.size : Int) - 1))) == 34)) else (none)) else (none)) else (value_Unquote.j0 k a0 (⟨#[]⟩ : ByteArray) false)) else (none)) else (value_Unquote.j0 k a0 (⟨#[]⟩ : ByteArray) false)
theorem value_Unquote.mono_l : ∀ k, (∀ y0 y1 y2, LeO (value_Unquote.j0 k y0 y1 y2) (value_Unquote.j0 (k + 1) y0 y1 y2)) ∧ (∀ y0 y1 y2, LeO (value_Unquote.j1 k y0 y1 y2) (value_Unquote.j1 (k + 1) y0 y1 y2)) ∧ (∀ y0 y1 y2, LeO (value_Unquote.l0 k y0 y1 y2) (value_Unquote.l0 (k + 1) y0 y1 y2))
 | 0 => ⟨fun _ _ _ r h => by simp [value_Unquote.j0] at h, fun _ _ _ r h => by simp [value_Unquote.j1] at h, fun _ _ _ r h => by simp [value_Unquote.l0] at h⟩
 | k + 1 => by
  obtain ⟨ih0, ih1, ih2⟩ := value_Unquote.mono_l k
  refine ⟨?_, ?_, ?_⟩
  ·intro y0 y1 y2
   unfold value_Unquote.j0
   repeat' first
   | (with_reducible exact ih0 _ _ _)
   | (with_reducible exact ih1 _ _ _)
   | (with_reducible exact ih2 _ _ _)
   | (with_reducible exact LeO.refl _)
   | (with_reducible exact LeO.none _)
   | (with_reducible refine LeO.ite ?_ ?_)
   | (with_reducible refine LeO.bind ?_ (fun _ => ?_))
   | exact ih0 _ _ _
   | exact ih1 _ _ _
   | exact ih2 _ _ _
   | exact LeO.none _
   | refine LeO.ite ?_ ?_
   | refine LeO.bind ?_ (fun _ => ?_)
  ·intro y0 y1 y2
   unfold value_Unquote.j1
   repeat' first
   | (with_reducible exact ih0 _ _ _)
   | (with_reducible exact ih1 _ _ _)
   | (with_reducible exact ih2 _ _ _)
   | (with_reducible exact LeO.refl _)
   | (with_reducible exact LeO.none _)
   | (with_reducible refine LeO.ite ?_ ?_)
   | (with_reducible refine LeO.bind ?_ (fun _ => ?_))
   | exact ih0 _ _ _
   | exact ih1 _ _ _
   | exact ih2 _ _ _
   | exact LeO.none _
   | refine LeO.ite ?_ ?_
   | refine LeO.bind ?_ (fun _ => ?_)
  ·intro y0 y1 y2
   unfold value_Unquote.l0
   repeat' first
   | (with_reducible exact ih0 _ _ _)
   | (with_reducible exact ih1 _ _ _)
   | (with_reducible exact ih2 _ _ _)
   | (with_reducible exact LeO.refl _)
   | (with_reducible exact LeO.none _)
   | (with_reducible refine LeO.ite ?_ ?_)
   | (with_reducible refine LeO.bind ?_ (fun _ => ?_))
   | exact ih0 _ _ _
   | exact ih1 _ _ _
   | exact ih2 _ _ _
   | exact LeO.none _
   | refine LeO.ite ?_ ?_
   | refine LeO.bind ?_ (fun _ => ?_)
theorem value_Unquote.mono : ∀ a0 k, LeO (value_Unquote.f k a0) (value_Unquote.f (k + 1) a0) := by
 intro a0 k
 obtain ⟨ih0, ih1, ih2⟩ := value_Unquote.mono_l k
 unfold value_Unquote.f
 repeat' first
   | (with_reducible exact ih0 _ _ _)
   | (with_reducible exact ih1 _ _ _)
   | (with_reducible exact ih2 _ _ _)
   | (with_reducible exact LeO.refl _)
   | (with_reducible exact LeO.none _)
   | (with_reducible refine LeO.ite ?_ ?_)
   | (with_reducible refine LeO.bind ?_ (fun _ => ?_))
   | exact ih0 _ _ _
   | exact ih1 _ _ _
   | exact ih2 _ _ _
   | exact LeO.none _
   | refine LeO.ite ?_ ?_
   | refine LeO.bind ?_ (fun _ => ?_)
def value_Unquote.T9 : Bool × List (List Nat × List Nat) := (true, [([], []), ([], []), ([], []), ([1, 2], [1, 2]), ([3], [3]), ([4], [4]), ([], []), ([], []), ([7], [7]), ([6, 8], [6, 8]), ([9, 4], [9]), ([10], [10]), ([5, 11], [5, 11]), ([12], [12]), ([0, 13, 10], [0, 13]), ([14, 14, 0, 1, 2, 3, 4, 5, 6, 7, 8, 9, 10, 11, 12, 13, 14], [0, 14])])
def value_Unquote.B9 : List Nat := [0, 0, 0, 6, 14, 30, 0, 0, 128, 448, 990, 2014, 4094, 8190, 16383, 32767]
theorem value_Unquote.tab9 : rtab .any (opsOf Tryz.f125 9) = value_Unquote.T9 := by kernel_rfl
theorem value_Unquote.bits9 : waitsOk value_Unquote.T9.2 value_Unquote.B9 = true := by kernel_rfl
set_option maxHeartbeats 8000000 in
set_option maxRecDepth 100000 in
theorem value_Unquote.calls (k : Nat) (a0 : ByteArray) (r1 : ByteArray) (r2 : Int) (w : World) (hG : GT 0 w) (h : value_Unquote.f k a0 = some (r1, r2)) :
  Calls Tryz.prog 125 #[.string a0] w fun e w' => e = .returned (.tuple #[.string r1, .int .i64 r2]) ∧ Below w.heap.size w w' := by
 have HG := Zaa.mk hG
 clear hG
 have HB := Zaa.mk (Below.refl w.heap.size w)
 unfold value_Unquote.f at h
 have H := h
 clear h
 have HC2 := Zaa.mk H
 clear H
 go_enter Tryz.func125, Tryz.ntmps125
 go_upto_region 2 with (fail)
 go_cut [9] (fun v9 wc => ∃ (kq : Nat) (x9_1 : Bool), v9 = .bool x9_1 ∧ Zaa (value_Unquote.j0 kq a0 (⟨#[]⟩ : ByteArray) x9_1 = some (r1, r2)) ∧ Zaa (kq ≤ k) ∧ Zaa (Below w.heap.size w wc))
 case first =>
  have H := HC2.out
  clear HC2
  by_cases c3 : (a0.size : Int) ≥ 2
  ·rw [if_pos c3] at H
   have c3b0 : decide (2 ≤ (a0.size : Int)) = true := decide_eq_true c3
   have c3b1 : decide (2 ≤ a0.size) = true := decide_eq_true (by omega)
   clear c3
   (first | rw [c3b0] | (simp only [Zax, Zay]; rw [c3b0]) | skip)
   by_cases c4 : 0 < (a0.size : Int)
   ·rw [if_pos c4] at H
    have c4b0 : decide (0 < (a0.size : Int)) = true := decide_eq_true c4
    have c4b1 : decide (0 < a0.size) = true := decide_eq_true (by omega)
    clear c4
    by_cases c6 : (bt a0 0) = 34
    ·rw [if_pos c6] at H
     have c6b0 : ((bt a0 0) == 34) = true := beq_iff_eq.mpr c6
     have c6b1 : ((bt a0 0) != 34) = false := bne_eq_false_iff_eq.mpr c6
     clear c6
     obtain ⟨ji7, hji7⟩ : ∃ j_ : Int, (wrap64 ((a0.size : Int) - 1)) = j_ := ⟨_, rfl⟩
     replace H : (if 0 ≤ (ji7) then (if (ji7) < (a0.size : Int) then (value_Unquote.j0 k a0 (⟨#[]⟩ : ByteArray) ((bt a0 (ji7)) == 34)) else (none)) else (none)) = some (r1, r2) := by first | (rw [hji7] at H; exact H) | (simp only [hji7] at H ⊢; exact H)
     have hji7w : (IntKind.i64.wrap ((a0.size : Int) - 1)) = ji7 := (Zax _).trans hji7
     by_cases c8 : 0 ≤ (ji7)
     ·rw [if_pos c8] at H
      have c8b0 : decide (0 ≤ (ji7)) = true := decide_eq_true c8
      clear c8
      by_cases c9 : (ji7) < (a0.size : Int)
      ·rw [if_pos c9] at H
       have c9b0 : decide ((ji7) < (a0.size : Int)) = true := decide_eq_true c9
       clear c9
       have H' := Zaa.mk H
       clear H
       have p5 : 0 ≤ (0 : Int) := (by omega)
       have q5 : 0 < a0.size := (by have : (0 : Int) < (a0.size : Int) := zod; omega)
       have hx5 : ∀ h : 0 < a0.size, ((a0[0]'h).toNat : Int) = bt a0 0 := Za0 a0 0
       clear p5
       have qi5 : (0 < (a0.size : Int)) = True := eq_true (zod)
       replace q5 := eq_true q5
       have p10 : 0 ≤ ((ji7) : Int) := zod
       have q10 : (ji7) < (a0.size : Int) := zod
       have hx10 := Za0 a0 (ji7)
       replace p10 := eq_true p10
       replace q10 := eq_true q10
       go_wp2
       go_meet
       case rel => exact ⟨_, (((bt a0 (ji7)) == 34)), (by first | rfl | (simp; done) | (simp only [← hji7] <;> (first | rfl | simp)) | (simp [*]; done)), H', ⟨by first | omega | exact Nat.le_refl _⟩, ⟨(zb1 HB)⟩⟩
      ·rw [if_neg c9] at H
       exact absurd H (by simp)
     ·rw [if_neg c8] at H
      exact absurd H (by simp)
    ·rw [if_neg c6] at H
     have c6b0 : ((bt a0 0) == 34) = false := beq_eq_false_iff_ne.mpr c6
     have c6b1 : ((bt a0 0) != 34) = true := bne_iff_ne.mpr c6
     have H' := Zaa.mk H
     clear H
     have p5 : 0 ≤ (0 : Int) := (by omega)
     have q5 : 0 < a0.size := (by have : (0 : Int) < (a0.size : Int) := zod; omega)
     have hx5 : ∀ h : 0 < a0.size, ((a0[0]'h).toNat : Int) = bt a0 0 := Za0 a0 0
     clear p5
     have qi5 : (0 < (a0.size : Int)) = True := eq_true (zod)
     replace q5 := eq_true q5
     go_wp2
     go_meet
     case rel => exact ⟨_, (false), (by first | rfl | (simp; done) | (simp [*]; done)), H', ⟨by first | omega | exact Nat.le_refl _⟩, ⟨(zb1 HB)⟩⟩
   ·rw [if_neg c4] at H
    exact absurd H (by simp)
  ·rw [if_neg c3] at H
   have c3b0 : decide (2 ≤ (a0.size : Int)) = false := decide_eq_false c3
   have c3b1 : decide (2 ≤ a0.size) = false := decide_eq_false (by omega)
   clear c3
   (first | rw [c3b0] | (simp only [Zax, Zay]; rw [c3b0]) | skip)
   have H' := Zaa.mk H
   clear H
   go_wp2
   go_meet
   case rel => exact ⟨_, (false), (by first | rfl | (simp; done) | (simp [*]; done)), H', ⟨by first | omega | exact Nat.le_refl _⟩, ⟨(zb1 HB)⟩⟩
 case rest =>
  clear HC2
  obtain ⟨kq, x9_1, rfl, HA, HJ1, HB⟩ := hcut
  cases kq with
  | zero => exact absurd HA.out (by simp [value_Unquote.j0])
  | succ kj1 =>
   have H := HA.out
   clear HA
   simp only [value_Unquote.j0] at H
   by_cases c11 : x9_1 = true
   ·subst c11
    rw [if_pos rfl] at H
    by_cases c12 : 1 ≤ (wrap64 ((a0.size : Int) - 1))
    ·rw [if_pos c12] at H
     have c12b0 := eq_true c12
     have c12b1 : decide (1 ≤ (wrap64 ((a0.size : Int) - 1))) = true := decide_eq_true c12
     clear c12
     by_cases c13 : (wrap64 ((a0.size : Int) - 1)) ≤ (a0.size : Int)
     ·rw [if_pos c13] at H
      have c13b0 := eq_true c13
      have c13b1 : decide ((wrap64 ((a0.size : Int) - 1)) ≤ (a0.size : Int)) = true := decide_eq_true c13
      clear c13
      replace H := Option.bind_eq_some_iff.mp H
      obtain ⟨⟨t289, t290⟩, A140, H⟩ := H
      try dsimp only at H
      have A14 := Zaa.mk A140
      clear A140
      by_cases c15 : t290 = 0
      ·rw [if_pos c15] at H
       have c15b0 : (t290 == 0) = true := beq_iff_eq.mpr c15
       have c15b1 : (t290 != 0) = false := bne_eq_false_iff_eq.mpr c15
       clear c15
       by_cases c16 : t289.toList = a0.toList
       ·rw [if_pos c16] at H
        have c16b0 : (t289.toList == a0.toList) = true := beq_iff_eq.mpr c16
        have c16b1 : (t289.toList != a0.toList) = false := bne_eq_false_iff_eq.mpr c16
        clear c16
        simp only [Option.some.injEq, Prod.mk.injEq] at H
        obtain ⟨rfl, rfl⟩ := H
        go_wp2_with (first | ((with_reducible refine Zam (f := 104) rfl ?_); refine Za1 (some 66) rfl rfl Tryz.func104 (by kernel_rfl) rfl #[.string (a0.extract 1 ((wrap64 ((a0.size : Int) - 1)) : Int).toNat)] rfl zam ?_; (with_reducible refine (value_Quote.calls (a0.extract 1 ((wrap64 ((a0.size : Int) - 1)) : Int).toNat) t289 t290 _ ?side1 A14.out).mono ?_); (case side1 => exact GT.below (by decide) HG.out (zb1 HB)); rintro e w17 ⟨rfl, hb⟩; refine ⟨_, rfl, ?_⟩; replace HB := Zaa.mk (Zae (zb1 HB) hb); (try clear hb)))
        go_ret2
        exact ⟨by first | rfl | (simp [errW_none, errW_some] <;> rfl) | (simp [*, errW_none, errW_some] <;> rfl), (zb1 HB)⟩
       ·rw [if_neg c16] at H
        have c16b0 : (t289.toList == a0.toList) = false := beq_eq_false_iff_ne.mpr c16
        have c16b1 : (t289.toList != a0.toList) = true := bne_iff_ne.mpr c16
        simp only [Option.some.injEq, Prod.mk.injEq] at H
        obtain ⟨rfl, rfl⟩ := H
        go_wp2_with (first | ((with_reducible refine Zam (f := 104) rfl ?_); refine Za1 (some 66) rfl rfl Tryz.func104 (by kernel_rfl) rfl #[.string (a0.extract 1 ((wrap64 ((a0.size : Int) - 1)) : Int).toNat)] rfl zam ?_; (with_reducible refine (value_Quote.calls (a0.extract 1 ((wrap64 ((a0.size : Int) - 1)) : Int).toNat) t289 t290 _ ?side1 A14.out).mono ?_); (case side1 => exact GT.below (by decide) HG.out (zb1 HB)); rintro e w18 ⟨rfl, hb⟩; refine ⟨_, rfl, ?_⟩; replace HB := Zaa.mk (Zae (zb1 HB) hb); (try clear hb)))
        go_ret2
        exact ⟨by first | rfl | (simp [errW_none, errW_some] <;> rfl) | (simp [*, errW_none, errW_some] <;> rfl), (zb1 HB)⟩
      ·rw [if_neg c15] at H
       have c15b0 : (t290 == 0) = false := beq_eq_false_iff_ne.mpr c15
       have c15b1 : (t290 != 0) = true := bne_iff_ne.mpr c15
       simp only [Option.some.injEq, Prod.mk.injEq] at H
       obtain ⟨rfl, rfl⟩ := H
       go_wp2_with (first | ((with_reducible refine Zam (f := 104) rfl ?_); refine Za1 (some 66) rfl rfl Tryz.func104 (by kernel_rfl) rfl #[.string (a0.extract 1 ((wrap64 ((a0.size : Int) - 1)) : Int).toNat)] rfl zam ?_; (with_reducible refine (value_Quote.calls (a0.extract 1 ((wrap64 ((a0.size : Int) - 1)) : Int).toNat) t289 t290 _ ?side1 A14.out).mono ?_); (case side1 => exact GT.below (by decide) HG.out (zb1 HB)); rintro e w19 ⟨rfl, hb⟩; refine ⟨_, rfl, ?_⟩; replace HB := Zaa.mk (Zae (zb1 HB) hb); (try clear hb)))
       go_ret2
       exact ⟨by first | rfl | (simp [errW_none, errW_some] <;> rfl) | (simp [*, errW_none, errW_some] <;> rfl), (zb1 HB)⟩
     ·rw [if_neg c13] at H
      exact absurd H (by simp)
    ·rw [if_neg c12] at H
     exact absurd H (by simp)
   ·replace c11 := Bool.eq_false_iff.mpr c11
    subst c11
    rw [if_neg (show ¬ (false = true) by decide)] at H
    have HC20 := Zaa.mk H
    clear H
    go_upto_region 4 with (fail)
    go_cut [31] (fun v31 wc => ∃ (kq : Nat) (x31_19 : Bool), v31 = .bool x31_19 ∧ Zaa (value_Unquote.j1 kq a0 (⟨#[]⟩ : ByteArray) x31_19 = some (r1, r2)) ∧ Zaa (kq ≤ kj1) ∧ Zaa (Below w.heap.size w wc))
    case first =>
     have H := HC20.out
     clear HC20
     by_cases c21 : ((a0.size : Int) % 2) = 1
     ·rw [if_pos c21] at H
      have c21b0 : (((a0.size : Int) % 2) == 1) = true := beq_iff_eq.mpr c21
      have c21b1 : (((a0.size : Int) % 2) != 1) = false := bne_eq_false_iff_eq.mpr c21
      clear c21
      (first | rw [c21b0] | (simp only [Zax, Zay]; rw [c21b0]) | skip)
      by_cases c22 : 0 < (a0.size : Int)
      ·rw [if_pos c22] at H
       have c22b0 : decide (0 < (a0.size : Int)) = true := decide_eq_true c22
       have c22b1 : decide (0 < a0.size) = true := decide_eq_true (by omega)
       clear c22
       have H' := Zaa.mk H
       clear H
       have p23 : 0 ≤ (0 : Int) := (by omega)
       have q23 : 0 < a0.size := (by have : (0 : Int) < (a0.size : Int) := zod; omega)
       have hx23 : ∀ h : 0 < a0.size, ((a0[0]'h).toNat : Int) = bt a0 0 := Za0 a0 0
       clear p23
       have qi23 : (0 < (a0.size : Int)) = True := eq_true (zod)
       replace q23 := eq_true q23
       go_wp2
       go_meet
       case rel => exact ⟨_, (((bt a0 0) == 120)), (by first | rfl | (simp; done) | (simp [*]; done)), H', ⟨by have := HJ1.out; first | omega | exact Nat.le_refl _⟩, ⟨(zb1 HB)⟩⟩
      ·rw [if_neg c22] at H
       exact absurd H (by simp)
     ·rw [if_neg c21] at H
      have c21b0 : (((a0.size : Int) % 2) == 1) = false := beq_eq_false_iff_ne.mpr c21
      have c21b1 : (((a0.size : Int) % 2) != 1) = true := bne_iff_ne.mpr c21
      (first | rw [c21b0] | (simp only [Zax, Zay]; rw [c21b0]) | skip)
      have H' := Zaa.mk H
      clear H
      go_wp2
      go_meet
      case rel => exact ⟨_, (false), (by first | rfl | (simp; done) | (simp [*]; done)), H', ⟨by have := HJ1.out; first | omega | exact Nat.le_refl _⟩, ⟨(zb1 HB)⟩⟩
    case rest =>
     clear HC20
     (try clear c11)
     obtain ⟨kq, x31_19, rfl, HA, HJ19, HB⟩ := hcut
     cases kq with
     | zero => exact absurd HA.out (by simp [value_Unquote.j1])
     | succ kj19 =>
      have H := HA.out
      clear HA
      simp only [value_Unquote.j1] at H
      by_cases c24 : x31_19 = true
      ·subst c24
       rw [if_pos rfl] at H
       have H' := Zaa.mk H
       clear H
       go_wp2
       go_loopg [5, 6] kj19 (fun kq v5 v6 w' => ∃ (x5_3 : List Int) (x6_3 : Int), v6 = .int .i64 x6_3 ∧ Zaa (value_Unquote.l0 kq a0 x5_3 x6_3 = some (r1, r2)) ∧ Zaa (kq ≤ kj19) ∧ Zaa (Kd.R (Kd.int .u8) 5 w' w.heap.size (fun _ => True) v5 x5_3) ∧ Zaa (Below w.heap.size w w'))
       case atStart => exact ⟨(([] : List Int)), (1), (by first | rfl | (simp; done) | (simp [*]; done)), H', ⟨Nat.le_refl _⟩, ⟨by first | exact Kd.R_nil _ _ _ _ _ | exact Kd.N_nil _ _ _ _ _ | exact Kd.V_nil _ _ _ _ _ | exact Kd.Q_nil _ _ _ _ _ | exact Kd.S_nil _ _ _ _ _⟩, ⟨(zb1 HB)⟩⟩
       case round =>
        clear H'
        (try clear c11)
        (try clear c24)
        obtain ⟨x5_3, x6_3, rfl, HA, HK3, HO_5, HB⟩ := hrel
        cases gk with
        | zero => exact absurd HA.out (by simp [value_Unquote.l0])
        | succ k3 =>
         have H := HA.out
         clear HA
         simp only [value_Unquote.l0] at H
         by_cases c25 : x6_3 < (a0.size : Int)
         ·rw [if_pos c25] at H
          have c25b0 : decide (x6_3 < (a0.size : Int)) = true := decide_eq_true c25
          clear c25
          by_cases c26 : 0 ≤ x6_3
          ·rw [if_pos c26] at H
           have c26b0 : decide (0 ≤ x6_3) = true := decide_eq_true c26
           clear c26
           replace H := Option.bind_eq_some_iff.mp H
           obtain ⟨t291, A280, H⟩ := H
           try dsimp only at H
           have A28 := Zaa.mk A280
           clear A280
           obtain ⟨ji29, hji29⟩ : ∃ j_ : Int, (wrap64 (x6_3 + 1)) = j_ := ⟨_, rfl⟩
           replace H : (if 0 ≤ (ji29) then (if (ji29) < (a0.size : Int) then ((value_digit.f (bt a0 (ji29))).bind fun t292 => (if x5_3.length < 140737488355328 then (value_Unquote.l0 k3 a0 (x5_3 ++ [Go.bits .or .u8 ((t291 * 16) % 256) (Go.bits .and .u8 t292 15)]) (wrap64 (x6_3 + 2))) else (none))) else (none)) else (none)) = some (r1, r2) := by first | (rw [hji29] at H; exact H) | (simp only [hji29] at H ⊢; exact H)
           (try rw [hji29] at A28)
           have hji29w : (IntKind.i64.wrap (x6_3 + 1)) = ji29 := (Zax _).trans hji29
           by_cases c30 : 0 ≤ (ji29)
           ·rw [if_pos c30] at H
            have c30b0 : decide (0 ≤ (ji29)) = true := decide_eq_true c30
            clear c30
            by_cases c31 : (ji29) < (a0.size : Int)
            ·rw [if_pos c31] at H
             have c31b0 : decide ((ji29) < (a0.size : Int)) = true := decide_eq_true c31
             clear c31
             replace H := Option.bind_eq_some_iff.mp H
             obtain ⟨t292, A330, H⟩ := H
             try dsimp only at H
             have A33 := Zaa.mk A330
             clear A330
             by_cases c34 : x5_3.length < 140737488355328
             ·rw [if_pos c34] at H
              have LMc34 := Zaa.mk c34
              clear c34
              obtain ⟨y293, hy293⟩ : ∃ y_ : List Int, y_ = (x5_3 ++ [Go.bits .or .u8 ((t291 * 16) % 256) (Go.bits .and .u8 t292 15)]) := ⟨_, rfl⟩
              replace H : (value_Unquote.l0 k3 a0 y293 (wrap64 (x6_3 + 2))) = some (r1, r2) := by first | (rw [hy293]; with_reducible exact H) | (have H2_ := (Option.bind_some _ _).symm.trans H; rw [hy293]; with_reducible exact H2_) | (have H2_ := (Option.bind_some _ _).symm.trans H; with_reducible exact H2_) | with_reducible exact H | (rw [hy293]; exact H) | exact H
              have Ny293 := Zaa.mk hy293
              clear hy293
              have H' := Zaa.mk H
              clear H
              try go_wp2
              replace HO_5 := Zaa.mk (Kd.R_drew HO_5.out)
              replace HB := Zaa.mk (Zau HB.out)
              have p27 : 0 ≤ (x6_3 : Int) := zod
              have q27 : x6_3 < (a0.size : Int) := zod
              have hx27 := Za0 a0 x6_3
              replace p27 := eq_true p27
              replace q27 := eq_true q27
              have p32 : 0 ≤ ((ji29) : Int) := zod
              have q32 : (ji29) < (a0.size : Int) := zod
              have hx32 := Za0 a0 (ji29)
              replace p32 := eq_true p32
              replace q32 := eq_true q32
              refine start_ (n := 16) (S := fun w' => True) (ds := []) #[false, false, false, false, false, false, false, false, false, false, false, false, false, false, false, false] (by kernel_rfl) rfl rfl trivial (fun hHeld => ?_); refine with_tabW value_Unquote.tab9 value_Unquote.bits9 (fun HT_ HW_ => ?_)
              generalize wr.drew = w35 at HO_5 HB hHeld ⊢
              refine Za4 (i := 0) (N := some 47) (v := ?_) (a' := ?_) #[true, false, false, false, false, false, false, false, false, false, false, false, false, false, false, false] rfl rfl (Zaz HT_.out (by kernel_rfl)) (fun _ _ _ h => h) (Or.inl ⟨by rfl, ?_⟩) ?_ ?_
              rotate_left
              ·intro w'
               go_simp
               with_reducible rfl
              rotate_left
              ·simp only [Act.put, List.setIfInBounds_toArray, List.set_cons_zero, List.set_cons_succ, Zax, Zay]
               rfl
              refine Za4 (i := 1) (N := some 48) (v := ?_) (a' := ?_) #[true, true, false, false, false, false, false, false, false, false, false, false, false, false, false, false] rfl rfl (Zaz HT_.out (by kernel_rfl)) (fun _ _ _ h => h) (Or.inl ⟨by rfl, ?_⟩) ?_ ?_
              rotate_left
              ·intro w'
               go_simp
               with_reducible rfl
              rotate_left
              ·simp only [Act.put, List.setIfInBounds_toArray, List.set_cons_zero, List.set_cons_succ, Zax, Zay]
               rfl
              refine Za4 (i := 2) (N := some 49) (v := ?_) (a' := ?_) #[true, true, true, false, false, false, false, false, false, false, false, false, false, false, false, false] rfl rfl (Zaz HT_.out (by kernel_rfl)) (fun _ _ _ h => h) (Or.inl ⟨by rfl, ?_⟩) ?_ ?_
              rotate_left
              ·intro w'
               go_simp
               with_reducible rfl
              rotate_left
              ·simp only [Act.put, List.setIfInBounds_toArray, List.set_cons_zero, List.set_cons_succ, Zax, Zay]
               rfl
              refine Za4 (i := 6) (N := some 53) (v := ?_) (a' := ?_) #[true, true, true, false, false, false, true, false, false, false, false, false, false, false, false, false] rfl rfl (Zaz HT_.out (by kernel_rfl)) (fun _ _ _ h => h) (Or.inl ⟨by rfl, ?_⟩) ?_ ?_
              rotate_left
              ·intro w'
               go_simp
               with_reducible rfl
              rotate_left
              ·simp only [Act.put, List.setIfInBounds_toArray, List.set_cons_zero, List.set_cons_succ, Zax, Zay]
               rfl
              refine Za4 (i := 7) (N := some 54) (v := ?_) (a' := ?_) #[true, true, true, false, false, false, true, true, false, false, false, false, false, false, false, false] rfl rfl (Zaz HT_.out (by kernel_rfl)) (fun _ _ _ h => h) (Or.inl ⟨by rfl, ?_⟩) ?_ ?_
              rotate_left
              ·intro w'
               go_simp
               with_reducible rfl
              rotate_left
              ·simp only [Act.put, List.setIfInBounds_toArray, List.set_cons_zero, List.set_cons_succ, Zax, Zay]
               rfl
              refine Za4 (i := 8) (N := some 55) (v := ?_) (a' := ?_) #[true, true, true, false, false, false, true, true, true, false, false, false, false, false, false, false] rfl rfl (Zaz HT_.out (by kernel_rfl)) (fun _ _ _ h => h) (Or.inl ⟨by rfl, ?_⟩) ?_ ?_
              rotate_left
              ·intro w'
               go_simp
               with_reducible rfl
              rotate_left
              ·simp only [Act.put, List.setIfInBounds_toArray, List.set_cons_zero, List.set_cons_succ, Zax, Zay]
               rfl
              refine take_ (i := 3) (N := some 50) (v := ?_) (a' := ?_) #[true, true, true, true, false, false, true, true, true, false, false, false, false, false, false, false] rfl rfl (Zb7 HT_.out HW_.out (by kernel_rfl)) (fun _ _ _ h => h) (Or.inl ⟨by rfl, ?_⟩) hHeld ?_ ?_
              rotate_left
              ·intro w' _
               go_simp
               with_reducible rfl
              rotate_left
              ·simp only [Act.put, List.setIfInBounds_toArray, List.set_cons_zero, List.set_cons_succ, Zax, Zay]
               rfl
              refine take_ (i := 9) (N := some 56) (v := ?_) (a' := ?_) #[true, true, true, true, false, false, true, true, true, true, false, false, false, false, false, false] rfl rfl (Zb7 HT_.out HW_.out (by kernel_rfl)) (fun _ _ _ h => h) (Or.inl ⟨by rfl, ?_⟩) hHeld ?_ ?_
              rotate_left
              ·intro w' _
               go_simp
               with_reducible rfl
              rotate_left
              ·simp only [Act.put, List.setIfInBounds_toArray, List.set_cons_zero, List.set_cons_succ, Zax, Zay]
               rfl
              refine one_ (i := 4) (N := some 51) #[true, true, true, true, true, false, true, true, true, true, false, false, false, false, false, false] rfl rfl (Zbq HT_.out (by kernel_rfl)) (by decide) (fun K hK => ?_)
              refine goes_ Tryz.func144 (by kernel_rfl) rfl #[.int .u8 (bt a0 x6_3)] (by rfl) rfl rfl zam ?_
              with_reducible refine (value_digit.calls (bt a0 x6_3) t291 _ ?side1 A28.out).mono ?_
              (case side1 => exact GT.below (by decide) HG.out (zb1 HB))
              rintro e w' ⟨rfl, ⟨nd, rfl⟩⟩
              refine ⟨_, rfl, ?_⟩
              refine hK.out _ _ trivial (fun hHeld => ?_)
              clear hK K
              refine norm_ (a' := ?_) ?_ ?_
              rotate_left
              ·show Act.put _ (some 51) _ = _
               simp only [Act.put, List.setIfInBounds_toArray, List.set_cons_zero, List.set_cons_succ, Zax, Zay]
               rfl
              refine Za4 (i := 5) (N := some 52) (v := ?_) (a' := ?_) #[true, true, true, true, true, true, true, true, true, true, false, false, false, false, false, false] rfl rfl (Zaz HT_.out (by kernel_rfl)) (fun _ _ _ h => h) (Or.inl ⟨by rfl, ?_⟩) ?_ ?_
              rotate_left
              ·intro w'
               go_simp
               with_reducible rfl
              rotate_left
              ·simp only [Act.put, List.setIfInBounds_toArray, List.set_cons_zero, List.set_cons_succ, Zax, Zay]
               rfl
              refine one_ (i := 10) (N := some 57) #[true, true, true, true, true, true, true, true, true, true, true, false, false, false, false, false] rfl rfl (Zbq HT_.out (by kernel_rfl)) (by decide) (fun K hK => ?_)
              refine goes_ Tryz.func144 (by kernel_rfl) rfl #[.int .u8 (bt a0 (ji29))] (by rfl) rfl rfl (by (try simp only [List.map_toArray, List.map_cons, List.map_nil]); first | done | (simp only [hji29]; rfl) | rfl | (simp only [List.length_drop, List.length_take]; rfl)) ?_
              with_reducible refine (value_digit.calls (bt a0 (ji29)) t292 _ ?side1 A33.out).mono ?_
              (case side1 => exact GT.below (by decide) HG.out (zb1 HB))
              rintro e w' ⟨rfl, ⟨nd, rfl⟩⟩
              refine ⟨_, rfl, ?_⟩
              refine hK.out _ _ trivial (fun hHeld => ?_)
              clear hK K
              refine norm_ (a' := ?_) ?_ ?_
              rotate_left
              ·show Act.put _ (some 57) _ = _
               simp only [Act.put, List.setIfInBounds_toArray, List.set_cons_zero, List.set_cons_succ, Zax, Zay]
               rfl
              refine Za4 (i := 11) (N := some 58) (v := ?_) (a' := ?_) #[true, true, true, true, true, true, true, true, true, true, true, true, false, false, false, false] rfl rfl (Zaz HT_.out (by kernel_rfl)) (fun _ _ _ h => h) (Or.inl ⟨by rfl, ?_⟩) ?_ ?_
              rotate_left
              ·intro w'
               go_simp
               with_reducible rfl
              rotate_left
              ·simp only [Act.put, List.setIfInBounds_toArray, List.set_cons_zero, List.set_cons_succ, Zax, Zay]
               rfl
              refine Za4 (i := 12) (N := some 59) (v := ?_) (a' := ?_) #[true, true, true, true, true, true, true, true, true, true, true, true, true, false, false, false] rfl rfl (Zaz HT_.out (by kernel_rfl)) (fun _ _ _ h => h) (Or.inl ⟨by rfl, ?_⟩) ?_ ?_
              rotate_left
              ·intro w'
               go_simp
               with_reducible rfl
              rotate_left
              ·simp only [Act.put, List.setIfInBounds_toArray, List.set_cons_zero, List.set_cons_succ, Zax, Zay]
               rfl
              refine one_ (i := 13) (N := some 60) #[true, true, true, true, true, true, true, true, true, true, true, true, true, true, false, false] rfl rfl (Zbq HT_.out (by kernel_rfl)) (by decide) (fun K hK => ?_)
              refine value_ (w1 := ?_) (v := ?_) (by rfl) rfl ?_ ?_
              rotate_left 2
              ·go_simp
               constructor
               ·rfl
               ·rfl
              refine hK.out _ _ trivial (fun hHeld => ?_)
              clear hK K
              refine norm_ (a' := ?_) ?_ ?_
              rotate_left
              ·show Act.put _ (some 60) _ = _
               simp only [Act.put, List.setIfInBounds_toArray, List.set_cons_zero, List.set_cons_succ, Zax, Zay]
               rfl
              refine one_ (i := 14) (N := some 61) #[true, true, true, true, true, true, true, true, true, true, true, true, true, true, true, false] rfl rfl (Zbq HT_.out (by kernel_rfl)) (by decide) (fun K hK => ?_)
              refine Kd.R_append_step (Kd.int .u8) (w0 := w) w.heap.size (by rfl) (.tmp 47) (.tmp 60) 22 5 (.int .u8 0) 1 rfl Tryz.underlying22 info5 rfl (by decide) (by omega) u5 x5_3 (Go.bits .or .u8 ((t291 * 16) % 256) (Go.bits .and .u8 t292 15)) [.int .u8 (Go.bits .or .u8 ((t291 * 16) % 256) (Go.bits .and .u8 t292 15))] (fun _ => True) (fun _ => False) rfl rfl ?aP (fun _ hk => hk.elim) ?aF ?aO ?aB ?aS ?aL ?_
              (case aP => exact rfl)
              (case aB => exact (zb1 HB))
              (case aF => exact (fun _ _ => trivial))
              (case aO => exact (zrk HO_5))
              (case aS => exact (Zai (zb1 HB)))
              (case aL => have := LMc34.out; omega)
              intro v294 w36 ho hb hg hat
              rw [← Ny293.out] at ho
              replace HB := Zaa.mk (hb)
              have HO295 := Zaa.mk (ho)
              clear HO_5 ho hb hg hat
              refine hK.out _ _ trivial (fun hHeld => ?_)
              clear hK K
              refine norm_ (a' := ?_) ?_ ?_
              rotate_left
              ·show Act.put _ (some 61) _ = _
               simp only [Act.put, List.setIfInBounds_toArray, List.set_cons_zero, List.set_cons_succ, Zax, Zay]
               rfl
              refine Za4 (i := 15) (N := some 5) (v := ?_) (a' := ?_) #[true, true, true, true, true, true, true, true, true, true, true, true, true, true, true, true] rfl rfl (Zaz HT_.out (by kernel_rfl)) (fun _ _ _ h => h) (Or.inl ⟨by rfl, ?_⟩) ?_ ?_
              rotate_left
              ·intro w'
               go_simp
               with_reducible rfl
              rotate_left
              ·simp only [Act.put, List.setIfInBounds_toArray, List.set_cons_zero, List.set_cons_succ, Zax, Zay]
               rfl
              refine done_ (done_of HT_.out (by kernel_rfl)) ?_
              try go_wp2
              go_roundg k3
              case measure => have := HJ1.out; have := HJ19.out; have := HK3.out; omega
              case rel => exact ⟨(y293), (wrap64 (x6_3 + 2)), (by first | rfl | (simp; done) | (simp [*]; done)), H', ⟨by have := HJ1.out; have := HJ19.out; have := HK3.out; omega⟩, ⟨by (with_reducible repeat (first | apply Kd.R_alloc | apply Kd.R_drewN | apply Kd.R_drew)); exact HO295.out⟩, ⟨(zb1 HB)⟩⟩
             ·rw [if_neg c34] at H
              exact absurd H (by simp)
            ·rw [if_neg c31] at H
             exact absurd H (by simp)
           ·rw [if_neg c30] at H
            exact absurd H (by simp)
          ·rw [if_neg c26] at H
           exact absurd H (by simp)
         ·rw [if_neg c25] at H
          have c25b0 : decide (x6_3 < (a0.size : Int)) = false := decide_eq_false c25
          clear c25
          replace H := Option.bind_eq_some_iff.mp H
          obtain ⟨⟨t296, t297⟩, A370, H⟩ := H
          try dsimp only at H
          have A37 := Zaa.mk A370
          clear A370
          by_cases c38 : t297 = 0
          ·rw [if_pos c38] at H
           have c38b0 : (t297 == 0) = true := beq_iff_eq.mpr c38
           have c38b1 : (t297 != 0) = false := bne_eq_false_iff_eq.mpr c38
           clear c38
           by_cases c39 : t296.toList = a0.toList
           ·rw [if_pos c39] at H
            have c39b0 : (t296.toList == a0.toList) = true := beq_iff_eq.mpr c39
            have c39b1 : (t296.toList != a0.toList) = false := bne_eq_false_iff_eq.mpr c39
            clear c39
            simp only [Option.some.injEq, Prod.mk.injEq] at H
            obtain ⟨rfl, rfl⟩ := H
            have hcv40 := Zcc (P := Tryz.prog) Tryz.underlying22 Tryz.underlying5 Tryz.underlying9 (Kd.own_of_R HO_5.out)
            go_wp2_with (first | ((with_reducible refine Zam (f := 104) rfl ?_); refine Za1 (some 66) rfl rfl Tryz.func104 (by kernel_rfl) rfl #[.string (strOfNums x5_3)] rfl zam ?_; (with_reducible refine (value_Quote.calls (strOfNums x5_3) t296 t297 _ ?side1 A37.out).mono ?_); (case side1 => exact GT.below (by decide) HG.out (zb1 HB)); rintro e w41 ⟨rfl, hb⟩; refine ⟨_, rfl, ?_⟩; replace HO_5 := Zaa.mk (Kd.R_below (zrk HO_5) hb); replace HB := Zaa.mk (Zae (zb1 HB) hb); (try clear hb)))
            go_ret2
            exact ⟨by first | rfl | (simp [errW_none, errW_some] <;> rfl) | (simp [*, errW_none, errW_some] <;> rfl), (zb1 HB)⟩
           ·rw [if_neg c39] at H
            have c39b0 : (t296.toList == a0.toList) = false := beq_eq_false_iff_ne.mpr c39
            have c39b1 : (t296.toList != a0.toList) = true := bne_iff_ne.mpr c39
            simp only [Option.some.injEq, Prod.mk.injEq] at H
            obtain ⟨rfl, rfl⟩ := H
            have hcv42 := Zcc (P := Tryz.prog) Tryz.underlying22 Tryz.underlying5 Tryz.underlying9 (Kd.own_of_R HO_5.out)
            go_wp2_with (first | ((with_reducible refine Zam (f := 104) rfl ?_); refine Za1 (some 66) rfl rfl Tryz.func104 (by kernel_rfl) rfl #[.string (strOfNums x5_3)] rfl zam ?_; (with_reducible refine (value_Quote.calls (strOfNums x5_3) t296 t297 _ ?side1 A37.out).mono ?_); (case side1 => exact GT.below (by decide) HG.out (zb1 HB)); rintro e w43 ⟨rfl, hb⟩; refine ⟨_, rfl, ?_⟩; replace HO_5 := Zaa.mk (Kd.R_below (zrk HO_5) hb); replace HB := Zaa.mk (Zae (zb1 HB) hb); (try clear hb)))
            go_ret2
            exact ⟨by first | rfl | (simp [errW_none, errW_some] <;> rfl) | (simp [*, errW_none, errW_some] <;> rfl), (zb1 HB)⟩
          ·rw [if_neg c38] at H
           have c38b0 : (t297 == 0) = false := beq_eq_false_iff_ne.mpr c38
           have c38b1 : (t297 != 0) = true := bne_iff_ne.mpr c38
           simp only [Option.some.injEq, Prod.mk.injEq] at H
           obtain ⟨rfl, rfl⟩ := H
           have hcv44 := Zcc (P := Tryz.prog) Tryz.underlying22 Tryz.underlying5 Tryz.underlying9 (Kd.own_of_R HO_5.out)
           go_wp2_with (first | ((with_reducible refine Zam (f := 104) rfl ?_); refine Za1 (some 66) rfl rfl Tryz.func104 (by kernel_rfl) rfl #[.string (strOfNums x5_3)] rfl zam ?_; (with_reducible refine (value_Quote.calls (strOfNums x5_3) t296 t297 _ ?side1 A37.out).mono ?_); (case side1 => exact GT.below (by decide) HG.out (zb1 HB)); rintro e w45 ⟨rfl, hb⟩; refine ⟨_, rfl, ?_⟩; replace HO_5 := Zaa.mk (Kd.R_below (zrk HO_5) hb); replace HB := Zaa.mk (Zae (zb1 HB) hb); (try clear hb)))
           go_ret2
           exact ⟨by first | rfl | (simp [errW_none, errW_some] <;> rfl) | (simp [*, errW_none, errW_some] <;> rfl), (zb1 HB)⟩
      ·replace c24 := Bool.eq_false_iff.mpr c24
       subst c24
       rw [if_neg (show ¬ (false = true) by decide)] at H
       replace H := Option.bind_eq_some_iff.mp H
       obtain ⟨⟨t298, t299⟩, A460, H⟩ := H
       try dsimp only at H
       have A46 := Zaa.mk A460
       clear A460
       by_cases c47 : t299 = 0
       ·rw [if_pos c47] at H
        have c47b0 : (t299 == 0) = true := beq_iff_eq.mpr c47
        have c47b1 : (t299 != 0) = false := bne_eq_false_iff_eq.mpr c47
        clear c47
        by_cases c48 : t298.toList = a0.toList
        ·rw [if_pos c48] at H
         have c48b0 : (t298.toList == a0.toList) = true := beq_iff_eq.mpr c48
         have c48b1 : (t298.toList != a0.toList) = false := bne_eq_false_iff_eq.mpr c48
         clear c48
         simp only [Option.some.injEq, Prod.mk.injEq] at H
         obtain ⟨rfl, rfl⟩ := H
         go_wp2_with (first | ((with_reducible refine Zam (f := 104) rfl ?_); refine Za1 (some 66) rfl rfl Tryz.func104 (by kernel_rfl) rfl #[.string (⟨#[]⟩ : ByteArray)] rfl zam ?_; (with_reducible refine (value_Quote.calls (⟨#[]⟩ : ByteArray) t298 t299 _ ?side1 A46.out).mono ?_); (case side1 => exact GT.below (by decide) HG.out (zb1 HB)); rintro e w49 ⟨rfl, hb⟩; refine ⟨_, rfl, ?_⟩; replace HB := Zaa.mk (Zae (zb1 HB) hb); (try clear hb)))
         go_ret2
         exact ⟨by first | rfl | (simp [errW_none, errW_some] <;> rfl) | (simp [*, errW_none, errW_some] <;> rfl), (zb1 HB)⟩
        ·rw [if_neg c48] at H
         have c48b0 : (t298.toList == a0.toList) = false := beq_eq_false_iff_ne.mpr c48
         have c48b1 : (t298.toList != a0.toList) = true := bne_iff_ne.mpr c48
         simp only [Option.some.injEq, Prod.mk.injEq] at H
         obtain ⟨rfl, rfl⟩ := H
         go_wp2_with (first | ((with_reducible refine Zam (f := 104) rfl ?_); refine Za1 (some 66) rfl rfl Tryz.func104 (by kernel_rfl) rfl #[.string (⟨#[]⟩ : ByteArray)] rfl zam ?_; (with_reducible refine (value_Quote.calls (⟨#[]⟩ : ByteArray) t298 t299 _ ?side1 A46.out).mono ?_); (case side1 => exact GT.below (by decide) HG.out (zb1 HB)); rintro e w50 ⟨rfl, hb⟩; refine ⟨_, rfl, ?_⟩; replace HB := Zaa.mk (Zae (zb1 HB) hb); (try clear hb)))
         go_ret2
         exact ⟨by first | rfl | (simp [errW_none, errW_some] <;> rfl) | (simp [*, errW_none, errW_some] <;> rfl), (zb1 HB)⟩
       ·rw [if_neg c47] at H
        have c47b0 : (t299 == 0) = false := beq_eq_false_iff_ne.mpr c47
        have c47b1 : (t299 != 0) = true := bne_iff_ne.mpr c47
        simp only [Option.some.injEq, Prod.mk.injEq] at H
        obtain ⟨rfl, rfl⟩ := H
        go_wp2_with (first | ((with_reducible refine Zam (f := 104) rfl ?_); refine Za1 (some 66) rfl rfl Tryz.func104 (by kernel_rfl) rfl #[.string (⟨#[]⟩ : ByteArray)] rfl zam ?_; (with_reducible refine (value_Quote.calls (⟨#[]⟩ : ByteArray) t298 t299 _ ?side1 A46.out).mono ?_); (case side1 => exact GT.below (by decide) HG.out (zb1 HB)); rintro e w51 ⟨rfl, hb⟩; refine ⟨_, rfl, ?_⟩; replace HB := Zaa.mk (Zae (zb1 HB) hb); (try clear hb)))
        go_ret2
        exact ⟨by first | rfl | (simp [errW_none, errW_some] <;> rfl) | (simp [*, errW_none, errW_some] <;> rfl), (zb1 HB)⟩
-- EXTERNAL: function 55 (strconv_Itoa)
end Go.Proofs.YtodbabeldolcbaaGreatDoor.PA
