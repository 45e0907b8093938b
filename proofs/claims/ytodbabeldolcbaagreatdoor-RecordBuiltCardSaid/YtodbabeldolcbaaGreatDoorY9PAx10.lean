/- Contracts of functions of the program: written by pr2.py (ours, round the print of the kit) out of the translation; conditions: each contract names its own. -/
import Derived.Test.YtodbabeldolcbaaGreatDoorY9PAx1
namespace Go.Proofs.YtodbabeldolcbaaGreatDoor.PA
open Go.RowKit Go.Proofs.YtodbabeldolcbaaGreatDoorW.PrintWords Go.Proofs.YtodbabeldolcbaaGreatDoorW.PrintLast Go.Proofs.YtodbabeldolcbaaGreatDoorW.PrintMore
attribute [local go_sem] Zbg Zbe Zbs Zbr Za8 Za7 Zbf Zbd   -- for this text's walks alone
set_option linter.unusedVariables false
set_option linter.unusedSimpArgs false
attribute [local go_sem high] eqA88
-- EXTERNAL: function 47 (record_Parse)
-- EXTERNAL: function 48 (kauditref03_Parse)
def kauditref03_SamePairs.l0 : Nat → List (S88) → List (S88) → Int → Option (Bool)
 | 0, _, _, _ => none
 | k + 1, x0, x1, x5 => if x5 < (x0.length : Int) then (if 0 ≤ x5 then (if x5 < (x1.length : Int) then (if (!((((Zat x0 x5).f0).toList) == (((Zat x1 x5).f0).toList)) || (!(((Zat x0 x5).f1) == ((Zat x1 x5).f1)) || (!(((Zat x0 x5).f2) == ((Zat x1 x5).f2)) || (!((((Zat x0 x5).f3).toList) == (((Zat x1 x5).f3).toList)))))) = true then (some false) else (kauditref03_SamePairs.l0 k x0 x1 (wrap64 (x5 + 1)))) else (none)) else (none)) else (some true)
def kauditref03_SamePairs.f (k : Nat) (l0 : List (S88)) (l1 : List (S88)) : Option (Bool) := if (l0.length : Int) = (l1.length : Int) then (kauditref03_SamePairs.l0 k l0 l1 0) else (some false)
theorem kauditref03_SamePairs.mono_l : ∀ k, (∀ y0 y1 y2, LeO (kauditref03_SamePairs.l0 k y0 y1 y2) (kauditref03_SamePairs.l0 (k + 1) y0 y1 y2))
 | 0 => fun _ _ _ r h => by simp [kauditref03_SamePairs.l0] at h
 | k + 1 => by
  have ih0 := kauditref03_SamePairs.mono_l k
  ·intro y0 y1 y2
   unfold kauditref03_SamePairs.l0
   repeat' first
   | (with_reducible exact ih0 _ _ _)
   | (with_reducible exact LeO.refl _)
   | (with_reducible exact LeO.none _)
   | (with_reducible refine LeO.ite ?_ ?_)
   | (with_reducible refine LeO.bind ?_ (fun _ => ?_))
   | exact ih0 _ _ _
   | exact LeO.none _
   | refine LeO.ite ?_ ?_
   | refine LeO.bind ?_ (fun _ => ?_)
theorem kauditref03_SamePairs.mono : ∀ a0 a1 k, LeO (kauditref03_SamePairs.f k a0 a1) (kauditref03_SamePairs.f (k + 1) a0 a1) := by
 intro a0 a1 k
 have ih0 := kauditref03_SamePairs.mono_l k
 unfold kauditref03_SamePairs.f
 repeat' first
   | (with_reducible exact ih0 _ _ _)
   | (with_reducible exact LeO.refl _)
   | (with_reducible exact LeO.none _)
   | (with_reducible refine LeO.ite ?_ ?_)
   | (with_reducible refine LeO.bind ?_ (fun _ => ?_))
   | exact ih0 _ _ _
   | exact LeO.none _
   | refine LeO.ite ?_ ?_
   | refine LeO.bind ?_ (fun _ => ?_)
set_option maxHeartbeats 8000000 in
set_option maxRecDepth 100000 in
theorem kauditref03_SamePairs.calls (k : Nat) (A0 : Option Addr) (c0 : Nat) (l0 : List (S88)) (A1 : Option Addr) (c1 : Nat) (l1 : List (S88)) (r : Bool) (w : World) (hr0 : Kd.C k88 w A0 l0.length l0) (hc0 : l0.length ≤ c0) (hr1 : Kd.C k88 w A1 l1.length l1) (hc1 : l1.length ≤ c1) (h : kauditref03_SamePairs.f k l0 l1 = some r) :
  Calls Tryz.prog 98 #[.slice A0 l0.length c0, .slice A1 l1.length c1] w fun e w' => e = .returned (.bool r) ∧ Zao w w' := by
 have hu88 := Tryz.underlying88
 have HR0 := Zaa.mk hr0
 have HC0 := Zaa.mk hc0
 clear hr0 hc0
 have HR1 := Zaa.mk hr1
 have HC1 := Zaa.mk hc1
 clear hr1 hc1
 unfold kauditref03_SamePairs.f at h
 have H := h
 clear h
 by_cases c3 : (l0.length : Int) = (l1.length : Int)
 ·rw [if_pos c3] at H
  have c3b0 : ((l0.length : Int) == (l1.length : Int)) = true := beq_iff_eq.mpr c3
  have c3b1 : ((l0.length : Int) != (l1.length : Int)) = false := bne_eq_false_iff_eq.mpr c3
  have c3b2 : (l0.length == l1.length) = true := by first | simpa using c3 | (simp at c3 ⊢; omega)
  clear c3
  have H' := Zaa.mk H
  clear H
  go_enter Tryz.func98, Tryz.ntmps98
  go_wp2
  repeat (go_quiet (fail); try go_wp2)
  go_loopg [5] k (fun kq v5 w' => ∃ (x5_1 : Int), v5 = .int .i64 x5_1 ∧ Zaa (kauditref03_SamePairs.l0 kq l0 l1 x5_1 = some r) ∧ Zaa (kq ≤ k) ∧ Zao w w')
  case atStart => exact ⟨(0), (by first | rfl | (simp; done) | (simp [*]; done)), H', ⟨Nat.le_refl _⟩, by repeat (first | exact Zao.refl _ | apply Zao.step)⟩
  case round =>
   clear H'
   (try clear c1)
   (try clear c3)
   (try clear c3b0)
   (try clear c3b1)
   (try clear c3b2)
   obtain ⟨x5_1, rfl, HA, HK1, ⟨m1, rfl⟩⟩ := hrel
   cases gk with
   | zero => exact absurd HA.out (by simp [kauditref03_SamePairs.l0])
   | succ k1 =>
    have H := HA.out
    clear HA
    simp only [kauditref03_SamePairs.l0] at H
    by_cases c4 : x5_1 < (l0.length : Int)
    ·rw [if_pos c4] at H
     have c4b0 : decide (x5_1 < (l0.length : Int)) = true := decide_eq_true c4
     clear c4
     by_cases c5 : 0 ≤ x5_1
     ·rw [if_pos c5] at H
      have c5b0 : decide (0 ≤ x5_1) = true := decide_eq_true c5
      clear c5
      by_cases c6 : x5_1 < (l1.length : Int)
      ·rw [if_pos c6] at H
       have c6b0 : decide (x5_1 < (l1.length : Int)) = true := decide_eq_true c6
       clear c6
       by_cases c7 : (!((((Zat l0 x5_1).f0).toList) == (((Zat l1 x5_1).f0).toList)) || (!(((Zat l0 x5_1).f1) == ((Zat l1 x5_1).f1)) || (!(((Zat l0 x5_1).f2) == ((Zat l1 x5_1).f2)) || (!((((Zat l0 x5_1).f3).toList) == (((Zat l1 x5_1).f3).toList)))))) = true
       ·rw [if_pos c7] at H
        have c7b0 : (!((((Zat l0 x5_1).f0).toList) == (((Zat l1 x5_1).f0).toList)) || (!(((Zat l0 x5_1).f1) == ((Zat l1 x5_1).f1)) || (!(((Zat l0 x5_1).f2) == ((Zat l1 x5_1).f2)) || (!((((Zat l0 x5_1).f3).toList) == (((Zat l1 x5_1).f3).toList)))))) = true := c7
        clear c7
        obtain rfl := Option.some.inj H
        have p238 : 0 ≤ (x5_1 : Int) := zod
        have q238 : x5_1 < (l0.length : Int) := zod
        obtain ⟨ad238, e238, hx238_0, hx238_1, hx238_2, hx238_3⟩ := at_T88 HR0.out x5_1 p238 q238
        cases e238
        replace p238 := eq_true p238
        replace q238 := eq_true q238
        have p239 : 0 ≤ (x5_1 : Int) := zod
        have q239 : x5_1 < (l1.length : Int) := zod
        obtain ⟨ad239, e239, hx239_0, hx239_1, hx239_2, hx239_3⟩ := at_T88 HR1.out x5_1 p239 q239
        cases e239
        replace p239 := eq_true p239
        replace q239 := eq_true q239
        go_wp2
        repeat (go_quiet (fail); try go_wp2)
        go_ret
        exact ⟨by first | rfl | (simp; done) | (simp [*]; done), by repeat (first | exact Zao.refl _ | apply Zao.step)⟩
       ·rw [if_neg c7] at H
        have c7b0 : (!((((Zat l0 x5_1).f0).toList) == (((Zat l1 x5_1).f0).toList)) || (!(((Zat l0 x5_1).f1) == ((Zat l1 x5_1).f1)) || (!(((Zat l0 x5_1).f2) == ((Zat l1 x5_1).f2)) || (!((((Zat l0 x5_1).f3).toList) == (((Zat l1 x5_1).f3).toList)))))) = false := by simpa using c7
        clear c7
        have H' := Zaa.mk H
        clear H
        have p238 : 0 ≤ (x5_1 : Int) := zod
        have q238 : x5_1 < (l0.length : Int) := zod
        obtain ⟨ad238, e238, hx238_0, hx238_1, hx238_2, hx238_3⟩ := at_T88 HR0.out x5_1 p238 q238
        cases e238
        replace p238 := eq_true p238
        replace q238 := eq_true q238
        have p239 : 0 ≤ (x5_1 : Int) := zod
        have q239 : x5_1 < (l1.length : Int) := zod
        obtain ⟨ad239, e239, hx239_0, hx239_1, hx239_2, hx239_3⟩ := at_T88 HR1.out x5_1 p239 q239
        cases e239
        replace p239 := eq_true p239
        replace q239 := eq_true q239
        go_wp2
        repeat (go_quiet (fail); try go_wp2)
        go_roundg k1
        case measure => have := HK1.out; omega
        case rel => exact ⟨(wrap64 (x5_1 + 1)), (by first | rfl | (simp; done) | (simp [*]; done)), H', ⟨by have := HK1.out; omega⟩, by repeat (first | exact Zao.refl _ | apply Zao.step)⟩
      ·rw [if_neg c6] at H
       exact absurd H (by simp)
     ·rw [if_neg c5] at H
      exact absurd H (by simp)
    ·rw [if_neg c4] at H
     have c4b0 : decide (x5_1 < (l0.length : Int)) = false := decide_eq_false c4
     clear c4
     obtain rfl := Option.some.inj H
     go_wp2
     repeat (go_quiet (fail); try go_wp2)
     go_ret
     exact ⟨by first | rfl | (simp; done) | (simp [*]; done), by repeat (first | exact Zao.refl _ | apply Zao.step)⟩
 ·rw [if_neg c3] at H
  have c3b0 : ((l0.length : Int) == (l1.length : Int)) = false := beq_eq_false_iff_ne.mpr c3
  have c3b1 : ((l0.length : Int) != (l1.length : Int)) = true := bne_iff_ne.mpr c3
  have c3b2 : (l0.length == l1.length) = false := by first | simpa using c3 | (simp at c3 ⊢; omega)
  obtain rfl := Option.some.inj H
  go_enter Tryz.func98, Tryz.ntmps98
  go_wp2
  repeat (go_quiet (fail); try go_wp2)
  go_ret
  exact ⟨by first | rfl | (simp; done) | (simp [*]; done), by repeat (first | exact Zao.refl _ | apply Zao.step)⟩
def kauditref03_Same.f (k : Nat) (a0_0 : Int) (a0_1 : Int) (a0_2 : Int) (l0_3 : List (S88)) (a1_0 : Int) (a1_1 : Int) (a1_2 : Int) (l1_3 : List (S88)) : Option (Bool) := if a0_0 = a1_0 then (if a0_1 = a1_1 then (if a0_2 = a1_2 then ((kauditref03_SamePairs.f k l0_3 l1_3).bind fun t242 => (some t242)) else (some false)) else (some false)) else (some false)
theorem kauditref03_Same.mono : ∀ a0 a1 a2 a3 a4 a5 a6 a7 k, LeO (kauditref03_Same.f k a0 a1 a2 a3 a4 a5 a6 a7) (kauditref03_Same.f (k + 1) a0 a1 a2 a3 a4 a5 a6 a7) := by
 intro a0 a1 a2 a3 a4 a5 a6 a7 k
 unfold kauditref03_Same.f
 repeat' first
   | (with_reducible exact kauditref03_SamePairs.mono _ _ _)
   | (with_reducible exact LeO.refl _)
   | (with_reducible exact LeO.none _)
   | (with_reducible refine LeO.ite ?_ ?_)
   | (with_reducible refine LeO.bind ?_ (fun _ => ?_))
   | exact kauditref03_SamePairs.mono _ _ _
   | exact LeO.none _
   | refine LeO.ite ?_ ?_
   | refine LeO.bind ?_ (fun _ => ?_)
set_option maxHeartbeats 8000000 in
set_option maxRecDepth 100000 in
theorem kauditref03_Same.calls (k : Nat) (a0_0 : Int) (a0_1 : Int) (a0_2 : Int) (A0_3 : Option Addr) (c0_3 : Nat) (l0_3 : List (S88)) (a1_0 : Int) (a1_1 : Int) (a1_2 : Int) (A1_3 : Option Addr) (c1_3 : Nat) (l1_3 : List (S88)) (r : Bool) (w : World) (hr0_3 : Kd.C k88 w A0_3 l0_3.length l0_3) (hc0_3 : l0_3.length ≤ c0_3) (hr1_3 : Kd.C k88 w A1_3 l1_3.length l1_3) (hc1_3 : l1_3.length ≤ c1_3) (h : kauditref03_Same.f k a0_0 a0_1 a0_2 l0_3 a1_0 a1_1 a1_2 l1_3 = some r) :
  Calls Tryz.prog 49 #[.agg #[.int .i64 a0_0, .int .i64 a0_1, .int .i64 a0_2, .slice A0_3 l0_3.length c0_3], .agg #[.int .i64 a1_0, .int .i64 a1_1, .int .i64 a1_2, .slice A1_3 l1_3.length c1_3]] w fun e w' => e = .returned (.bool r) ∧ Below w.heap.size w w' := by
 have hu51 := Tryz.underlying51
 have HR0_3 := Zaa.mk hr0_3
 have HC0_3 := Zaa.mk hc0_3
 clear hr0_3 hc0_3
 have HR1_3 := Zaa.mk hr1_3
 have HC1_3 := Zaa.mk hc1_3
 clear hr1_3 hc1_3
 have HB := Zaa.mk (Below.refl w.heap.size w)
 unfold kauditref03_Same.f at h
 have H := h
 clear h
 by_cases c3 : a0_0 = a1_0
 ·rw [if_pos c3] at H
  have c3b0 : (a0_0 == a1_0) = true := beq_iff_eq.mpr c3
  have c3b1 : (a0_0 != a1_0) = false := bne_eq_false_iff_eq.mpr c3
  clear c3
  by_cases c4 : a0_1 = a1_1
  ·rw [if_pos c4] at H
   have c4b0 : (a0_1 == a1_1) = true := beq_iff_eq.mpr c4
   have c4b1 : (a0_1 != a1_1) = false := bne_eq_false_iff_eq.mpr c4
   clear c4
   by_cases c5 : a0_2 = a1_2
   ·rw [if_pos c5] at H
    have c5b0 : (a0_2 == a1_2) = true := beq_iff_eq.mpr c5
    have c5b1 : (a0_2 != a1_2) = false := bne_eq_false_iff_eq.mpr c5
    clear c5
    replace H := Option.bind_eq_some_iff.mp H
    obtain ⟨t242, A60, H⟩ := H
    try dsimp only at H
    have A6 := Zaa.mk A60
    clear A60
    obtain rfl := Option.some.inj H
    go_enter Tryz.func49, Tryz.ntmps49
    go_wp2_with (first | ((with_reducible refine Zav (N := 2) rfl ?_); refine Zaw ?hg (N := 2) ?hd (cs := #[.int .i64 a0_0, .int .i64 a0_1, .int .i64 a0_2, .slice A0_3 l0_3.length c0_3]) (t := 51) ?hr ?_; (case hd => rfl); (case hg => rfl); (case hr => first | (go_simp; done) | (go_simp; rfl)); intro gb240 hg w7 hbox hb; have BK240 := Zaa.mk (hbox); have GW240 := Zaa.mk ((by rw [hg]; exact (Zai (zb1 HB)) : w.heap.size ≤ gb240)); have GE240 := Zaa.mk ((by rw [hg]; exact (Zai (zb1 HB)) : w.heap.size ≤ gb240)); replace HB := Zaa.mk (Zae (zb1 HB) hb); clear hb hbox hg) | ((with_reducible refine Zav (N := 3) rfl ?_); refine Zaw ?hg (N := 3) ?hd (cs := #[.int .i64 a1_0, .int .i64 a1_1, .int .i64 a1_2, .slice A1_3 l1_3.length c1_3]) (t := 51) ?hr ?_; (case hd => rfl); (case hg => rfl); (case hr => first | (go_simp; done) | (go_simp; rfl)); intro gb241 hg w8 hbox hb; have BK241 := Zaa.mk (hbox); have GW241 := Zaa.mk ((by rw [hg]; exact (Zai (zb2 HB GE240.out)) : w.heap.size ≤ gb241)); have GE241 := Zaa.mk ((by rw [hg]; exact (Zai (zb2 HB GE240.out)) : w.heap.size ≤ gb241)); replace HB := Zaa.mk (Zae (zb2 HB GE240.out) hb); have NB240_241 := Zaa.mk ((by rw [hg]; exact Nat.ne_of_lt (Za3 (g := gb240) (o := .cells #[.int .i64 a0_0, .int .i64 a0_1, .int .i64 a0_2, .slice A0_3 l0_3.length c0_3] 51 (0, 0)) (zbk BK240)) : gb240 ≠ gb241)); have NB241_240 := Zaa.mk ((by rw [hg]; exact Nat.ne_of_gt (Za3 (g := gb240) (o := .cells #[.int .i64 a0_0, .int .i64 a0_1, .int .i64 a0_2, .slice A0_3 l0_3.length c0_3] 51 (0, 0)) (zbk BK240)) : gb241 ≠ gb240)); replace BK240 := Zaa.mk (Zah (g := gb240) (o := .cells #[.int .i64 a0_0, .int .i64 a0_1, .int .i64 a0_2, .slice A0_3 l0_3.length c0_3] 51 (0, 0)) (zbk BK240) hb); clear hb hbox hg; have hnb9 := NB240_241.out; have hnc9 := NB241_240.out; obtain ⟨hcz10_0, hcz10_1, hcz10_2, hcz10_3⟩ := bc4 BK240.out; obtain ⟨hfz10_0, hfz10_1, hfz10_2, hfz10_3⟩ := bf4 BK240.out; obtain ⟨hcz11_0, hcz11_1, hcz11_2, hcz11_3⟩ := bc4 BK241.out; obtain ⟨hfz11_0, hfz11_1, hfz11_2, hfz11_3⟩ := bf4 BK241.out) | (go_at_call 98; (with_reducible refine (kauditref03_SamePairs.calls k _ _ l0_3 _ _ l1_3 t242 _ ?side1 ?side2 ?side3 ?side4 A6.out).mono ?_); (case side1 => repeat (first | exact (Kd.C_below HR0_3.out HB.out) | (with_reducible refine Kd.C_alloc ?_ _) | (with_reducible refine Kd.C_drewN ?_ _) | (with_reducible refine Kd.C_drew ?_))); (case side2 => exact HC0_3.out); (case side3 => repeat (first | exact (Kd.C_below HR1_3.out HB.out) | (with_reducible refine Kd.C_alloc ?_ _) | (with_reducible refine Kd.C_drewN ?_ _) | (with_reducible refine Kd.C_drew ?_))); (case side4 => exact HC1_3.out); rintro e w' ⟨rfl, ⟨nd, rfl⟩⟩))
    go_ret
    exact ⟨by first | rfl | (simp [errW_none, errW_some] <;> rfl) | (simp [*, errW_none, errW_some] <;> rfl), (zb6 HB GE240.out GE241.out)⟩
   ·rw [if_neg c5] at H
    have c5b0 : (a0_2 == a1_2) = false := beq_eq_false_iff_ne.mpr c5
    have c5b1 : (a0_2 != a1_2) = true := bne_iff_ne.mpr c5
    obtain rfl := Option.some.inj H
    go_enter Tryz.func49, Tryz.ntmps49
    go_wp2_with (first | ((with_reducible refine Zav (N := 2) rfl ?_); refine Zaw ?hg (N := 2) ?hd (cs := #[.int .i64 a0_0, .int .i64 a0_1, .int .i64 a0_2, .slice A0_3 l0_3.length c0_3]) (t := 51) ?hr ?_; (case hd => rfl); (case hg => rfl); (case hr => first | (go_simp; done) | (go_simp; rfl)); intro gb240 hg w12 hbox hb; have BK240 := Zaa.mk (hbox); have GW240 := Zaa.mk ((by rw [hg]; exact (Zai (zb1 HB)) : w.heap.size ≤ gb240)); have GE240 := Zaa.mk ((by rw [hg]; exact (Zai (zb1 HB)) : w.heap.size ≤ gb240)); replace HB := Zaa.mk (Zae (zb1 HB) hb); clear hb hbox hg) | ((with_reducible refine Zav (N := 3) rfl ?_); refine Zaw ?hg (N := 3) ?hd (cs := #[.int .i64 a1_0, .int .i64 a1_1, .int .i64 a1_2, .slice A1_3 l1_3.length c1_3]) (t := 51) ?hr ?_; (case hd => rfl); (case hg => rfl); (case hr => first | (go_simp; done) | (go_simp; rfl)); intro gb241 hg w13 hbox hb; have BK241 := Zaa.mk (hbox); have GW241 := Zaa.mk ((by rw [hg]; exact (Zai (zb2 HB GE240.out)) : w.heap.size ≤ gb241)); have GE241 := Zaa.mk ((by rw [hg]; exact (Zai (zb2 HB GE240.out)) : w.heap.size ≤ gb241)); replace HB := Zaa.mk (Zae (zb2 HB GE240.out) hb); have NB240_241 := Zaa.mk ((by rw [hg]; exact Nat.ne_of_lt (Za3 (g := gb240) (o := .cells #[.int .i64 a0_0, .int .i64 a0_1, .int .i64 a0_2, .slice A0_3 l0_3.length c0_3] 51 (0, 0)) (zbk BK240)) : gb240 ≠ gb241)); have NB241_240 := Zaa.mk ((by rw [hg]; exact Nat.ne_of_gt (Za3 (g := gb240) (o := .cells #[.int .i64 a0_0, .int .i64 a0_1, .int .i64 a0_2, .slice A0_3 l0_3.length c0_3] 51 (0, 0)) (zbk BK240)) : gb241 ≠ gb240)); replace BK240 := Zaa.mk (Zah (g := gb240) (o := .cells #[.int .i64 a0_0, .int .i64 a0_1, .int .i64 a0_2, .slice A0_3 l0_3.length c0_3] 51 (0, 0)) (zbk BK240) hb); clear hb hbox hg; have hnb14 := NB240_241.out; have hnc14 := NB241_240.out; obtain ⟨hcz15_0, hcz15_1, hcz15_2, hcz15_3⟩ := bc4 BK240.out; obtain ⟨hfz15_0, hfz15_1, hfz15_2, hfz15_3⟩ := bf4 BK240.out; obtain ⟨hcz16_0, hcz16_1, hcz16_2, hcz16_3⟩ := bc4 BK241.out; obtain ⟨hfz16_0, hfz16_1, hfz16_2, hfz16_3⟩ := bf4 BK241.out))
    go_ret
    exact ⟨by first | rfl | (simp [errW_none, errW_some] <;> rfl) | (simp [*, errW_none, errW_some] <;> rfl), (zb6 HB GE240.out GE241.out)⟩
  ·rw [if_neg c4] at H
   have c4b0 : (a0_1 == a1_1) = false := beq_eq_false_iff_ne.mpr c4
   have c4b1 : (a0_1 != a1_1) = true := bne_iff_ne.mpr c4
   obtain rfl := Option.some.inj H
   go_enter Tryz.func49, Tryz.ntmps49
   go_wp2_with (first | ((with_reducible refine Zav (N := 2) rfl ?_); refine Zaw ?hg (N := 2) ?hd (cs := #[.int .i64 a0_0, .int .i64 a0_1, .int .i64 a0_2, .slice A0_3 l0_3.length c0_3]) (t := 51) ?hr ?_; (case hd => rfl); (case hg => rfl); (case hr => first | (go_simp; done) | (go_simp; rfl)); intro gb240 hg w17 hbox hb; have BK240 := Zaa.mk (hbox); have GW240 := Zaa.mk ((by rw [hg]; exact (Zai (zb1 HB)) : w.heap.size ≤ gb240)); have GE240 := Zaa.mk ((by rw [hg]; exact (Zai (zb1 HB)) : w.heap.size ≤ gb240)); replace HB := Zaa.mk (Zae (zb1 HB) hb); clear hb hbox hg) | ((with_reducible refine Zav (N := 3) rfl ?_); refine Zaw ?hg (N := 3) ?hd (cs := #[.int .i64 a1_0, .int .i64 a1_1, .int .i64 a1_2, .slice A1_3 l1_3.length c1_3]) (t := 51) ?hr ?_; (case hd => rfl); (case hg => rfl); (case hr => first | (go_simp; done) | (go_simp; rfl)); intro gb241 hg w18 hbox hb; have BK241 := Zaa.mk (hbox); have GW241 := Zaa.mk ((by rw [hg]; exact (Zai (zb2 HB GE240.out)) : w.heap.size ≤ gb241)); have GE241 := Zaa.mk ((by rw [hg]; exact (Zai (zb2 HB GE240.out)) : w.heap.size ≤ gb241)); replace HB := Zaa.mk (Zae (zb2 HB GE240.out) hb); have NB240_241 := Zaa.mk ((by rw [hg]; exact Nat.ne_of_lt (Za3 (g := gb240) (o := .cells #[.int .i64 a0_0, .int .i64 a0_1, .int .i64 a0_2, .slice A0_3 l0_3.length c0_3] 51 (0, 0)) (zbk BK240)) : gb240 ≠ gb241)); have NB241_240 := Zaa.mk ((by rw [hg]; exact Nat.ne_of_gt (Za3 (g := gb240) (o := .cells #[.int .i64 a0_0, .int .i64 a0_1, .int .i64 a0_2, .slice A0_3 l0_3.length c0_3] 51 (0, 0)) (zbk BK240)) : gb241 ≠ gb240)); replace BK240 := Zaa.mk (Zah (g := gb240) (o := .cells #[.int .i64 a0_0, .int .i64 a0_1, .int .i64 a0_2, .slice A0_3 l0_3.length c0_3] 51 (0, 0)) (zbk BK240) hb); clear hb hbox hg; have hnb19 := NB240_241.out; have hnc19 := NB241_240.out; obtain ⟨hcz20_0, hcz20_1, hcz20_2, hcz20_3⟩ := bc4 BK240.out; obtain ⟨hfz20_0, hfz20_1, hfz20_2, hfz20_3⟩ := bf4 BK240.out; obtain ⟨hcz21_0, hcz21_1, hcz21_2, hcz21_3⟩ := bc4 BK241.out; obtain ⟨hfz21_0, hfz21_1, hfz21_2, hfz21_3⟩ := bf4 BK241.out))
   go_ret
   exact ⟨by first | rfl | (simp [errW_none, errW_some] <;> rfl) | (simp [*, errW_none, errW_some] <;> rfl), (zb6 HB GE240.out GE241.out)⟩
 ·rw [if_neg c3] at H
  have c3b0 : (a0_0 == a1_0) = false := beq_eq_false_iff_ne.mpr c3
  have c3b1 : (a0_0 != a1_0) = true := bne_iff_ne.mpr c3
  obtain rfl := Option.some.inj H
  go_enter Tryz.func49, Tryz.ntmps49
  go_wp2_with (first | ((with_reducible refine Zav (N := 2) rfl ?_); refine Zaw ?hg (N := 2) ?hd (cs := #[.int .i64 a0_0, .int .i64 a0_1, .int .i64 a0_2, .slice A0_3 l0_3.length c0_3]) (t := 51) ?hr ?_; (case hd => rfl); (case hg => rfl); (case hr => first | (go_simp; done) | (go_simp; rfl)); intro gb240 hg w22 hbox hb; have BK240 := Zaa.mk (hbox); have GW240 := Zaa.mk ((by rw [hg]; exact (Zai (zb1 HB)) : w.heap.size ≤ gb240)); have GE240 := Zaa.mk ((by rw [hg]; exact (Zai (zb1 HB)) : w.heap.size ≤ gb240)); replace HB := Zaa.mk (Zae (zb1 HB) hb); clear hb hbox hg) | ((with_reducible refine Zav (N := 3) rfl ?_); refine Zaw ?hg (N := 3) ?hd (cs := #[.int .i64 a1_0, .int .i64 a1_1, .int .i64 a1_2, .slice A1_3 l1_3.length c1_3]) (t := 51) ?hr ?_; (case hd => rfl); (case hg => rfl); (case hr => first | (go_simp; done) | (go_simp; rfl)); intro gb241 hg w23 hbox hb; have BK241 := Zaa.mk (hbox); have GW241 := Zaa.mk ((by rw [hg]; exact (Zai (zb2 HB GE240.out)) : w.heap.size ≤ gb241)); have GE241 := Zaa.mk ((by rw [hg]; exact (Zai (zb2 HB GE240.out)) : w.heap.size ≤ gb241)); replace HB := Zaa.mk (Zae (zb2 HB GE240.out) hb); have NB240_241 := Zaa.mk ((by rw [hg]; exact Nat.ne_of_lt (Za3 (g := gb240) (o := .cells #[.int .i64 a0_0, .int .i64 a0_1, .int .i64 a0_2, .slice A0_3 l0_3.length c0_3] 51 (0, 0)) (zbk BK240)) : gb240 ≠ gb241)); have NB241_240 := Zaa.mk ((by rw [hg]; exact Nat.ne_of_gt (Za3 (g := gb240) (o := .cells #[.int .i64 a0_0, .int .i64 a0_1, .int .i64 a0_2, .slice A0_3 l0_3.length c0_3] 51 (0, 0)) (zbk BK240)) : gb241 ≠ gb240)); replace BK240 := Zaa.mk (Zah (g := gb240) (o := .cells #[.int .i64 a0_0, .int .i64 a0_1, .int .i64 a0_2, .slice A0_3 l0_3.length c0_3] 51 (0, 0)) (zbk BK240) hb); clear hb hbox hg; have hnb24 := NB240_241.out; have hnc24 := NB241_240.out; obtain ⟨hcz25_0, hcz25_1, hcz25_2, hcz25_3⟩ := bc4 BK240.out; obtain ⟨hfz25_0, hfz25_1, hfz25_2, hfz25_3⟩ := bf4 BK240.out; obtain ⟨hcz26_0, hcz26_1, hcz26_2, hcz26_3⟩ := bc4 BK241.out; obtain ⟨hfz26_0, hfz26_1, hfz26_2, hfz26_3⟩ := bf4 BK241.out))
  go_ret
  exact ⟨by first | rfl | (simp [errW_none, errW_some] <;> rfl) | (simp [*, errW_none, errW_some] <;> rfl), (zb6 HB GE240.out GE241.out)⟩
end Go.Proofs.YtodbabeldolcbaaGreatDoor.PA
