/- The reference's Parse of a pair returns the one pair that its Format writes so, or the error. Condition: the text has at most 100000 bytes. -/
import Derived.Test.YtodbabeldolcbaaGreatDoorY9VRefN
namespace Go.Proofs.YtodbabeldolcbaaGreatDoor.PA
open Go.RowKit Go.Proofs.YtodbabeldolcbaaGreatDoorW.PrintWords Go.Proofs.YtodbabeldolcbaaGreatDoorW.PrintLast Go.Proofs.YtodbabeldolcbaaGreatDoorW.PrintMore Go.Proofs.YtodbabeldolcbaaGreatDoor.M0
set_option linter.unusedVariables false
set_option linter.unusedSimpArgs false
noncomputable def tupV (s : ByteArray) : ByteArray × Int × Int × ByteArray × Int := ((Zcd s).1.f0, (Zcd s).1.f1, (Zcd s).1.f2, (Zcd s).1.f3, (Zcd s).2)
noncomputable def kauditref02_Parse.f (a0 : ByteArray) : Option (ByteArray × Int × Int × ByteArray × Int) := if a0.size ≤ 100000 then some (tupV a0) else none
set_option maxHeartbeats 4000000 in
set_option maxRecDepth 100000 in
theorem rparse_num (a0 bf af : ByteArray) (j : Nat) (hj : j < a0.size) (hno : ∀ i, i < j → bt a0 (i : Int) ≠ 61) (hat : bt a0 (j : Int) = 61) (heb : a0.extract 0 j = bf) (hea : a0.extract (j + 1) a0.size = af) (n : Int) (kn : Nat) (hn : kauditref02_ReadNumber.f kn af = some (n, true)) (fs : ByteArray) (fe : Int) (w : World) (hs : a0.size ≤ 100000)
  (k : Nat) (hf : kauditref02_Format.f k bf 1 n ⟨#[]⟩ = some (fs, fe)) (rv : Value) (rc : Int) (hr : (rv, rc) = if fe = 0 ∧ fs = a0 then (.agg #[.string bf, .int .i64 1, .int .i64 n, .string ⟨#[]⟩], 0) else (.agg #[.string ⟨#[]⟩, .int .i64 0, .int .i64 0, .string ⟨#[]⟩], 21)) :
  Calls Tryz.prog 97 #[.string a0] w fun e w' => e = .returned (.tuple #[rv, .int .i64 rc]) ∧ Below w.heap.size w w' := by
 have HB0 := Zaa.mk (show ∀ o, Below w.heap.size w (w.alloc o) from fun o => Zal (Below.refl _ _) o)
 have HZ := Zaa.mk (Za9 w (.cells #[.string ⟨#[]⟩, .int .i64 0, .int .i64 0, .string ⟨#[]⟩] 88))
 have HR := Zaa.mk hr
 have HN := Zaa.mk hno
 have HA := Zaa.mk hat
 clear hr hno hat
 go_enter Tryz.func97, Tryz.ntmps97
 go_wp2
 go_loopw [4] (fun v4 wr => ∃ i : Nat, i ≤ j ∧ v4 = .int .i64 (i : Int) ∧ Zaa (wr.heap[w.heap.size]? = some (.cells #[.string ⟨#[]⟩, .int .i64 0, .int .i64 0, .string ⟨#[]⟩] 88 (0, 0))) ∧ Zaa (Below w.heap.size w wr)) (fun v4 _ => j - (intOf v4).toNat)
 case atStart => exact ⟨0, by omega, rfl, HZ, ⟨HB0.out _⟩⟩
 case round =>
  clear HZ HB0
  obtain ⟨i, hi, rfl, BK1, HB1⟩ := hrel
  have p0 : (0 : Int) ≤ (i : Int) := by omega
  have p1 : (i : Int) < (a0.size : Int) := by omega
  have hxi : ∀ h : i < a0.size, (((a0[i]'h).toNat : Nat) : Int) = bt a0 (i : Int) := fun h => by have := Za0 a0 (i : Int); simpa using this (by simpa using h)
  have hb1 : decide ((i : Int) < (a0.size : Int)) = true := decide_eq_true p1
  by_cases hij : i < j
  ·have hne := HN.out i hij
   have hx1 : (bt a0 (i : Int) != 61) = true := bne_iff_ne.mpr hne
   have hw : wrap64 ((i : Int) + 1) = ((i + 1 : Nat) : Int) := by rw [wrap64_id (by omega) (by omega)]; omega
   replace p0 := eq_true p0
   replace p1 := eq_true p1
   go_wp2
   go_roundw
   case rel => exact ⟨i + 1, by omega, by go_num, BK1, HB1⟩
   case measure => simp [intOf]; omega
  ·obtain rfl : i = j := by omega
   have hx1 : (bt a0 (i : Int) != 61) = false := bne_eq_false_iff_eq.mpr HA.out
   have hw : wrap64 ((i : Int) + 1) = ((i + 1 : Nat) : Int) := by rw [wrap64_id (by omega) (by omega)]; omega
   have hq : ((i : Int) == (a0.size : Int)) = false := beq_eq_false_iff_ne.mpr (by omega)
   replace p0 := eq_true p0
   replace p1 := eq_true p1
   have q2 : ((i : Int) ≤ (a0.size : Int)) = True := eq_true (by omega)
   have q3 : ((0 : Int) ≤ (i : Int) + 1) = True := eq_true (by omega)
   have q4 : ((i : Int) + 1 ≤ (a0.size : Int)) = True := eq_true (by omega)
   clear HN
   go_wp2_with (first
    | (go_at_call 126; refine (kauditref02_ReadNumber.calls kn af n true _ hn).mono ?_; rintro e w2 ⟨rfl, hd⟩; have hb := hd.below; have BKP := Zaa.mk (Zah (Za9 wr (.cells #[.string bf, .int .i64 3, .int .i64 0, .string ⟨#[]⟩] 88)) hb); have BK2 := Zaa.mk (Zah (Zab BK1.out _) hb); have HB2 := Zaa.mk (Zae (Zal HB1.out _) hb); have HNE := Zaa.mk (Nat.ne_of_lt (Za3 BK1.out)); have GE := Zaa.mk HB1.out.size; have f1w2 : w2.frozen? ⟨wr.heap.size, 1, none⟩ = false := Zak BKP.out 1; have f2w2 : w2.frozen? ⟨wr.heap.size, 2, none⟩ = false := Zak BKP.out 2; have f3w2 : w2.frozen? ⟨wr.heap.size, 3, none⟩ = false := Zak BKP.out 3; have z0w2 : w2.cell? ⟨wr.heap.size, 0, none⟩ = some (.string bf) := (Zaf BKP.out 0).trans rfl; have z1w2 : w2.cell? ⟨wr.heap.size, 1, none⟩ = some (.int .i64 3) := (Zaf BKP.out 1).trans rfl; have z2w2 : w2.cell? ⟨wr.heap.size, 2, none⟩ = some (.int .i64 0) := (Zaf BKP.out 2).trans rfl; have z3w2 : w2.cell? ⟨wr.heap.size, 3, none⟩ = some (.string ⟨#[]⟩) := (Zaf BKP.out 3).trans rfl; clear hb hd)
    | (go_at_call 46; refine (kauditref02_Format.calls k bf 1 n ⟨#[]⟩ fs fe _ hf).mono ?_; rintro e w3 ⟨rfl, hb⟩; have BK3 := Zaa.mk (Zah (Zaq (Zaq BK2.out HNE.out _) HNE.out _) hb); have BKQ := Zaa.mk (Zah (Zan (Zan BKP.out 1 (.int .i64 1)) 2 (.int .i64 n)) hb); have HB3 := Zaa.mk (Zae (Zag (Zag HB2.out GE.out) GE.out) hb); have y0 : w3.cell? ⟨wr.heap.size, 0, none⟩ = some (.string bf) := (Zaf BKQ.out 0).trans rfl; have y1 : w3.cell? ⟨wr.heap.size, 1, none⟩ = some (.int .i64 1) := (Zaf BKQ.out 1).trans rfl; have y2 : w3.cell? ⟨wr.heap.size, 2, none⟩ = some (.int .i64 n) := (Zaf BKQ.out 2).trans rfl; have y3 : w3.cell? ⟨wr.heap.size, 3, none⟩ = some (.string ⟨#[]⟩) := (Zaf BKQ.out 3).trans rfl; have x0 : w3.cell? ⟨w.heap.size, 0, none⟩ = some (.string ⟨#[]⟩) := (Zaf BK3.out 0).trans rfl; have g0 : w3.frozen? ⟨w.heap.size, 0, none⟩ = false := Zak BK3.out 0; have x1 : w3.cell? ⟨w.heap.size, 1, none⟩ = some (.int .i64 0) := (Zaf BK3.out 1).trans rfl; have g1 : w3.frozen? ⟨w.heap.size, 1, none⟩ = false := Zak BK3.out 1; have x2 : w3.cell? ⟨w.heap.size, 2, none⟩ = some (.int .i64 0) := (Zaf BK3.out 2).trans rfl; have g2 : w3.frozen? ⟨w.heap.size, 2, none⟩ = false := Zak BK3.out 2; have x3 : w3.cell? ⟨w.heap.size, 3, none⟩ = some (.string ⟨#[]⟩) := (Zaf BK3.out 3).trans rfl; have g3 : w3.frozen? ⟨w.heap.size, 3, none⟩ = false := Zak BK3.out 3; clear hb))
   ·have hq : (!(fs.toList == a0.toList)) = true := by assumption
    rw [Zbl] at hq
    have hr := HR.out
    rw [if_neg (fun e => by rw [decide_eq_true e.2] at hq; cases hq)] at hr
    obtain ⟨rfl, rfl⟩ := Prod.mk.inj hr
    refine bodyPost_ret (Za5 rfl _ _ w.heap.size 88 #[.string ⟨#[]⟩, .int .i64 0, .int .i64 0, .string ⟨#[]⟩] (0, 0) _ rfl (Zan (Zan (Zan (Zan BK3.out 0 _) 1 _) 2 _) 3 _) Tryz.underlying88 rfl (by kernel_rfl)) rfl ?_
    exact ⟨rfl, Zag (Zag (Zag (Zag HB3.out (Nat.le_refl _)) (Nat.le_refl _)) (Nat.le_refl _)) (Nat.le_refl _)⟩
   ·have hq : (!(fs.toList == a0.toList)) = false := by assumption
    have he : fe = 0 := by assumption
    rw [Zbl] at hq
    have hr := HR.out
    rw [if_pos ⟨he, of_decide_eq_true (by simpa using hq)⟩] at hr
    obtain ⟨rfl, rfl⟩ := Prod.mk.inj hr
    refine bodyPost_ret (Za5 rfl _ _ w.heap.size 88 #[.string bf, .int .i64 1, .int .i64 n, .string ⟨#[]⟩] (0, 0) _ rfl (Zan (Zan (Zan (Zan BK3.out 0 _) 1 _) 2 _) 3 _) Tryz.underlying88 rfl (by kernel_rfl)) rfl ?_
    exact ⟨rfl, Zag (Zag (Zag (Zag HB3.out (Nat.le_refl _)) (Nat.le_refl _)) (Nat.le_refl _)) (Nat.le_refl _)⟩
   ·have he : ¬ fe = 0 := by assumption
    have hr := HR.out
    rw [if_neg (fun e => he e.1)] at hr
    obtain ⟨rfl, rfl⟩ := Prod.mk.inj hr
    refine bodyPost_ret (Za5 rfl _ _ w.heap.size 88 #[.string ⟨#[]⟩, .int .i64 0, .int .i64 0, .string ⟨#[]⟩] (0, 0) _ rfl (Zan (Zan (Zan (Zan BK3.out 0 _) 1 _) 2 _) 3 _) Tryz.underlying88 rfl (by kernel_rfl)) rfl ?_
    exact ⟨rfl, Zag (Zag (Zag (Zag HB3.out (Nat.le_refl _)) (Nat.le_refl _)) (Nat.le_refl _)) (Nat.le_refl _)⟩
set_option maxHeartbeats 4000000 in
set_option maxRecDepth 100000 in
theorem rparse_text (a0 bf af : ByteArray) (j : Nat) (hj : j < a0.size) (hno : ∀ i, i < j → bt a0 (i : Int) ≠ 61) (hat : bt a0 (j : Int) = 61) (heb : a0.extract 0 j = bf) (hea : a0.extract (j + 1) a0.size = af) (n : Int) (kn : Nat) (hn : kauditref02_ReadNumber.f kn af = some (n, false)) (t : ByteArray) (ku : Nat) (hu : kauditref02_Unquote.f ku af = some (t, 0)) (fs : ByteArray) (fe : Int) (w : World) (hs : a0.size ≤ 100000)
  (k : Nat) (hf : kauditref02_Format.f k bf 2 0 t = some (fs, fe)) (rv : Value) (rc : Int) (hr : (rv, rc) = if fe = 0 ∧ fs = a0 then (.agg #[.string bf, .int .i64 2, .int .i64 0, .string t], 0) else (.agg #[.string ⟨#[]⟩, .int .i64 0, .int .i64 0, .string ⟨#[]⟩], 21)) :
  Calls Tryz.prog 97 #[.string a0] w fun e w' => e = .returned (.tuple #[rv, .int .i64 rc]) ∧ Below w.heap.size w w' := by
 have HB0 := Zaa.mk (show ∀ o, Below w.heap.size w (w.alloc o) from fun o => Zal (Below.refl _ _) o)
 have HZ := Zaa.mk (Za9 w (.cells #[.string ⟨#[]⟩, .int .i64 0, .int .i64 0, .string ⟨#[]⟩] 88))
 have HR := Zaa.mk hr
 have HN := Zaa.mk hno
 have HA := Zaa.mk hat
 clear hr hno hat
 go_enter Tryz.func97, Tryz.ntmps97
 go_wp2
 go_loopw [4] (fun v4 wr => ∃ i : Nat, i ≤ j ∧ v4 = .int .i64 (i : Int) ∧ Zaa (wr.heap[w.heap.size]? = some (.cells #[.string ⟨#[]⟩, .int .i64 0, .int .i64 0, .string ⟨#[]⟩] 88 (0, 0))) ∧ Zaa (Below w.heap.size w wr)) (fun v4 _ => j - (intOf v4).toNat)
 case atStart => exact ⟨0, by omega, rfl, HZ, ⟨HB0.out _⟩⟩
 case round =>
  clear HZ HB0
  obtain ⟨i, hi, rfl, BK1, HB1⟩ := hrel
  have p0 : (0 : Int) ≤ (i : Int) := by omega
  have p1 : (i : Int) < (a0.size : Int) := by omega
  have hxi : ∀ h : i < a0.size, (((a0[i]'h).toNat : Nat) : Int) = bt a0 (i : Int) := fun h => by have := Za0 a0 (i : Int); simpa using this (by simpa using h)
  have hb1 : decide ((i : Int) < (a0.size : Int)) = true := decide_eq_true p1
  by_cases hij : i < j
  ·have hne := HN.out i hij
   have hx1 : (bt a0 (i : Int) != 61) = true := bne_iff_ne.mpr hne
   have hw : wrap64 ((i : Int) + 1) = ((i + 1 : Nat) : Int) := by rw [wrap64_id (by omega) (by omega)]; omega
   replace p0 := eq_true p0
   replace p1 := eq_true p1
   go_wp2
   go_roundw
   case rel => exact ⟨i + 1, by omega, by go_num, BK1, HB1⟩
   case measure => simp [intOf]; omega
  ·obtain rfl : i = j := by omega
   have hx1 : (bt a0 (i : Int) != 61) = false := bne_eq_false_iff_eq.mpr HA.out
   have hw : wrap64 ((i : Int) + 1) = ((i + 1 : Nat) : Int) := by rw [wrap64_id (by omega) (by omega)]; omega
   have hq : ((i : Int) == (a0.size : Int)) = false := beq_eq_false_iff_ne.mpr (by omega)
   replace p0 := eq_true p0
   replace p1 := eq_true p1
   have q2 : ((i : Int) ≤ (a0.size : Int)) = True := eq_true (by omega)
   have q3 : ((0 : Int) ≤ (i : Int) + 1) = True := eq_true (by omega)
   have q4 : ((i : Int) + 1 ≤ (a0.size : Int)) = True := eq_true (by omega)
   clear HN
   go_wp2_with (first
    | (go_at_call 126; refine (kauditref02_ReadNumber.calls kn af n false _ hn).mono ?_; rintro e w2 ⟨rfl, hd⟩; have hb := hd.below; have BKP := Zaa.mk (Zah (Za9 wr (.cells #[.string bf, .int .i64 3, .int .i64 0, .string ⟨#[]⟩] 88)) hb); have BK2 := Zaa.mk (Zah (Zab BK1.out _) hb); have HB2 := Zaa.mk (Zae (Zal HB1.out _) hb); have HNE := Zaa.mk (Nat.ne_of_lt (Za3 BK1.out)); have GE := Zaa.mk HB1.out.size; have f1w2 : w2.frozen? ⟨wr.heap.size, 1, none⟩ = false := Zak BKP.out 1; have f2w2 : w2.frozen? ⟨wr.heap.size, 2, none⟩ = false := Zak BKP.out 2; have f3w2 : w2.frozen? ⟨wr.heap.size, 3, none⟩ = false := Zak BKP.out 3; have z0w2 : w2.cell? ⟨wr.heap.size, 0, none⟩ = some (.string bf) := (Zaf BKP.out 0).trans rfl; have z1w2 : w2.cell? ⟨wr.heap.size, 1, none⟩ = some (.int .i64 3) := (Zaf BKP.out 1).trans rfl; have z2w2 : w2.cell? ⟨wr.heap.size, 2, none⟩ = some (.int .i64 0) := (Zaf BKP.out 2).trans rfl; have z3w2 : w2.cell? ⟨wr.heap.size, 3, none⟩ = some (.string ⟨#[]⟩) := (Zaf BKP.out 3).trans rfl; clear hb hd)
    | (go_at_call 127; refine (kauditref02_Unquote.calls ku af t 0 _ hu).mono ?_; rintro e w5 ⟨rfl, hb⟩; have BKP5 := Zaa.mk (Zah BKP.out hb); have BK5 := Zaa.mk (Zah BK2.out hb); have HB5 := Zaa.mk (Zae HB2.out hb); have f1w5 : w5.frozen? ⟨wr.heap.size, 1, none⟩ = false := Zak BKP5.out 1; have f2w5 : w5.frozen? ⟨wr.heap.size, 2, none⟩ = false := Zak BKP5.out 2; have f3w5 : w5.frozen? ⟨wr.heap.size, 3, none⟩ = false := Zak BKP5.out 3; have z0w5 : w5.cell? ⟨wr.heap.size, 0, none⟩ = some (.string bf) := (Zaf BKP5.out 0).trans rfl; have z1w5 : w5.cell? ⟨wr.heap.size, 1, none⟩ = some (.int .i64 3) := (Zaf BKP5.out 1).trans rfl; have z2w5 : w5.cell? ⟨wr.heap.size, 2, none⟩ = some (.int .i64 0) := (Zaf BKP5.out 2).trans rfl; have z3w5 : w5.cell? ⟨wr.heap.size, 3, none⟩ = some (.string ⟨#[]⟩) := (Zaf BKP5.out 3).trans rfl; clear hb)
    | (go_at_call 46; refine (kauditref02_Format.calls k bf 2 0 t fs fe _ hf).mono ?_; rintro e w3 ⟨rfl, hb⟩; have BK3 := Zaa.mk (Zah (Zaq (Zaq BK5.out HNE.out _) HNE.out _) hb); have BKQ := Zaa.mk (Zah (Zan (Zan BKP5.out 1 (.int .i64 2)) 3 (.string t)) hb); have HB3 := Zaa.mk (Zae (Zag (Zag HB5.out GE.out) GE.out) hb); have y0 : w3.cell? ⟨wr.heap.size, 0, none⟩ = some (.string bf) := (Zaf BKQ.out 0).trans rfl; have y1 : w3.cell? ⟨wr.heap.size, 1, none⟩ = some (.int .i64 2) := (Zaf BKQ.out 1).trans rfl; have y2 : w3.cell? ⟨wr.heap.size, 2, none⟩ = some (.int .i64 0) := (Zaf BKQ.out 2).trans rfl; have y3 : w3.cell? ⟨wr.heap.size, 3, none⟩ = some (.string t) := (Zaf BKQ.out 3).trans rfl; have x0 : w3.cell? ⟨w.heap.size, 0, none⟩ = some (.string ⟨#[]⟩) := (Zaf BK3.out 0).trans rfl; have g0 : w3.frozen? ⟨w.heap.size, 0, none⟩ = false := Zak BK3.out 0; have x1 : w3.cell? ⟨w.heap.size, 1, none⟩ = some (.int .i64 0) := (Zaf BK3.out 1).trans rfl; have g1 : w3.frozen? ⟨w.heap.size, 1, none⟩ = false := Zak BK3.out 1; have x2 : w3.cell? ⟨w.heap.size, 2, none⟩ = some (.int .i64 0) := (Zaf BK3.out 2).trans rfl; have g2 : w3.frozen? ⟨w.heap.size, 2, none⟩ = false := Zak BK3.out 2; have x3 : w3.cell? ⟨w.heap.size, 3, none⟩ = some (.string ⟨#[]⟩) := (Zaf BK3.out 3).trans rfl; have g3 : w3.frozen? ⟨w.heap.size, 3, none⟩ = false := Zak BK3.out 3; clear hb))
   ·have hq : (!(fs.toList == a0.toList)) = true := by assumption
    rw [Zbl] at hq
    have hr := HR.out
    rw [if_neg (fun e => by rw [decide_eq_true e.2] at hq; cases hq)] at hr
    obtain ⟨rfl, rfl⟩ := Prod.mk.inj hr
    refine bodyPost_ret (Za5 rfl _ _ w.heap.size 88 #[.string ⟨#[]⟩, .int .i64 0, .int .i64 0, .string ⟨#[]⟩] (0, 0) _ rfl (Zan (Zan (Zan (Zan BK3.out 0 _) 1 _) 2 _) 3 _) Tryz.underlying88 rfl (by kernel_rfl)) rfl ?_
    exact ⟨rfl, Zag (Zag (Zag (Zag HB3.out (Nat.le_refl _)) (Nat.le_refl _)) (Nat.le_refl _)) (Nat.le_refl _)⟩
   ·have hq : (!(fs.toList == a0.toList)) = false := by assumption
    have he : fe = 0 := by assumption
    rw [Zbl] at hq
    have hr := HR.out
    rw [if_pos ⟨he, of_decide_eq_true (by simpa using hq)⟩] at hr
    obtain ⟨rfl, rfl⟩ := Prod.mk.inj hr
    refine bodyPost_ret (Za5 rfl _ _ w.heap.size 88 #[.string bf, .int .i64 2, .int .i64 0, .string t] (0, 0) _ rfl (Zan (Zan (Zan (Zan BK3.out 0 _) 1 _) 2 _) 3 _) Tryz.underlying88 rfl (by kernel_rfl)) rfl ?_
    exact ⟨rfl, Zag (Zag (Zag (Zag HB3.out (Nat.le_refl _)) (Nat.le_refl _)) (Nat.le_refl _)) (Nat.le_refl _)⟩
   ·have he : ¬ fe = 0 := by assumption
    have hr := HR.out
    rw [if_neg (fun e => he e.1)] at hr
    obtain ⟨rfl, rfl⟩ := Prod.mk.inj hr
    refine bodyPost_ret (Za5 rfl _ _ w.heap.size 88 #[.string ⟨#[]⟩, .int .i64 0, .int .i64 0, .string ⟨#[]⟩] (0, 0) _ rfl (Zan (Zan (Zan (Zan BK3.out 0 _) 1 _) 2 _) 3 _) Tryz.underlying88 rfl (by kernel_rfl)) rfl ?_
    exact ⟨rfl, Zag (Zag (Zag (Zag HB3.out (Nat.le_refl _)) (Nat.le_refl _)) (Nat.le_refl _)) (Nat.le_refl _)⟩
set_option maxHeartbeats 4000000 in
set_option maxRecDepth 100000 in
theorem rparse_null (a0 bf af : ByteArray) (j : Nat) (hj : j < a0.size) (hno : ∀ i, i < j → bt a0 (i : Int) ≠ 61) (hat : bt a0 (j : Int) = 61) (heb : a0.extract 0 j = bf) (hea : a0.extract (j + 1) a0.size = af) (n : Int) (kn : Nat) (hn : kauditref02_ReadNumber.f kn af = some (n, false)) (ku : Nat) (hu : kauditref02_Unquote.f ku af = some (⟨#[]⟩, 21)) (fs : ByteArray) (fe : Int) (w : World) (hs : a0.size ≤ 100000)
  (k : Nat) (hf : kauditref02_Format.f k bf 3 0 ⟨#[]⟩ = some (fs, fe)) (rv : Value) (rc : Int) (hr : (rv, rc) = if fe = 0 ∧ fs = a0 then (.agg #[.string bf, .int .i64 3, .int .i64 0, .string ⟨#[]⟩], 0) else (.agg #[.string ⟨#[]⟩, .int .i64 0, .int .i64 0, .string ⟨#[]⟩], 21)) :
  Calls Tryz.prog 97 #[.string a0] w fun e w' => e = .returned (.tuple #[rv, .int .i64 rc]) ∧ Below w.heap.size w w' := by
 have HB0 := Zaa.mk (show ∀ o, Below w.heap.size w (w.alloc o) from fun o => Zal (Below.refl _ _) o)
 have HZ := Zaa.mk (Za9 w (.cells #[.string ⟨#[]⟩, .int .i64 0, .int .i64 0, .string ⟨#[]⟩] 88))
 have HR := Zaa.mk hr
 have HN := Zaa.mk hno
 have HA := Zaa.mk hat
 clear hr hno hat
 go_enter Tryz.func97, Tryz.ntmps97
 go_wp2
 go_loopw [4] (fun v4 wr => ∃ i : Nat, i ≤ j ∧ v4 = .int .i64 (i : Int) ∧ Zaa (wr.heap[w.heap.size]? = some (.cells #[.string ⟨#[]⟩, .int .i64 0, .int .i64 0, .string ⟨#[]⟩] 88 (0, 0))) ∧ Zaa (Below w.heap.size w wr)) (fun v4 _ => j - (intOf v4).toNat)
 case atStart => exact ⟨0, by omega, rfl, HZ, ⟨HB0.out _⟩⟩
 case round =>
  clear HZ HB0
  obtain ⟨i, hi, rfl, BK1, HB1⟩ := hrel
  have p0 : (0 : Int) ≤ (i : Int) := by omega
  have p1 : (i : Int) < (a0.size : Int) := by omega
  have hxi : ∀ h : i < a0.size, (((a0[i]'h).toNat : Nat) : Int) = bt a0 (i : Int) := fun h => by have := Za0 a0 (i : Int); simpa using this (by simpa using h)
  have hb1 : decide ((i : Int) < (a0.size : Int)) = true := decide_eq_true p1
  by_cases hij : i < j
  ·have hne := HN.out i hij
   have hx1 : (bt a0 (i : Int) != 61) = true := bne_iff_ne.mpr hne
   have hw : wrap64 ((i : Int) + 1) = ((i + 1 : Nat) : Int) := by rw [wrap64_id (by omega) (by omega)]; omega
   replace p0 := eq_true p0
   replace p1 := eq_true p1
   go_wp2
   go_roundw
   case rel => exact ⟨i + 1, by omega, by go_num, BK1, HB1⟩
   case measure => simp [intOf]; omega
  ·obtain rfl : i = j := by omega
   have hx1 : (bt a0 (i : Int) != 61) = false := bne_eq_false_iff_eq.mpr HA.out
   have hw : wrap64 ((i : Int) + 1) = ((i + 1 : Nat) : Int) := by rw [wrap64_id (by omega) (by omega)]; omega
   have hq : ((i : Int) == (a0.size : Int)) = false := beq_eq_false_iff_ne.mpr (by omega)
   replace p0 := eq_true p0
   replace p1 := eq_true p1
   have q2 : ((i : Int) ≤ (a0.size : Int)) = True := eq_true (by omega)
   have q3 : ((0 : Int) ≤ (i : Int) + 1) = True := eq_true (by omega)
   have q4 : ((i : Int) + 1 ≤ (a0.size : Int)) = True := eq_true (by omega)
   clear HN
   go_wp2_with (first
    | (go_at_call 126; refine (kauditref02_ReadNumber.calls kn af n false _ hn).mono ?_; rintro e w2 ⟨rfl, hd⟩; have hb := hd.below; have BKP := Zaa.mk (Zah (Za9 wr (.cells #[.string bf, .int .i64 3, .int .i64 0, .string ⟨#[]⟩] 88)) hb); have BK2 := Zaa.mk (Zah (Zab BK1.out _) hb); have HB2 := Zaa.mk (Zae (Zal HB1.out _) hb); have HNE := Zaa.mk (Nat.ne_of_lt (Za3 BK1.out)); have GE := Zaa.mk HB1.out.size; have f1w2 : w2.frozen? ⟨wr.heap.size, 1, none⟩ = false := Zak BKP.out 1; have f2w2 : w2.frozen? ⟨wr.heap.size, 2, none⟩ = false := Zak BKP.out 2; have f3w2 : w2.frozen? ⟨wr.heap.size, 3, none⟩ = false := Zak BKP.out 3; have z0w2 : w2.cell? ⟨wr.heap.size, 0, none⟩ = some (.string bf) := (Zaf BKP.out 0).trans rfl; have z1w2 : w2.cell? ⟨wr.heap.size, 1, none⟩ = some (.int .i64 3) := (Zaf BKP.out 1).trans rfl; have z2w2 : w2.cell? ⟨wr.heap.size, 2, none⟩ = some (.int .i64 0) := (Zaf BKP.out 2).trans rfl; have z3w2 : w2.cell? ⟨wr.heap.size, 3, none⟩ = some (.string ⟨#[]⟩) := (Zaf BKP.out 3).trans rfl; clear hb hd)
    | (go_at_call 127; refine (kauditref02_Unquote.calls ku af ⟨#[]⟩ 21 _ hu).mono ?_; rintro e w5 ⟨rfl, hb⟩; have BKP5 := Zaa.mk (Zah BKP.out hb); have BK5 := Zaa.mk (Zah BK2.out hb); have HB5 := Zaa.mk (Zae HB2.out hb); have f1w5 : w5.frozen? ⟨wr.heap.size, 1, none⟩ = false := Zak BKP5.out 1; have f2w5 : w5.frozen? ⟨wr.heap.size, 2, none⟩ = false := Zak BKP5.out 2; have f3w5 : w5.frozen? ⟨wr.heap.size, 3, none⟩ = false := Zak BKP5.out 3; have z0w5 : w5.cell? ⟨wr.heap.size, 0, none⟩ = some (.string bf) := (Zaf BKP5.out 0).trans rfl; have z1w5 : w5.cell? ⟨wr.heap.size, 1, none⟩ = some (.int .i64 3) := (Zaf BKP5.out 1).trans rfl; have z2w5 : w5.cell? ⟨wr.heap.size, 2, none⟩ = some (.int .i64 0) := (Zaf BKP5.out 2).trans rfl; have z3w5 : w5.cell? ⟨wr.heap.size, 3, none⟩ = some (.string ⟨#[]⟩) := (Zaf BKP5.out 3).trans rfl; clear hb)
    | (go_at_call 46; refine (kauditref02_Format.calls k bf 3 0 ⟨#[]⟩ fs fe _ hf).mono ?_; rintro e w3 ⟨rfl, hb⟩; have BK3 := Zaa.mk (Zah BK5.out hb); have BKQ := Zaa.mk (Zah BKP5.out hb); have HB3 := Zaa.mk (Zae HB5.out hb); have y0 : w3.cell? ⟨wr.heap.size, 0, none⟩ = some (.string bf) := (Zaf BKQ.out 0).trans rfl; have y1 : w3.cell? ⟨wr.heap.size, 1, none⟩ = some (.int .i64 3) := (Zaf BKQ.out 1).trans rfl; have y2 : w3.cell? ⟨wr.heap.size, 2, none⟩ = some (.int .i64 0) := (Zaf BKQ.out 2).trans rfl; have y3 : w3.cell? ⟨wr.heap.size, 3, none⟩ = some (.string ⟨#[]⟩) := (Zaf BKQ.out 3).trans rfl; have x0 : w3.cell? ⟨w.heap.size, 0, none⟩ = some (.string ⟨#[]⟩) := (Zaf BK3.out 0).trans rfl; have g0 : w3.frozen? ⟨w.heap.size, 0, none⟩ = false := Zak BK3.out 0; have x1 : w3.cell? ⟨w.heap.size, 1, none⟩ = some (.int .i64 0) := (Zaf BK3.out 1).trans rfl; have g1 : w3.frozen? ⟨w.heap.size, 1, none⟩ = false := Zak BK3.out 1; have x2 : w3.cell? ⟨w.heap.size, 2, none⟩ = some (.int .i64 0) := (Zaf BK3.out 2).trans rfl; have g2 : w3.frozen? ⟨w.heap.size, 2, none⟩ = false := Zak BK3.out 2; have x3 : w3.cell? ⟨w.heap.size, 3, none⟩ = some (.string ⟨#[]⟩) := (Zaf BK3.out 3).trans rfl; have g3 : w3.frozen? ⟨w.heap.size, 3, none⟩ = false := Zak BK3.out 3; clear hb))
   ·have hq : (!(fs.toList == a0.toList)) = true := by assumption
    rw [Zbl] at hq
    have hr := HR.out
    rw [if_neg (fun e => by rw [decide_eq_true e.2] at hq; cases hq)] at hr
    obtain ⟨rfl, rfl⟩ := Prod.mk.inj hr
    refine bodyPost_ret (Za5 rfl _ _ w.heap.size 88 #[.string ⟨#[]⟩, .int .i64 0, .int .i64 0, .string ⟨#[]⟩] (0, 0) _ rfl (Zan (Zan (Zan (Zan BK3.out 0 _) 1 _) 2 _) 3 _) Tryz.underlying88 rfl (by kernel_rfl)) rfl ?_
    exact ⟨rfl, Zag (Zag (Zag (Zag HB3.out (Nat.le_refl _)) (Nat.le_refl _)) (Nat.le_refl _)) (Nat.le_refl _)⟩
   ·have hq : (!(fs.toList == a0.toList)) = false := by assumption
    have he : fe = 0 := by assumption
    rw [Zbl] at hq
    have hr := HR.out
    rw [if_pos ⟨he, of_decide_eq_true (by simpa using hq)⟩] at hr
    obtain ⟨rfl, rfl⟩ := Prod.mk.inj hr
    refine bodyPost_ret (Za5 rfl _ _ w.heap.size 88 #[.string bf, .int .i64 3, .int .i64 0, .string ⟨#[]⟩] (0, 0) _ rfl (Zan (Zan (Zan (Zan BK3.out 0 _) 1 _) 2 _) 3 _) Tryz.underlying88 rfl (by kernel_rfl)) rfl ?_
    exact ⟨rfl, Zag (Zag (Zag (Zag HB3.out (Nat.le_refl _)) (Nat.le_refl _)) (Nat.le_refl _)) (Nat.le_refl _)⟩
   ·have he : ¬ fe = 0 := by assumption
    have hr := HR.out
    rw [if_neg (fun e => he e.1)] at hr
    obtain ⟨rfl, rfl⟩ := Prod.mk.inj hr
    refine bodyPost_ret (Za5 rfl _ _ w.heap.size 88 #[.string ⟨#[]⟩, .int .i64 0, .int .i64 0, .string ⟨#[]⟩] (0, 0) _ rfl (Zan (Zan (Zan (Zan BK3.out 0 _) 1 _) 2 _) 3 _) Tryz.underlying88 rfl (by kernel_rfl)) rfl ?_
    exact ⟨rfl, Zag (Zag (Zag (Zag HB3.out (Nat.le_refl _)) (Nat.le_refl _)) (Nat.le_refl _)) (Nat.le_refl _)⟩
set_option maxHeartbeats 4000000 in
set_option maxRecDepth 100000 in
theorem rparse_none (a0 : ByteArray) (hno : ∀ i, i < a0.size → bt a0 (i : Int) ≠ 61) (w : World) (hs : a0.size ≤ 100000) :
  Calls Tryz.prog 97 #[.string a0] w fun e w' => e = .returned (.tuple #[.agg #[.string ⟨#[]⟩, .int .i64 0, .int .i64 0, .string ⟨#[]⟩], .int .i64 21]) ∧ Below w.heap.size w w' := by
 have HB0 := Zaa.mk (show ∀ o, Below w.heap.size w (w.alloc o) from fun o => Zal (Below.refl _ _) o)
 have HZ := Zaa.mk (Za9 w (.cells #[.string ⟨#[]⟩, .int .i64 0, .int .i64 0, .string ⟨#[]⟩] 88))
 have HN := Zaa.mk hno
 clear hno
 go_enter Tryz.func97, Tryz.ntmps97
 go_wp2
 go_loopw [4] (fun v4 wr => ∃ i : Nat, i ≤ a0.size ∧ v4 = .int .i64 (i : Int) ∧ Zaa (wr.heap[w.heap.size]? = some (.cells #[.string ⟨#[]⟩, .int .i64 0, .int .i64 0, .string ⟨#[]⟩] 88 (0, 0))) ∧ Zaa (Below w.heap.size w wr)) (fun v4 _ => a0.size - (intOf v4).toNat)
 case atStart => exact ⟨0, by omega, rfl, HZ, ⟨HB0.out _⟩⟩
 case round =>
  clear HZ HB0
  obtain ⟨i, hi, rfl, BK1, HB1⟩ := hrel
  have p0 : (0 : Int) ≤ (i : Int) := by omega
  have hw : wrap64 ((i : Int) + 1) = ((i + 1 : Nat) : Int) := by rw [wrap64_id (by omega) (by omega)]; omega
  by_cases hij : i < a0.size
  ·have p1 : (i : Int) < (a0.size : Int) := by omega
   have hxi : ∀ h : i < a0.size, (((a0[i]'h).toNat : Nat) : Int) = bt a0 (i : Int) := fun h => by have := Za0 a0 (i : Int); simpa using this (by simpa using h)
   have hb1 : decide ((i : Int) < (a0.size : Int)) = true := decide_eq_true p1
   have hx1 : (bt a0 (i : Int) != 61) = true := bne_iff_ne.mpr (HN.out i hij)
   replace p0 := eq_true p0
   replace p1 := eq_true p1
   go_wp2
   go_roundw
   case rel => exact ⟨i + 1, by omega, by go_num, BK1, HB1⟩
   case measure => simp [intOf]; omega
  ·obtain rfl : i = a0.size := by omega
   have x0 : wr.cell? ⟨w.heap.size, 0, none⟩ = some (.string ⟨#[]⟩) := (Zaf BK1.out 0).trans rfl
   have x1 : wr.cell? ⟨w.heap.size, 1, none⟩ = some (.int .i64 0) := (Zaf BK1.out 1).trans rfl
   have x2 : wr.cell? ⟨w.heap.size, 2, none⟩ = some (.int .i64 0) := (Zaf BK1.out 2).trans rfl
   have x3 : wr.cell? ⟨w.heap.size, 3, none⟩ = some (.string ⟨#[]⟩) := (Zaf BK1.out 3).trans rfl
   have g0 : wr.frozen? ⟨w.heap.size, 0, none⟩ = false := Zak BK1.out 0
   have g1 : wr.frozen? ⟨w.heap.size, 1, none⟩ = false := Zak BK1.out 1
   have g2 : wr.frozen? ⟨w.heap.size, 2, none⟩ = false := Zak BK1.out 2
   have g3 : wr.frozen? ⟨w.heap.size, 3, none⟩ = false := Zak BK1.out 3
   go_wp2
   refine bodyPost_ret (Za5 rfl _ _ w.heap.size 88 #[.string ⟨#[]⟩, .int .i64 0, .int .i64 0, .string ⟨#[]⟩] (0, 0) _ rfl (Zan (Zan (Zan (Zan BK1.out 0 _) 1 _) 2 _) 3 _) Tryz.underlying88 rfl (by kernel_rfl)) rfl ?_
   exact ⟨rfl, Zag (Zag (Zag (Zag HB1.out (Nat.le_refl _)) (Nat.le_refl _)) (Nat.le_refl _)) (Nat.le_refl _)⟩
theorem find61 (a0 : ByteArray) : (∀ i, i < a0.size → bt a0 (i : Int) ≠ 61) ∨ ∃ j, j < a0.size ∧ (∀ i, i < j → bt a0 (i : Int) ≠ 61) ∧ bt a0 (j : Int) = 61 := by
 have key : ∀ n, n ≤ a0.size → (∀ i, i < n → bt a0 (i : Int) ≠ 61) ∨ ∃ j, j < a0.size ∧ (∀ i, i < j → bt a0 (i : Int) ≠ 61) ∧ bt a0 (j : Int) = 61 := by
  intro n
  induction n with
  | zero => exact fun _ => .inl (fun i hi => by omega)
  | succ n ih =>
   intro hn
   rcases ih (by omega) with h | h
   ·by_cases hb : bt a0 (n : Int) = 61
    ·exact .inr ⟨n, by omega, h, hb⟩
    ·refine .inl (fun i hi => ?_)
     by_cases e : i = n
     ·rw [e]; exact hb
     ·exact h i (by omega)
   ·exact .inr h
 exact key a0.size (Nat.le_refl _)
theorem kauditref02_Parse.calls (a0 : ByteArray) (r1 : ByteArray) (r2 : Int) (r3 : Int) (r4 : ByteArray) (r5 : Int) (w : World) (h : kauditref02_Parse.f a0 = some (r1, r2, r3, r4, r5)) :
  Calls Tryz.prog 97 #[.string a0] w fun e w' => e = .returned (.tuple #[.agg #[.string r1, .int .i64 r2, .int .i64 r3, .string r4], .int .i64 r5]) ∧ Below w.heap.size w w' := by
 unfold kauditref02_Parse.f at h
 by_cases hs : a0.size ≤ 100000
 case neg => rw [if_neg hs] at h; cases h
 rw [if_pos hs] at h
 have h := Option.some.inj h
 unfold tupV at h
 simp only [Prod.mk.injEq] at h
 obtain ⟨e1, e2, e3, e4, e5⟩ := h
 rcases find61 a0 with hno | ⟨j, hj, hno, hat⟩
 ·have hn : (61 : UInt8) ∉ L a0 := by
   intro hm
   obtain ⟨i, hi, hg⟩ := List.getElem_of_mem hm
   refine hno i (by rw [Za2]; exact hi) ?_
   rw [bt_L a0 i hi, hg]
   rfl
  have hv := parseV_no (s := a0) (fun p hp => hn (by
   rw [hp.2.2]
   unfold Zcj
   exact List.mem_append_right _ (List.mem_cons_self ..)))
  rw [← e1, ← e2, ← e3, ← e4, ← e5, hv]
  exact rparse_none a0 hno w hs
 ·have hlt : j < (L a0).length := by rw [← Za2]; exact hj
  have hg : (L a0)[j] = 61 := by
   have := bt_L a0 j hlt
   rw [hat] at this
   exact UInt8.toNat_inj.1 (by show (L a0)[j].toNat = 61; omega)
  have hn : (61 : UInt8) ∉ (L a0).take j := by
   intro hm
   obtain ⟨i, hi, hg2⟩ := List.getElem_of_mem hm
   rw [List.length_take] at hi
   rw [List.getElem_take] at hg2
   refine hno i (by omega) ?_
   rw [bt_L a0 i (by omega), hg2]
   rfl
  obtain ⟨bf, hbf⟩ : ∃ bf, bf = a0.extract 0 j := ⟨_, rfl⟩
  obtain ⟨af, haf⟩ : ∃ af, af = a0.extract (j + 1) a0.size := ⟨_, rfl⟩
  have lb : L bf = (L a0).take j := by rw [hbf, Zb3, List.drop_zero, Nat.sub_zero]
  have la : L af = (L a0).drop (j + 1) := by
   rw [haf, Zb3, List.take_of_length_le]
   rw [List.length_drop, ← Za2]
   exact Nat.le_refl _
  have hcut : Lib.cut (L a0) [61] = (L bf, L af, true) := by
   have := cut_at 61 [] ((L a0).take j) ((L a0).drop (j + 1)) hn
   rw [lb, la]
   rw [← this]
   congr 1
   have e := List.take_append_drop j (L a0)
   rw [List.drop_eq_getElem_cons hlt, hg] at e
   exact e.symm
  have zb : bf.size ≤ 100000 := by rw [Za2, lb, List.length_take, ← Za2]; omega
  have za : af.size ≤ 100000 := by rw [Za2, la, List.length_drop, ← Za2]; omega
  have ebf : (⟨(L bf).toArray⟩ : ByteArray) = bf := ext_L (L_mk _)
  have eaf : (⟨(L af).toArray⟩ : ByteArray) = af := ext_L (L_mk _)
  have fin : ∀ (c n : Int) (tx : ByteArray), Zcd a0 = (if Zbn bf c n tx = (a0, 0) then (⟨bf, c, n, tx⟩, 0) else (zeroP, 21)) →
    ((.agg #[.string r1, .int .i64 r2, .int .i64 r3, .string r4] : Value), r5) = if (Zbn bf c n tx).2 = 0 ∧ (Zbn bf c n tx).1 = a0 then (.agg #[.string bf, .int .i64 c, .int .i64 n, .string tx], 0) else (.agg #[.string ⟨#[]⟩, .int .i64 0, .int .i64 0, .string ⟨#[]⟩], 21) := by
   intro c n tx hp
   rw [← e1, ← e2, ← e3, ← e4, ← e5, hp]
   by_cases hq : Zbn bf c n tx = (a0, 0)
   ·rw [if_pos hq, hq, if_pos ⟨rfl, rfl⟩]
   ·rw [if_neg hq, if_neg (fun e => hq (Prod.ext e.2 e.1))]
    rfl
  obtain ⟨n, n0, n1, hrn, hd⟩ := readN_run af za 1000 (by omega)
  by_cases hdec : Lib.itoa n = L af
  ·rw [decide_eq_true hdec] at hrn
   have hp := parse_num hcut (by rw [← hdec]; exact atoi_itoa n n0 n1)
   rw [ebf] at hp
   exact rparse_num a0 bf af j hj hno hat hbf.symm haf.symm n _ hrn _ _ w hs 1000 (ref_Format_run bf 1 n ⟨#[]⟩ zb n0 n1 _ (by omega)) _ _ (fin 1 n ⟨#[]⟩ hp)
  ·rw [decide_eq_false hdec] at hrn
   have hno2 : ¬ IsDec (L af) := fun h => hdec (hd h)
   rcases ref_Unquote_right af za 200301 (by omega) with ⟨t, hq, hu⟩ | ⟨hq, hu⟩
   ·have hp := parse_text hcut hno2 (t := t) (by rw [eaf]; exact hq)
    rw [ebf] at hp
    exact rparse_text a0 bf af j hj hno hat hbf.symm haf.symm n _ hrn t _ hu _ _ w hs 1000 (ref_Format_run bf 2 0 t zb (by omega) (by omega) _ (by omega)) _ _ (fin 2 0 t hp)
   ·have hp := parse_null hcut hno2 (fun t => by rw [eaf]; exact hq t)
    rw [ebf] at hp
    exact rparse_null a0 bf af j hj hno hat hbf.symm haf.symm n _ hrn _ hu _ _ w hs 1000 (ref_Format_run bf 3 0 ⟨#[]⟩ zb (by omega) (by omega) _ (by omega)) _ _ (fin 3 0 ⟨#[]⟩ hp)
end Go.Proofs.YtodbabeldolcbaaGreatDoor.PA
