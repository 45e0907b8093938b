/- The Go function value.Parse returns the one pair that Format writes so, or the error. Conditions: the library's variables are there (GT 1); the text has at most 100000 bytes. -/
import Derived.Test.YtodbabeldolcbaaGreatDoorY9VCuts
namespace Go.Proofs.YtodbabeldolcbaaGreatDoor.PA
open Go.RowKit Go.Proofs.YtodbabeldolcbaaGreatDoorW.PrintWords Go.Proofs.YtodbabeldolcbaaGreatDoorW.PrintLast Go.Proofs.YtodbabeldolcbaaGreatDoorW.PrintMore Go.Proofs.YtodbabeldolcbaaGreatDoor.M0
set_option linter.unusedVariables false
set_option linter.unusedSimpArgs false
noncomputable def value_Parse.f (a0 : ByteArray) : Option (ByteArray × Int × Int × ByteArray × Int) :=
 if a0.size ≤ 100000 then some ((Zcd a0).1.f0, (Zcd a0).1.f1, (Zcd a0).1.f2, (Zcd a0).1.f3, (Zcd a0).2) else none
set_option maxHeartbeats 2000000 in
set_option maxRecDepth 100000 in
theorem vparse_num (a0 : ByteArray) (bf af : ByteArray) (n : Int) (ha : Lib.atoiAll (L af) = .ok n) (fs : ByteArray) (fe : Int) (w : World) (hG : GT 1 w) (hs : a0.size ≤ 100000) (fl : Bool) (hc : Lib.cut (L a0) [61] = (L bf, L af, fl)) (haf : af.size ≤ 100000)
  (k : Nat) (hf : value_Format.f k bf 1 n ⟨#[]⟩ = some (fs, fe)) (rv : Value) (rc : Int) (hr : (rv, rc) = if fe = 0 ∧ fs = a0 then (.agg #[.string bf, .int .i64 1, .int .i64 n, .string ⟨#[]⟩], 0) else (.agg #[.string ⟨#[]⟩, .int .i64 0, .int .i64 0, .string ⟨#[]⟩], 21)) :
  Calls Tryz.prog 94 #[.string a0] w fun e w' => e = .returned (.tuple #[rv, .int .i64 rc]) ∧ Below w.heap.size w w' := by
 have HGa := Zaa.mk (show ∀ o, GT 1 (w.alloc o) from fun o => GT.below (Nat.le_refl 1) hG (Zal (Below.refl _ _) o))
 have HB0 := Zaa.mk (show ∀ o, Below w.heap.size w (w.alloc o) from fun o => Zal (Below.refl _ _) o)
 have HZ := Zaa.mk (Za9 w (.cells #[.string ⟨#[]⟩, .int .i64 0, .int .i64 0, .string ⟨#[]⟩] 88))
 have HG := Zaa.mk hG
 have HR := Zaa.mk hr
 clear hG hr
 go_enter Tryz.func94, Tryz.ntmps94
 go_wp2_with (first
  | (go_at_call 120; refine (cut_calls a0 ⟨#[61]⟩ _ (HGa.out _) (by omega) bf af fl hc).mono ?_; rintro e w1 ⟨rfl, hb⟩; have BK0 := Zaa.mk (Zah HZ.out hb); have HB1 := Zaa.mk (Zae (HB0.out _) hb); have HNE := Zaa.mk (Nat.ne_of_lt (Za3 BK0.out)); have GE := Zaa.mk HB1.out.size; clear hb)
  | (go_at_call 122; refine (atoi_yes af _ (by omega) n ha).mono ?_; rintro e w2 ⟨rfl, hb⟩; have BKP := Zaa.mk (Zah (Za9 w1 (.cells #[.string bf, .int .i64 3, .int .i64 0, .string ⟨#[]⟩] 88)) hb); have BK2 := Zaa.mk (Zah (Zab BK0.out _) hb); have HB2 := Zaa.mk (Zae (Zal HB1.out _) hb); have f1 : w2.frozen? ⟨w1.heap.size, 1, none⟩ = false := Zak BKP.out 1; have f2 : w2.frozen? ⟨w1.heap.size, 2, none⟩ = false := Zak BKP.out 2; have f3 : w2.frozen? ⟨w1.heap.size, 3, none⟩ = false := Zak BKP.out 3; have z0 : w2.cell? ⟨w1.heap.size, 0, none⟩ = some (.string bf) := (Zaf BKP.out 0).trans rfl; have z1 : w2.cell? ⟨w1.heap.size, 1, none⟩ = some (.int .i64 3) := (Zaf BKP.out 1).trans rfl; have z2 : w2.cell? ⟨w1.heap.size, 2, none⟩ = some (.int .i64 0) := (Zaf BKP.out 2).trans rfl; have z3 : w2.cell? ⟨w1.heap.size, 3, none⟩ = some (.string ⟨#[]⟩) := (Zaf BKP.out 3).trans rfl; clear hb)
  | (go_at_call 58; refine (value_Format.calls k bf 1 n ⟨#[]⟩ fs fe _ (GT.below (Nat.le_refl 1) HG.out (Zag (Zag HB2.out GE.out) GE.out)) hf).mono ?_; rintro e w3 ⟨rfl, hb⟩; have BK3 := Zaa.mk (Zah (Zaq (Zaq BK2.out HNE.out _) HNE.out _) hb); have BKQ := Zaa.mk (Zah (Zan (Zan BKP.out 1 (.int .i64 1)) 2 (.int .i64 n)) hb); have HB3 := Zaa.mk (Zae (Zag (Zag HB2.out GE.out) GE.out) hb); have y0 : w3.cell? ⟨w1.heap.size, 0, none⟩ = some (.string bf) := (Zaf BKQ.out 0).trans rfl; have y1 : w3.cell? ⟨w1.heap.size, 1, none⟩ = some (.int .i64 1) := (Zaf BKQ.out 1).trans rfl; have y2 : w3.cell? ⟨w1.heap.size, 2, none⟩ = some (.int .i64 n) := (Zaf BKQ.out 2).trans rfl; have y3 : w3.cell? ⟨w1.heap.size, 3, none⟩ = some (.string ⟨#[]⟩) := (Zaf BKQ.out 3).trans rfl; have x0 : w3.cell? ⟨w.heap.size, 0, none⟩ = some (.string ⟨#[]⟩) := (Zaf BK3.out 0).trans rfl; have x1 : w3.cell? ⟨w.heap.size, 1, none⟩ = some (.int .i64 0) := (Zaf BK3.out 1).trans rfl; have x2 : w3.cell? ⟨w.heap.size, 2, none⟩ = some (.int .i64 0) := (Zaf BK3.out 2).trans rfl; have x3 : w3.cell? ⟨w.heap.size, 3, none⟩ = some (.string ⟨#[]⟩) := (Zaf BK3.out 3).trans rfl; have g0 : w3.frozen? ⟨w.heap.size, 0, none⟩ = false := Zak BK3.out 0; have g1 : w3.frozen? ⟨w.heap.size, 1, none⟩ = false := Zak BK3.out 1; have g2 : w3.frozen? ⟨w.heap.size, 2, none⟩ = false := Zak BK3.out 2; have g3 : w3.frozen? ⟨w.heap.size, 3, none⟩ = false := Zak BK3.out 3; clear hb))
 ·have hq : (!(fs.toList == a0.toList)) = true := by assumption
  rw [Zbl] at hq
  have hr := HR.out
  rw [if_neg (fun e => by rw [decide_eq_true e.2] at hq; cases hq)] at hr
  obtain ⟨rfl, rfl⟩ := Prod.mk.inj hr
  refine bodyPost_ret (Za5 rfl _ _ w.heap.size 88 #[.string ⟨#[]⟩, .int .i64 0, .int .i64 0, .string ⟨#[]⟩] (0, 0) _ rfl (Zan (Zan (Zan (Zan BK3.out 0 _) 1 _) 2 _) 3 _) Tryz.underlying88 rfl (by kernel_rfl)) rfl ?_
  exact ⟨rfl, Zag (Zag (Zag (Zag HB3.out (Nat.le_refl _)) (Nat.le_refl _)) (Nat.le_refl _)) (Nat.le_refl _)⟩
 ·have hq : (!(fs.toList == a0.toList)) = false := by assumption
  have he : fe = 0 := by assumption
  rw [Zbl] at hq
  have hr := HR.out
  rw [if_pos ⟨he, of_decide_eq_true (by simpa using hq)⟩] at hr
  obtain ⟨rfl, rfl⟩ := Prod.mk.inj hr
  refine bodyPost_ret (Za5 rfl _ _ w.heap.size 88 #[.string bf, .int .i64 1, .int .i64 n, .string ⟨#[]⟩] (0, 0) _ rfl (Zan (Zan (Zan (Zan BK3.out 0 _) 1 _) 2 _) 3 _) Tryz.underlying88 rfl (by kernel_rfl)) rfl ?_
  exact ⟨rfl, Zag (Zag (Zag (Zag HB3.out (Nat.le_refl _)) (Nat.le_refl _)) (Nat.le_refl _)) (Nat.le_refl _)⟩
 ·have he : ¬ fe = 0 := by assumption
  have hr := HR.out
  rw [if_neg (fun e => he e.1)] at hr
  obtain ⟨rfl, rfl⟩ := Prod.mk.inj hr
  refine bodyPost_ret (Za5 rfl _ _ w.heap.size 88 #[.string ⟨#[]⟩, .int .i64 0, .int .i64 0, .string ⟨#[]⟩] (0, 0) _ rfl (Zan (Zan (Zan (Zan BK3.out 0 _) 1 _) 2 _) 3 _) Tryz.underlying88 rfl (by kernel_rfl)) rfl ?_
  exact ⟨rfl, Zag (Zag (Zag (Zag HB3.out (Nat.le_refl _)) (Nat.le_refl _)) (Nat.le_refl _)) (Nat.le_refl _)⟩
set_option maxHeartbeats 2000000 in
set_option maxRecDepth 100000 in
theorem vparse_text (a0 : ByteArray) (bf af : ByteArray) (ha : ∀ v, ¬ Lib.atoiAll (L af) = .ok v) (t : ByteArray) (ku : Nat) (hu : value_Unquote.f ku af = some (t, 0)) (fs : ByteArray) (fe : Int) (w : World) (hG : GT 1 w) (hs : a0.size ≤ 100000) (fl : Bool) (hc : Lib.cut (L a0) [61] = (L bf, L af, fl)) (haf : af.size ≤ 100000)
  (k : Nat) (hf : value_Format.f k bf 2 0 t = some (fs, fe)) (rv : Value) (rc : Int) (hr : (rv, rc) = if fe = 0 ∧ fs = a0 then (.agg #[.string bf, .int .i64 2, .int .i64 0, .string t], 0) else (.agg #[.string ⟨#[]⟩, .int .i64 0, .int .i64 0, .string ⟨#[]⟩], 21)) :
  Calls Tryz.prog 94 #[.string a0] w fun e w' => e = .returned (.tuple #[rv, .int .i64 rc]) ∧ Below w.heap.size w w' := by
 have HGa := Zaa.mk (show ∀ o, GT 1 (w.alloc o) from fun o => GT.below (Nat.le_refl 1) hG (Zal (Below.refl _ _) o))
 have HB0 := Zaa.mk (show ∀ o, Below w.heap.size w (w.alloc o) from fun o => Zal (Below.refl _ _) o)
 have HZ := Zaa.mk (Za9 w (.cells #[.string ⟨#[]⟩, .int .i64 0, .int .i64 0, .string ⟨#[]⟩] 88))
 have HG := Zaa.mk hG
 have HR := Zaa.mk hr
 clear hG hr
 go_enter Tryz.func94, Tryz.ntmps94
 go_wp2_with (first
  | (go_at_call 120; refine (cut_calls a0 ⟨#[61]⟩ _ (HGa.out _) (by omega) bf af fl hc).mono ?_; rintro e w1 ⟨rfl, hb⟩; have BK0 := Zaa.mk (Zah HZ.out hb); have HB1 := Zaa.mk (Zae (HB0.out _) hb); have HNE := Zaa.mk (Nat.ne_of_lt (Za3 BK0.out)); have GE := Zaa.mk HB1.out.size; clear hb)
  | (go_at_call 122; refine (atoi_not af _ (GT.below (Nat.le_refl 1) HG.out (Zal HB1.out _)) (by omega) ha).mono ?_; rintro e w2 ⟨n, tp, p, rfl, hb⟩; have BKP := Zaa.mk (Zah (Za9 w1 (.cells #[.string bf, .int .i64 3, .int .i64 0, .string ⟨#[]⟩] 88)) hb); have BK2 := Zaa.mk (Zah (Zab BK0.out _) hb); have HB2 := Zaa.mk (Zae (Zal HB1.out _) hb); have f1 : w2.frozen? ⟨w1.heap.size, 1, none⟩ = false := Zak BKP.out 1; have f2 : w2.frozen? ⟨w1.heap.size, 2, none⟩ = false := Zak BKP.out 2; have f3 : w2.frozen? ⟨w1.heap.size, 3, none⟩ = false := Zak BKP.out 3; have z0 : w2.cell? ⟨w1.heap.size, 0, none⟩ = some (.string bf) := (Zaf BKP.out 0).trans rfl; have z1 : w2.cell? ⟨w1.heap.size, 1, none⟩ = some (.int .i64 3) := (Zaf BKP.out 1).trans rfl; have z2 : w2.cell? ⟨w1.heap.size, 2, none⟩ = some (.int .i64 0) := (Zaf BKP.out 2).trans rfl; have z3 : w2.cell? ⟨w1.heap.size, 3, none⟩ = some (.string ⟨#[]⟩) := (Zaf BKP.out 3).trans rfl; clear hb)
  | (go_at_call 125; refine (value_Unquote.calls ku af t 0 _ (GT.below (Nat.zero_le 1) HG.out HB2.out) hu).mono ?_; rintro e w5 ⟨rfl, hb⟩; have BKP5 := Zaa.mk (Zah BKP.out hb); have BK5 := Zaa.mk (Zah BK2.out hb); have HB5 := Zaa.mk (Zae HB2.out hb); have f1 : w5.frozen? ⟨w1.heap.size, 1, none⟩ = false := Zak BKP5.out 1; have f2 : w5.frozen? ⟨w1.heap.size, 2, none⟩ = false := Zak BKP5.out 2; have f3 : w5.frozen? ⟨w1.heap.size, 3, none⟩ = false := Zak BKP5.out 3; have z0 : w5.cell? ⟨w1.heap.size, 0, none⟩ = some (.string bf) := (Zaf BKP5.out 0).trans rfl; have z1 : w5.cell? ⟨w1.heap.size, 1, none⟩ = some (.int .i64 3) := (Zaf BKP5.out 1).trans rfl; have z2 : w5.cell? ⟨w1.heap.size, 2, none⟩ = some (.int .i64 0) := (Zaf BKP5.out 2).trans rfl; have z3 : w5.cell? ⟨w1.heap.size, 3, none⟩ = some (.string ⟨#[]⟩) := (Zaf BKP5.out 3).trans rfl; clear hb)
  | (go_at_call 58; refine (value_Format.calls k bf 2 0 t fs fe _ (GT.below (Nat.le_refl 1) HG.out (Zag (Zag HB5.out GE.out) GE.out)) hf).mono ?_; rintro e w3 ⟨rfl, hb⟩; have BK3 := Zaa.mk (Zah (Zaq (Zaq BK5.out HNE.out _) HNE.out _) hb); have BKQ := Zaa.mk (Zah (Zan (Zan BKP5.out 1 (.int .i64 2)) 3 (.string t)) hb); have HB3 := Zaa.mk (Zae (Zag (Zag HB5.out GE.out) GE.out) hb); have y0 : w3.cell? ⟨w1.heap.size, 0, none⟩ = some (.string bf) := (Zaf BKQ.out 0).trans rfl; have y1 : w3.cell? ⟨w1.heap.size, 1, none⟩ = some (.int .i64 2) := (Zaf BKQ.out 1).trans rfl; have y2 : w3.cell? ⟨w1.heap.size, 2, none⟩ = some (.int .i64 0) := (Zaf BKQ.out 2).trans rfl; have y3 : w3.cell? ⟨w1.heap.size, 3, none⟩ = some (.string t) := (Zaf BKQ.out 3).trans rfl; have x0 : w3.cell? ⟨w.heap.size, 0, none⟩ = some (.string ⟨#[]⟩) := (Zaf BK3.out 0).trans rfl; have x1 : w3.cell? ⟨w.heap.size, 1, none⟩ = some (.int .i64 0) := (Zaf BK3.out 1).trans rfl; have x2 : w3.cell? ⟨w.heap.size, 2, none⟩ = some (.int .i64 0) := (Zaf BK3.out 2).trans rfl; have x3 : w3.cell? ⟨w.heap.size, 3, none⟩ = some (.string ⟨#[]⟩) := (Zaf BK3.out 3).trans rfl; have g0 : w3.frozen? ⟨w.heap.size, 0, none⟩ = false := Zak BK3.out 0; have g1 : w3.frozen? ⟨w.heap.size, 1, none⟩ = false := Zak BK3.out 1; have g2 : w3.frozen? ⟨w.heap.size, 2, none⟩ = false := Zak BK3.out 2; have g3 : w3.frozen? ⟨w.heap.size, 3, none⟩ = false := Zak BK3.out 3; clear hb))
 ·have hq : (!(fs.toList == a0.toList)) = true := by assumption
  rw [Zbl] at hq
  have hr := HR.out
  rw [if_neg (fun e => by rw [decide_eq_true e.2] at hq; cases hq)] at hr
  obtain ⟨rfl, rfl⟩ := Prod.mk.inj hr
  refine bodyPost_ret (Za5 rfl _ _ w.heap.size 88 #[.string ⟨#[]⟩, .int .i64 0, .int .i64 0, .string ⟨#[]⟩] (0, 0) _ rfl (Zan (Zan (Zan (Zan BK3.out 0 _) 1 _) 2 _) 3 _) Tryz.underlying88 rfl (by kernel_rfl)) rfl ?_
  exact ⟨rfl, Zag (Zag (Zag (Zag HB3.out (Nat.le_refl _)) (Nat.le_refl _)) (Nat.le_refl _)) (Nat.le_refl _)⟩
 ·have hq : (!(fs.toList == a0.toList)) = false := by assumption
  have he : fe = 0 := by assumption
  rw [Zbl] at hq
  have hr := HR.out
  rw [if_pos ⟨he, of_decide_eq_true (by simpa using hq)⟩] at hr
  obtain ⟨rfl, rfl⟩ := Prod.mk.inj hr
  refine bodyPost_ret (Za5 rfl _ _ w.heap.size 88 #[.string bf, .int .i64 2, .int .i64 0, .string t] (0, 0) _ rfl (Zan (Zan (Zan (Zan BK3.out 0 _) 1 _) 2 _) 3 _) Tryz.underlying88 rfl (by kernel_rfl)) rfl ?_
  exact ⟨rfl, Zag (Zag (Zag (Zag HB3.out (Nat.le_refl _)) (Nat.le_refl _)) (Nat.le_refl _)) (Nat.le_refl _)⟩
 ·have he : ¬ fe = 0 := by assumption
  have hr := HR.out
  rw [if_neg (fun e => he e.1)] at hr
  obtain ⟨rfl, rfl⟩ := Prod.mk.inj hr
  refine bodyPost_ret (Za5 rfl _ _ w.heap.size 88 #[.string ⟨#[]⟩, .int .i64 0, .int .i64 0, .string ⟨#[]⟩] (0, 0) _ rfl (Zan (Zan (Zan (Zan BK3.out 0 _) 1 _) 2 _) 3 _) Tryz.underlying88 rfl (by kernel_rfl)) rfl ?_
  exact ⟨rfl, Zag (Zag (Zag (Zag HB3.out (Nat.le_refl _)) (Nat.le_refl _)) (Nat.le_refl _)) (Nat.le_refl _)⟩
set_option maxHeartbeats 2000000 in
set_option maxRecDepth 100000 in
theorem vparse_null (a0 : ByteArray) (bf af : ByteArray) (ha : ∀ v, ¬ Lib.atoiAll (L af) = .ok v) (ku : Nat) (hu : value_Unquote.f ku af = some (⟨#[]⟩, 21)) (fs : ByteArray) (fe : Int) (w : World) (hG : GT 1 w) (hs : a0.size ≤ 100000) (fl : Bool) (hc : Lib.cut (L a0) [61] = (L bf, L af, fl)) (haf : af.size ≤ 100000)
  (k : Nat) (hf : value_Format.f k bf 3 0 ⟨#[]⟩ = some (fs, fe)) (rv : Value) (rc : Int) (hr : (rv, rc) = if fe = 0 ∧ fs = a0 then (.agg #[.string bf, .int .i64 3, .int .i64 0, .string ⟨#[]⟩], 0) else (.agg #[.string ⟨#[]⟩, .int .i64 0, .int .i64 0, .string ⟨#[]⟩], 21)) :
  Calls Tryz.prog 94 #[.string a0] w fun e w' => e = .returned (.tuple #[rv, .int .i64 rc]) ∧ Below w.heap.size w w' := by
 have HGa := Zaa.mk (show ∀ o, GT 1 (w.alloc o) from fun o => GT.below (Nat.le_refl 1) hG (Zal (Below.refl _ _) o))
 have HB0 := Zaa.mk (show ∀ o, Below w.heap.size w (w.alloc o) from fun o => Zal (Below.refl _ _) o)
 have HZ := Zaa.mk (Za9 w (.cells #[.string ⟨#[]⟩, .int .i64 0, .int .i64 0, .string ⟨#[]⟩] 88))
 have HG := Zaa.mk hG
 have HR := Zaa.mk hr
 clear hG hr
 go_enter Tryz.func94, Tryz.ntmps94
 go_wp2_with (first
  | (go_at_call 120; refine (cut_calls a0 ⟨#[61]⟩ _ (HGa.out _) (by omega) bf af fl hc).mono ?_; rintro e w1 ⟨rfl, hb⟩; have BK0 := Zaa.mk (Zah HZ.out hb); have HB1 := Zaa.mk (Zae (HB0.out _) hb); have HNE := Zaa.mk (Nat.ne_of_lt (Za3 BK0.out)); have GE := Zaa.mk HB1.out.size; clear hb)
  | (go_at_call 122; refine (atoi_not af _ (GT.below (Nat.le_refl 1) HG.out (Zal HB1.out _)) (by omega) ha).mono ?_; rintro e w2 ⟨n, tp, p, rfl, hb⟩; have BKP := Zaa.mk (Zah (Za9 w1 (.cells #[.string bf, .int .i64 3, .int .i64 0, .string ⟨#[]⟩] 88)) hb); have BK2 := Zaa.mk (Zah (Zab BK0.out _) hb); have HB2 := Zaa.mk (Zae (Zal HB1.out _) hb); have f1 : w2.frozen? ⟨w1.heap.size, 1, none⟩ = false := Zak BKP.out 1; have f2 : w2.frozen? ⟨w1.heap.size, 2, none⟩ = false := Zak BKP.out 2; have f3 : w2.frozen? ⟨w1.heap.size, 3, none⟩ = false := Zak BKP.out 3; have z0 : w2.cell? ⟨w1.heap.size, 0, none⟩ = some (.string bf) := (Zaf BKP.out 0).trans rfl; have z1 : w2.cell? ⟨w1.heap.size, 1, none⟩ = some (.int .i64 3) := (Zaf BKP.out 1).trans rfl; have z2 : w2.cell? ⟨w1.heap.size, 2, none⟩ = some (.int .i64 0) := (Zaf BKP.out 2).trans rfl; have z3 : w2.cell? ⟨w1.heap.size, 3, none⟩ = some (.string ⟨#[]⟩) := (Zaf BKP.out 3).trans rfl; clear hb)
  | (go_at_call 125; refine (value_Unquote.calls ku af ⟨#[]⟩ 21 _ (GT.below (Nat.zero_le 1) HG.out HB2.out) hu).mono ?_; rintro e w5 ⟨rfl, hb⟩; have BKP5 := Zaa.mk (Zah BKP.out hb); have BK5 := Zaa.mk (Zah BK2.out hb); have HB5 := Zaa.mk (Zae HB2.out hb); have f1 : w5.frozen? ⟨w1.heap.size, 1, none⟩ = false := Zak BKP5.out 1; have f2 : w5.frozen? ⟨w1.heap.size, 2, none⟩ = false := Zak BKP5.out 2; have f3 : w5.frozen? ⟨w1.heap.size, 3, none⟩ = false := Zak BKP5.out 3; have z0 : w5.cell? ⟨w1.heap.size, 0, none⟩ = some (.string bf) := (Zaf BKP5.out 0).trans rfl; have z1 : w5.cell? ⟨w1.heap.size, 1, none⟩ = some (.int .i64 3) := (Zaf BKP5.out 1).trans rfl; have z2 : w5.cell? ⟨w1.heap.size, 2, none⟩ = some (.int .i64 0) := (Zaf BKP5.out 2).trans rfl; have z3 : w5.cell? ⟨w1.heap.size, 3, none⟩ = some (.string ⟨#[]⟩) := (Zaf BKP5.out 3).trans rfl; clear hb)
  | (go_at_call 58; refine (value_Format.calls k bf 3 0 ⟨#[]⟩ fs fe _ (GT.below (Nat.le_refl 1) HG.out HB5.out) hf).mono ?_; rintro e w3 ⟨rfl, hb⟩; have BK3 := Zaa.mk (Zah BK5.out hb); have BKQ := Zaa.mk (Zah BKP5.out hb); have HB3 := Zaa.mk (Zae HB5.out hb); have y0 : w3.cell? ⟨w1.heap.size, 0, none⟩ = some (.string bf) := (Zaf BKQ.out 0).trans rfl; have y1 : w3.cell? ⟨w1.heap.size, 1, none⟩ = some (.int .i64 3) := (Zaf BKQ.out 1).trans rfl; have y2 : w3.cell? ⟨w1.heap.size, 2, none⟩ = some (.int .i64 0) := (Zaf BKQ.out 2).trans rfl; have y3 : w3.cell? ⟨w1.heap.size, 3, none⟩ = some (.string ⟨#[]⟩) := (Zaf BKQ.out 3).trans rfl; have x0 : w3.cell? ⟨w.heap.size, 0, none⟩ = some (.string ⟨#[]⟩) := (Zaf BK3.out 0).trans rfl; have x1 : w3.cell? ⟨w.heap.size, 1, none⟩ = some (.int .i64 0) := (Zaf BK3.out 1).trans rfl; have x2 : w3.cell? ⟨w.heap.size, 2, none⟩ = some (.int .i64 0) := (Zaf BK3.out 2).trans rfl; have x3 : w3.cell? ⟨w.heap.size, 3, none⟩ = some (.string ⟨#[]⟩) := (Zaf BK3.out 3).trans rfl; have g0 : w3.frozen? ⟨w.heap.size, 0, none⟩ = false := Zak BK3.out 0; have g1 : w3.frozen? ⟨w.heap.size, 1, none⟩ = false := Zak BK3.out 1; have g2 : w3.frozen? ⟨w.heap.size, 2, none⟩ = false := Zak BK3.out 2; have g3 : w3.frozen? ⟨w.heap.size, 3, none⟩ = false := Zak BK3.out 3; clear hb))
 ·have hq : (!(fs.toList == a0.toList)) = true := by assumption
  rw [Zbl] at hq
  have hr := HR.out
  rw [if_neg (fun e => by rw [decide_eq_true e.2] at hq; cases hq)] at hr
  obtain ⟨rfl, rfl⟩ := Prod.mk.inj hr
  refine bodyPost_ret (Za5 rfl _ _ w.heap.size 88 #[.string ⟨#[]⟩, .int .i64 0, .int .i64 0, .string ⟨#[]⟩] (0, 0) _ rfl (Zan (Zan (Zan (Zan BK3.out 0 _) 1 _) 2 _) 3 _) Tryz.underlying88 rfl (by kernel_rfl)) rfl ?_
  exact ⟨rfl, Zag (Zag (Zag (Zag HB3.out (Nat.le_refl _)) (Nat.le_refl _)) (Nat.le_refl _)) (Nat.le_refl _)⟩
 ·have hq : (!(fs.toList == a0.toList)) = false := by assumption
  have he : fe = 0 := by assumption
  rw [Zbl] at hq
  have hr := HR.out
  rw [if_pos ⟨he, of_decide_eq_true (by simpa using hq)⟩] at hr
  obtain ⟨rfl, rfl⟩ := Prod.mk.inj hr
  refine bodyPost_ret (Za5 rfl _ _ w.heap.size 88 #[.string bf, .int .i64 3, .int .i64 0, .string ⟨#[]⟩] (0, 0) _ rfl (Zan (Zan (Zan (Zan BK3.out 0 _) 1 _) 2 _) 3 _) Tryz.underlying88 rfl (by kernel_rfl)) rfl ?_
  exact ⟨rfl, Zag (Zag (Zag (Zag HB3.out (Nat.le_refl _)) (Nat.le_refl _)) (Nat.le_refl _)) (Nat.le_refl _)⟩
 ·have he : ¬ fe = 0 := by assumption
  have hr := HR.out
  rw [if_neg (fun e => he e.1)] at hr
  obtain ⟨rfl, rfl⟩ := Prod.mk.inj hr
  refine bodyPost_ret (Za5 rfl _ _ w.heap.size 88 #[.string ⟨#[]⟩, .int .i64 0, .int .i64 0, .string ⟨#[]⟩] (0, 0) _ rfl (Zan (Zan (Zan (Zan BK3.out 0 _) 1 _) 2 _) 3 _) Tryz.underlying88 rfl (by kernel_rfl)) rfl ?_
  exact ⟨rfl, Zag (Zag (Zag (Zag HB3.out (Nat.le_refl _)) (Nat.le_refl _)) (Nat.le_refl _)) (Nat.le_refl _)⟩
theorem value_Parse.calls (a0 : ByteArray) (r1 : ByteArray) (r2 : Int) (r3 : Int) (r4 : ByteArray) (r5 : Int) (w : World) (hG : GT 1 w) (h : value_Parse.f a0 = some (r1, r2, r3, r4, r5)) :
  Calls Tryz.prog 94 #[.string a0] w fun e w' => e = .returned (.tuple #[.agg #[.string r1, .int .i64 r2, .int .i64 r3, .string r4], .int .i64 r5]) ∧ Below w.heap.size w w' := by
 unfold value_Parse.f at h
 by_cases hs : a0.size ≤ 100000
 case neg => rw [if_neg hs] at h; cases h
 rw [if_pos hs] at h
 have h := Option.some.inj h
 simp only [Prod.mk.injEq] at h
 obtain ⟨e1, e2, e3, e4, e5⟩ := h
 obtain ⟨bf, af, fl, hc⟩ : ∃ (bf af : ByteArray) (fl : Bool), Lib.cut (L a0) [61] = (L bf, L af, fl) := ⟨⟨(Lib.cut (L a0) [61]).1.toArray⟩, ⟨(Lib.cut (L a0) [61]).2.1.toArray⟩, (Lib.cut (L a0) [61]).2.2, by rw [L_mk (Lib.cut (L a0) [61]).1, L_mk (Lib.cut (L a0) [61]).2.1]⟩
 have hzb : bf.size ≤ 100000 ∧ af.size ≤ 100000 := by
  have hz := Za2 a0
  unfold Lib.cut at hc
  split at hc
  ·obtain ⟨c1, c2⟩ := Prod.mk.inj hc
   obtain ⟨c2, _⟩ := Prod.mk.inj c2
   rw [Za2 bf, Za2 af, ← c1, ← c2, List.length_take, List.length_drop]
   omega
  ·obtain ⟨c1, c2⟩ := Prod.mk.inj hc
   obtain ⟨c2, _⟩ := Prod.mk.inj c2
   rw [Za2 bf, Za2 af, ← c1, ← c2, List.length_nil]
   omega
 have ebf : (⟨(L bf).toArray⟩ : ByteArray) = bf := ext_L (L_mk _)
 have eaf : (⟨(L af).toArray⟩ : ByteArray) = af := ext_L (L_mk _)
 have fin : ∀ (c n : Int) (tx : ByteArray), Zcd a0 = (if Zbn bf c n tx = (a0, 0) then (⟨bf, c, n, tx⟩, 0) else (zeroP, 21)) →
   ((.agg #[.string r1, .int .i64 r2, .int .i64 r3, .string r4] : Value), r5) = if (Zbn bf c n tx).2 = 0 ∧ (Zbn bf c n tx).1 = a0 then (.agg #[.string bf, .int .i64 c, .int .i64 n, .string tx], 0) else (.agg #[.string ⟨#[]⟩, .int .i64 0, .int .i64 0, .string ⟨#[]⟩], 21) := by
  intro c n tx hp
  rw [← e1, ← e2, ← e3, ← e4, ← e5, hp]
  by_cases hq : Zbn bf c n tx = (a0, 0)
  ·rw [if_pos hq, hq, if_pos ⟨rfl, rfl⟩]
  ·rw [if_neg hq, if_neg (fun e => hq (Prod.ext e.2 e.1))]
   rfl
 cases ha : Lib.atoiAll (L af) with
 | ok n =>
  have hr := atoi_range ha
  have hp := parse_num hc ha
  rw [ebf] at hp
  exact vparse_num a0 bf af n ha _ _ w hG hs fl hc hzb.2 (bf.size + 2) (Zch bf 1 n ⟨#[]⟩ hzb.1 hr.1 hr.2 _ (by omega)) _ _ (fin 1 n ⟨#[]⟩ hp)
 | _ =>
  all_goals
   have hno : ∀ v, ¬ Lib.atoiAll (L af) = .ok v := fun v e => by rw [ha] at e; cases e
   rcases value_Unquote_right af hzb.2 (af.size + 6) (by omega) with ⟨t, hq, hu⟩ | ⟨hq, hu⟩
   ·have hp := parse_text hc (not_dec hno) (t := t) (by rw [eaf]; exact hq)
    rw [ebf] at hp
    exact vparse_text a0 bf af hno t _ hu _ _ w hG hs fl hc hzb.2 (bf.size + 2) (Zch bf 2 0 t hzb.1 (by omega) (by omega) _ (by omega)) _ _ (fin 2 0 t hp)
   ·have hp := parse_null hc (not_dec hno) (fun t => by rw [eaf]; exact hq t)
    rw [ebf] at hp
    exact vparse_null a0 bf af hno _ hu _ _ w hG hs fl hc hzb.2 (bf.size + 2) (Zch bf 3 0 ⟨#[]⟩ hzb.1 (by omega) (by omega) _ (by omega)) _ _ (fin 3 0 ⟨#[]⟩ hp)
end Go.Proofs.YtodbabeldolcbaaGreatDoor.PA
