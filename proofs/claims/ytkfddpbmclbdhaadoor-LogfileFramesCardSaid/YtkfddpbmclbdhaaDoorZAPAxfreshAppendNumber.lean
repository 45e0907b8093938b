/- Contracts of functions of the program: written by pr2.py (ours, round the print of the kit) out of the translation; conditions: each contract names its own. -/
import Derived.Test.YtkfddpbmclbdhaaDoorZAEDig
section
namespace Go.Proofs.YtkfddpbmclbdhaaDoor.PA
open Go.RowKit Go.Proofs.YtkfddpbmclbdhaaDoorW.PrintWords Go.Proofs.YtkfddpbmclbdhaaDoorW.PrintLast Go.Proofs.YtkfddpbmclbdhaaDoorW.PrintMore
attribute [local go_sem] Zaz Zax Za5 Za4 Zas Zar Zay Zaw   -- for this text's walks alone
set_option linter.unusedVariables false
set_option linter.unusedSimpArgs false
def digest_Put.l0 : Nat → Int → List Int → Int → Int → Option (List Int)
 | 0, _, _, _, _ => none
 | k + 1, x0, x3, x7, x8 => if x8 < x7 then (if 0 ≤ (wrap64 (56 - (wrap64 (8 * x8)))) then (if 0 ≤ x8 then (if x8 < (x3.length : Int) then (digest_Put.l0 k x0 (x3.set (x8 : Int).toNat ((shr .u64 x0 (wrap64 (56 - (wrap64 (8 * x8))))) % 256)) x7 (wrap64 (x8 + 1))) else (none)) else (none)) else (none)) else (some x3)
def digest_Put.f (k : Nat) (a0 : Int) : Option (List Int) := if 8 ≤ 281474976710656 then ((some (List.replicate 8 0 : List Int)).bind fun y927 => (digest_Put.l0 k a0 y927 (y927.length : Int) 0)) else (none)
theorem digest_Put.mono_l : ∀ k, (∀ y0 y1 y2 y3, LeO (digest_Put.l0 k y0 y1 y2 y3) (digest_Put.l0 (k + 1) y0 y1 y2 y3))
 | 0 => fun _ _ _ _ r h => by simp [digest_Put.l0] at h
 | k + 1 => by
  have ih0 := digest_Put.mono_l k
  ·intro y0 y1 y2 y3
   unfold digest_Put.l0
   repeat' first
   | (with_reducible exact ih0 _ _ _ _)
   | (with_reducible exact LeO.refl _)
   | (with_reducible exact LeO.none _)
   | (with_reducible refine LeO.ite ?_ ?_)
   | (with_reducible refine LeO.bind ?_ (fun _ => ?_))
   | exact ih0 _ _ _ _
   | exact LeO.none _
   | refine LeO.ite ?_ ?_
   | refine LeO.bind ?_ (fun _ => ?_)
theorem digest_Put.mono : ∀ a0 k, LeO (digest_Put.f k a0) (digest_Put.f (k + 1) a0) := by
 intro a0 k
 have ih0 := digest_Put.mono_l k
 unfold digest_Put.f
 repeat' first
   | (with_reducible exact ih0 _ _ _ _)
   | (with_reducible exact LeO.refl _)
   | (with_reducible exact LeO.none _)
   | (with_reducible refine LeO.ite ?_ ?_)
   | (with_reducible refine LeO.bind ?_ (fun _ => ?_))
   | exact ih0 _ _ _ _
   | exact LeO.none _
   | refine LeO.ite ?_ ?_
   | refine LeO.bind ?_ (fun _ => ?_)
set_option maxHeartbeats 8000000 in
set_option maxRecDepth 100000 in
theorem digest_Put.calls (k : Nat) (a0 : Int) (r : List Int) (w : World) (h : digest_Put.f k a0 = some r) :
  Calls Tryd.prog 108 #[.int .u64 a0] w fun e w' => ∃ v0_ : Value, e = .returned (v0_) ∧ Kd.R (Kd.int .u8) 5 w' w.heap.size (fun _ => True) v0_ r ∧ Below w.heap.size w w' := by
 have HB := Zaa.mk (Below.refl w.heap.size w)
 unfold digest_Put.f at h
 have H := h
 clear h
 by_cases c2 : 8 ≤ 281474976710656
 ·rw [if_pos c2] at H
  have c2b0 := eq_true c2
  have c2b1 : decide (8 ≤ 281474976710656) = true := decide_eq_true c2
  clear c2
  obtain ⟨y927, hy927⟩ : ∃ y_ : List Int, y_ = (List.replicate 8 0) := ⟨_, rfl⟩
  replace H : (digest_Put.l0 k a0 y927 (y927.length : Int) 0) = some r := by first | (rw [hy927]; with_reducible exact H) | (have H2_ := (Option.bind_some _ _).symm.trans H; rw [hy927]; with_reducible exact H2_) | (have H2_ := (Option.bind_some _ _).symm.trans H; with_reducible exact H2_) | with_reducible exact H | (rw [hy927]; exact H) | exact H
  have Ny927 := Zaa.mk hy927
  clear hy927
  have H' := Zaa.mk H
  clear H
  go_enter Tryd.func108, Tryd.ntmps108
  go_wp2_with (first | ((with_reducible refine Zao (N := 5) rfl ?_); refine Kd.R_make (Kd.int .u8) _ 5 rfl (N := 5) rfl 28 _ _ rfl 8 rfl rfl Tryd.underlying28 (.int .u8 0) 1 info5 rfl (by decide) (by omega) 0 (ok := fun _ => True) (okp := fun _ => True) rfl (fun _ hk => hk) trivial (by omega) (by omega) (Below.refl _ _) (Nat.le_refl _) ?_; intro v928 w3 ho4 hb hg_ hnew_; clear hg_ hnew_; (first | rw [← Ny927.out] at ho4 | (simp only [Int.reduceToNat] at ho4; rw [← Ny927.out] at ho4)); have HO929 := Zaa.mk (Kd.R_lower ho4 (Zae (zb1 HB))); replace HB := Zaa.mk (Zaf (zb1 HB) hb); clear hb ho4; obtain ⟨Ao5, co5, eo5⟩ := Kd.R_slice HO929.out; subst eo5))
  go_loopg [8] k (fun kq v8 w' => ∃ (x3_1 : List Int) (x8_1 : Int), v8 = .int .i64 x8_1 ∧ Zaa (digest_Put.l0 kq a0 x3_1 (y927.length : Int) x8_1 = some r) ∧ Zaa (kq ≤ k) ∧ Zaa (Kd.R (Kd.int .u8) 5 w' w.heap.size (fun _ => True) (.slice Ao5 y927.length co5) x3_1) ∧ Zaa (Below w.heap.size w w'))
  case atStart => exact ⟨(y927), (0), (by first | rfl | (simp; done) | (simp [*]; done)), H', ⟨Nat.le_refl _⟩, ⟨by (with_reducible repeat (first | apply Kd.R_alloc | apply Kd.R_drewN | apply Kd.R_drew)); exact HO929.out⟩, ⟨(zb1 HB)⟩⟩
  case round =>
   clear H'
   (try clear c2)
   (try clear c2b0)
   (try clear c2b1)
   obtain ⟨x3_1, x8_1, rfl, HA, HK1, HO_3, HB⟩ := hrel
   have hl3_1 := (Kd.R_reads' HO_3.out).1
   rw [hl3_1] at HO_3
   (try simp only [hl3_1])
   cases gk with
   | zero => exact absurd HA.out (by simp [digest_Put.l0])
   | succ k1 =>
    have H := HA.out
    clear HA
    simp only [digest_Put.l0] at H
    by_cases c6 : x8_1 < (y927.length : Int)
    ·rw [if_pos c6] at H
     have c6b0 : decide (x8_1 < (y927.length : Int)) = true := decide_eq_true c6
     clear c6
     obtain ⟨ji7, hji7⟩ : ∃ j_ : Int, (wrap64 (56 - (wrap64 (8 * x8_1)))) = j_ := ⟨_, rfl⟩
     replace H : (if 0 ≤ (ji7) then (if 0 ≤ x8_1 then (if x8_1 < (x3_1.length : Int) then (digest_Put.l0 k1 a0 (x3_1.set (x8_1 : Int).toNat ((shr .u64 a0 (ji7)) % 256)) (y927.length : Int) (wrap64 (x8_1 + 1))) else (none)) else (none)) else (none)) = some r := by first | (rw [hji7] at H; exact H) | (simp only [hji7] at H ⊢; exact H)
     have hji7w : (IntKind.i64.wrap (56 - (wrap64 (8 * x8_1)))) = ji7 := (Zav _).trans hji7
     by_cases c8 : 0 ≤ (ji7)
     ·rw [if_pos c8] at H
      have c8b0 := eq_true c8
      have c8b1 : decide (0 ≤ (ji7)) = true := decide_eq_true c8
      clear c8
      obtain ⟨ji9, hji9⟩ : ∃ j_ : Int, (shr .u64 a0 (ji7)) = j_ := ⟨_, rfl⟩
      replace H : (if 0 ≤ x8_1 then (if x8_1 < (x3_1.length : Int) then (digest_Put.l0 k1 a0 (x3_1.set (x8_1 : Int).toNat ((ji9) % 256)) (y927.length : Int) (wrap64 (x8_1 + 1))) else (none)) else (none)) = some r := by first | (rw [hji9] at H; exact H) | (simp only [hji9] at H ⊢; exact H)
      have hji9_ : (a0 / 2 ^ min (ji7).toNat 64) = ji9 := hji9
      have hji9z : (ji7) ≤ 64 → (a0 / 2 ^ (ji7).toNat) = ji9 := shr_small hji9
      by_cases c10 : 0 ≤ x8_1
      ·rw [if_pos c10] at H
       have c10b0 : decide (0 ≤ x8_1) = true := decide_eq_true c10
       clear c10
       by_cases c11 : x8_1 < (x3_1.length : Int)
       ·rw [if_pos c11] at H
        have c11b0 : decide (x8_1 < (x3_1.length : Int)) = true := decide_eq_true c11
        clear c11
        obtain ⟨y930, hy930⟩ : ∃ y_ : List Int, y_ = (x3_1.set (x8_1 : Int).toNat ((ji9) % 256)) := ⟨_, rfl⟩
        replace H : (digest_Put.l0 k1 a0 y930 (y927.length : Int) (wrap64 (x8_1 + 1))) = some r := by first | (rw [hy930]; with_reducible exact H) | (have H2_ := (Option.bind_some _ _).symm.trans H; rw [hy930]; with_reducible exact H2_) | (have H2_ := (Option.bind_some _ _).symm.trans H; with_reducible exact H2_) | with_reducible exact H | (rw [hy930]; exact H) | exact H
        have Ny930 := Zaa.mk hy930
        clear hy930
        have H' := Zaa.mk H
        clear H
        have p12 : 0 ≤ (x8_1 : Int) := zod
        have q12 : (x8_1 : Int) < ((x3_1.length : Int) : Int) := zod
        obtain ⟨go12, co12, eo12, gb12, gl12, cl12, HG12⟩ := Kd.R_form HO_3.out (by omega)
        (first | cases eo12 | (injection eo12 with ea_ en_ ec_; (first | subst ea_ | (injection ea_ with ea_; subst ea_)); subst ec_; clear en_))
        have GB12 := Zaa.mk gb12
        have GG12 := Zaa.mk HG12
        clear gb12 gl12 HG12
        obtain ⟨hx12_0, hf12_0⟩ := Kd.R_celln 0 HO_3.out (x8_1 : Int) p12 q12
        replace p12 := eq_true p12
        replace q12 := eq_true q12
        have HP13 := Kd.R_putg HO_3.out (x8_1 : Int) ((ji9) % 256)
        go_wp2_with (first | ((with_reducible refine gate_store (t := 5) (p := 19) rfl ?_); refine store_event (t := 5) (p := 19) (v := ?vo_w14) (w1 := (wr.setCell ⟨go12, (x8_1 : Int).toNat, none⟩ (.int .u8 ((ji9) % 256)))) ?hg ?ho ?hn ?hr ?_; (case ho => rfl); (case hg => rfl); (case hn => rfl); (case hr => first | (go_simp; done) | (go_simp; rfl)); intro w14 hw; have hg : wr.grownBy w14 (some go12) := (by rw [hw]; exact HP13.2); have hp_ : Kd.R (Kd.int .u8) 5 w14 w.heap.size (fun _ => True) (.slice (some ⟨go12, 0, none⟩) x3_1.length co5) y930 := (by rw [hw, Ny930.out]; exact HP13.1); clear HP13; replace HO_3 := Zaa.mk (hp_); replace HB := Zaa.mk ((by rw [hw]; exact Za9 (HB.out) GB12.out : Below w.heap.size w w14)); clear hg hw hp_))
        (try simp only [← hl3_1])
        go_roundg k1
        case measure => have := HK1.out; omega
        case rel => exact ⟨(y930), (wrap64 (x8_1 + 1)), (by first | rfl | (simp; done) | (simp [*]; done)), H', ⟨by have := HK1.out; omega⟩, ⟨by (try simp only [hl3_1]); (with_reducible repeat (first | apply Kd.R_alloc | apply Kd.R_drewN | apply Kd.R_drew)); exact HO_3.out⟩, ⟨(zb1 HB)⟩⟩
       ·rw [if_neg c11] at H
        exact absurd H (by simp)
      ·rw [if_neg c10] at H
       exact absurd H (by simp)
     ·rw [if_neg c8] at H
      exact absurd H (by simp)
    ·rw [if_neg c6] at H
     have c6b0 : decide (x8_1 < (y927.length : Int)) = false := decide_eq_false c6
     rw [hl3_1] at c6b0
     clear c6
     obtain rfl := Option.some.inj H
     go_wp2
     go_ret
     exact ⟨_, by first | rfl | (simp [errW_none, errW_some] <;> rfl) | (simp [*, errW_none, errW_some] <;> rfl), by (with_reducible repeat (first | apply Kd.R_alloc | apply Kd.R_drewN | apply Kd.R_drew)); exact HO_3.out, (zb1 HB)⟩
 ·rw [if_neg c2] at H
  exact absurd H (by simp)
end Go.Proofs.YtkfddpbmclbdhaaDoor.PA
end
section
namespace Go.Proofs.YtkfddpbmclbdhaaDoor.PA
open Go.RowKit Go.Proofs.YtkfddpbmclbdhaaDoorW.PrintWords Go.Proofs.YtkfddpbmclbdhaaDoorW.PrintLast Go.Proofs.YtkfddpbmclbdhaaDoorW.PrintMore
attribute [local go_sem] Zaz Zax Za5 Za4 Zas Zar Zay Zaw   -- for this text's walks alone
set_option linter.unusedVariables false
set_option linter.unusedSimpArgs false
def digest_Chain.f (k : Nat) (a0_0 : Int) (a0_1 : Int) (a1 : Int) (l2 : List Int) : Option (Int) := (digest_Put.f k a1).bind fun t932 => (if t932.length + l2.length < 140737488355328 then ((digest_Sum.f a0_0 a0_1 (t932 ++ l2)).bind fun t938 => (some t938)) else (none))
theorem digest_Chain.mono : ∀ a0 a1 a2 a3 k, LeO (digest_Chain.f k a0 a1 a2 a3) (digest_Chain.f (k + 1) a0 a1 a2 a3) := by
 intro a0 a1 a2 a3 k
 unfold digest_Chain.f
 repeat' first
   | (with_reducible exact digest_Put.mono _ _)
   | (with_reducible exact LeO.refl _)
   | (with_reducible exact LeO.none _)
   | (with_reducible refine LeO.ite ?_ ?_)
   | (with_reducible refine LeO.bind ?_ (fun _ => ?_))
   | exact digest_Put.mono _ _
   | exact LeO.none _
   | refine LeO.ite ?_ ?_
   | refine LeO.bind ?_ (fun _ => ?_)
set_option maxHeartbeats 8000000 in
set_option maxRecDepth 100000 in
theorem digest_Chain.calls (k : Nat) (a0_0 : Int) (a0_1 : Int) (a1 : Int) (A2 : Option Addr) (c2 : Nat) (l2 : List Int) (r : Int) (w : World) (hr2 : Kd.C (Kd.int .u8) w A2 l2.length l2) (hc2 : l2.length ≤ c2) (h : digest_Chain.f k a0_0 a0_1 a1 l2 = some r) :
  Calls Tryd.prog 107 #[.agg #[.int .u64 a0_0, .int .u64 a0_1], .int .u64 a1, .slice A2 l2.length c2] w fun e w' => e = .returned (.int .u64 r) ∧ Below w.heap.size w w' := by
 have hu80 := Tryd.underlying80
 have HR2 := Zaa.mk hr2
 have HC2 := Zaa.mk hc2
 clear hr2 hc2
 have HB := Zaa.mk (Below.refl w.heap.size w)
 unfold digest_Chain.f at h
 have H := h
 clear h
 replace H := Option.bind_eq_some_iff.mp H
 obtain ⟨t932, A40, H⟩ := H
 try dsimp only at H
 have A4 := Zaa.mk A40
 clear A40
 by_cases c5 : t932.length + l2.length < 140737488355328
 ·rw [if_pos c5] at H
  have LMc5 := Zaa.mk c5
  clear c5
  obtain ⟨y935, hy935⟩ : ∃ y_ : List Int, y_ = (t932 ++ l2) := ⟨_, rfl⟩
  replace H : ((digest_Sum.f a0_0 a0_1 y935).bind fun t938 => (some t938)) = some r := by first | (rw [hy935]; with_reducible exact H) | (have H2_ := (Option.bind_some _ _).symm.trans H; rw [hy935]; with_reducible exact H2_) | (have H2_ := (Option.bind_some _ _).symm.trans H; with_reducible exact H2_) | with_reducible exact H | (rw [hy935]; exact H) | exact H
  have Ny935 := Zaa.mk hy935
  clear hy935
  replace H := Option.bind_eq_some_iff.mp H
  obtain ⟨t938, A60, H⟩ := H
  try dsimp only at H
  have A6 := Zaa.mk A60
  clear A60
  obtain rfl := Option.some.inj H
  go_enter Tryd.func107, Tryd.ntmps107
  try go_wp2_with (first | ((with_reducible refine Zao (N := 3) rfl ?_); refine Zap ?hg (N := 3) ?hd (cs := #[.int .u64 a0_0, .int .u64 a0_1]) (t := 80) ?hr ?_; (case hd => rfl); (case hg => rfl); (case hr => first | (go_simp; done) | (go_simp; rfl)); intro gb931 hg w7 hbox hb; have BK931 := Zaa.mk (hbox); have GW931 := Zaa.mk ((by rw [hg]; exact (Zae (zb1 HB)) : w.heap.size ≤ gb931)); have GE931 := Zaa.mk ((by rw [hg]; exact (Zae (zb1 HB)) : w.heap.size ≤ gb931)); replace HB := Zaa.mk (Zaf (zb1 HB) hb); clear hb hbox hg))
  replace BK931 := Zaa.mk (Zad BK931.out)
  replace HB := Zaa.mk (Zaq HB.out)
  refine start_ (n := 7) (S := fun w' => w'.cell? ⟨gb931, 0, none⟩ = some (.int .u64 a0_0) ∧ w'.cell? ⟨gb931, 1, none⟩ = some (.int .u64 a0_1)) (ds := []) #[false, false, false, false, false, false, false] (by kernel_rfl) rfl rfl ⟨(Zai BK931.out 0).trans rfl, (Zai BK931.out 1).trans rfl⟩ (fun hHeld => ?_)
  generalize w7.drew = w8 at BK931 HB hHeld ⊢
  refine Za8 (i := 1) (N := some 8) (v := ?_) (a' := ?_) #[false, true, false, false, false, false, false] rfl rfl (by kernel_rfl) (fun _ _ _ h => h) (Or.inl ⟨by rfl, ?_⟩) ?_ ?_
  rotate_left
  ·intro w'
   go_simp
   with_reducible rfl
  rotate_left
  ·simp only [Act.put, List.setIfInBounds_toArray, List.set_cons_zero, List.set_cons_succ, Zav, Za0]
   rfl
  refine Za8 (i := 3) (N := some 10) (v := ?_) (a' := ?_) #[false, true, false, true, false, false, false] rfl rfl (by kernel_rfl) (fun _ _ _ h => h) (Or.inl ⟨by rfl, ?_⟩) ?_ ?_
  rotate_left
  ·intro w'
   go_simp
   with_reducible rfl
  rotate_left
  ·simp only [Act.put, List.setIfInBounds_toArray, List.set_cons_zero, List.set_cons_succ, Zav, Za0]
   rfl
  refine take_ (i := 0) (N := some 7) (v := ?_) (a' := ?_) #[true, true, false, true, false, false, false] rfl rfl (by kernel_rfl) (fun _ _ _ h => h) (Or.inl ⟨by rfl, ?_⟩) hHeld ?_ ?_
  rotate_left
  ·rintro w' ⟨s0, s1⟩
   go_simp
   with_reducible rfl
  rotate_left
  ·simp only [Act.put, List.setIfInBounds_toArray, List.set_cons_zero, List.set_cons_succ, Zav, Za0]
   rfl
  refine one_ (i := 2) (N := some 9) #[true, true, true, true, false, false, false] rfl rfl (by kernel_rfl) (by decide) (fun K hK => ?_)
  refine goes_ Tryd.func108 (by kernel_rfl) rfl #[.int .u64 a1] (by rfl) rfl rfl zam ?_
  with_reducible refine (digest_Put.calls k a1 t932 _ A4.out).mono ?_
  rintro e w9 ⟨v933, rfl, ho0, hb⟩
  refine ⟨_, rfl, ?_⟩
  have HO934 := Zaa.mk (Kd.R_lower ho0 (Zae (zb2 HB GE931.out)))
  replace BK931 := Zaa.mk (Zah (g := gb931) (o := .cells #[.int .u64 a0_0, .int .u64 a0_1] 80 (0, 0)) (zbk BK931) hb)
  replace HB := Zaa.mk (Zaf (zb2 HB GE931.out) hb)
  (try clear hb)
  (try clear ho0)
  refine hK.out _ _ ⟨(Zai BK931.out 0).trans rfl, (Zai BK931.out 1).trans rfl⟩ (fun hHeld => ?_)
  clear hK K
  refine norm_ (a' := ?_) ?_ ?_
  rotate_left
  ·show Act.put _ (some 9) _ = _
   simp only [Act.put, List.setIfInBounds_toArray, List.set_cons_zero, List.set_cons_succ, Zav, Za0]
   rfl
  refine one_ (i := 4) (N := some 11) #[true, true, true, true, true, false, false] rfl rfl (by kernel_rfl) (by decide) (fun K hK => ?_)
  refine Kd.R_append_rows_step (Kd.int .u8) (w0 := w) w.heap.size (by rfl) (.tmp 9) (.tmp 10) 28 5 (.int .u8 0) 1 rfl Tryd.underlying28 info5 rfl (by decide) (by omega) v933 t932 l2 _ _ _ (fun _ => True) (fun _ => False) rfl rfl ?aO ?aR (fun _ _ h => h) (fun _ h => h.elim) ?aF ?aB ?aS ?aL ?_
  (case aR => repeat (first | exact (Kd.C_below HR2.out HB.out) | (with_reducible refine Kd.C_alloc ?_ _) | (with_reducible refine Kd.C_drewN ?_ _) | (with_reducible refine Kd.C_drew ?_)))
  (case aB => exact (zb2 HB GE931.out))
  (case aF => exact (fun _ _ => trivial))
  (case aO => exact (zrk HO934))
  (case aS => exact (Zae (zb2 HB GE931.out)))
  (case aL => have := LMc5.out; omega)
  intro v936 w10 ho hb hg hat
  rw [← Ny935.out] at ho
  replace BK931 := Zaa.mk (Zbl (g := gb931) (o := .cells #[.int .u64 a0_0, .int .u64 a0_1] 80 (0, 0)) (zbk BK931) hg (Kd.R_ne HO934.out BK931.out (by decide)))
  replace HB := Zaa.mk (hb)
  have HO937 := Zaa.mk (ho)
  clear HO934 ho hb hg hat
  obtain ⟨Ao11, co11, eo11⟩ := Kd.R_slice HO937.out
  (first | subst eo11 | (injection eo11 with f1_ f2_ f3_; have f4_ := f1_.symm; have f5_ := f3_.symm; clear f1_ f2_ f3_; subst f4_; subst f5_))
  refine hK.out _ _ ⟨(Zai BK931.out 0).trans rfl, (Zai BK931.out 1).trans rfl⟩ (fun hHeld => ?_)
  clear hK K
  refine norm_ (a' := ?_) ?_ ?_
  rotate_left
  ·show Act.put _ (some 11) _ = _
   simp only [Act.put, List.setIfInBounds_toArray, List.set_cons_zero, List.set_cons_succ, Zav, Za0]
   rfl
  refine one_ (i := 5) (N := some 12) #[true, true, true, true, true, true, false] rfl rfl (by kernel_rfl) (by decide) (fun K hK => ?_)
  refine goes_ Tryd.func131 (by kernel_rfl) rfl #[.agg #[.int .u64 a0_0, .int .u64 a0_1], .slice Ao11 y935.length co11] (by rfl) rfl rfl zam ?_
  with_reducible refine (digest_Sum.calls a0_0 a0_1 _ _ y935 t938 _ ?side1 ?side2 A6.out).mono ?_
  (case side1 => repeat (first | exact (Kd.R_reads' HO937.out).2.2 | (with_reducible refine Kd.C_alloc ?_ _) | (with_reducible refine Kd.C_drewN ?_ _) | (with_reducible refine Kd.C_drew ?_)))
  (case side2 => exact (Kd.R_reads' HO937.out).2.1)
  rintro e w12 ⟨rfl, hb⟩
  refine ⟨_, rfl, ?_⟩
  replace HO937 := Zaa.mk (Kd.R_below (zrk HO937) hb)
  replace BK931 := Zaa.mk (Zah (g := gb931) (o := .cells #[.int .u64 a0_0, .int .u64 a0_1] 80 (0, 0)) (zbk BK931) hb)
  replace HB := Zaa.mk (Zaf (zb2 HB GE931.out) hb)
  (try clear hb)
  refine hK.out _ _ ⟨(Zai BK931.out 0).trans rfl, (Zai BK931.out 1).trans rfl⟩ (fun hHeld => ?_)
  clear hK K
  refine norm_ (a' := ?_) ?_ ?_
  rotate_left
  ·show Act.put _ (some 12) _ = _
   simp only [Act.put, List.setIfInBounds_toArray, List.set_cons_zero, List.set_cons_succ, Zav, Za0]
   rfl
  refine Za8 (i := 6) (N := some 6) (v := ?_) (a' := ?_) #[true, true, true, true, true, true, true] rfl rfl (by kernel_rfl) (fun _ _ _ h => h) (Or.inl ⟨by rfl, ?_⟩) ?_ ?_
  rotate_left
  ·intro w'
   go_simp
   with_reducible rfl
  rotate_left
  ·simp only [Act.put, List.setIfInBounds_toArray, List.set_cons_zero, List.set_cons_succ, Zav, Za0]
   rfl
  refine done_ (by kernel_rfl) ?_
  try go_wp2
  go_ret
  exact ⟨by first | rfl | (simp [errW_none, errW_some] <;> rfl) | (simp [*, errW_none, errW_some] <;> rfl), (zb2 HB GE931.out)⟩
 ·rw [if_neg c5] at H
  exact absurd H (by simp)
end Go.Proofs.YtkfddpbmclbdhaaDoor.PA
end
section
namespace Go.Proofs.YtkfddpbmclbdhaaDoor.PA
open Go.RowKit Go.Proofs.YtkfddpbmclbdhaaDoorW.PrintWords Go.Proofs.YtkfddpbmclbdhaaDoorW.PrintLast Go.Proofs.YtkfddpbmclbdhaaDoorW.PrintMore
attribute [local go_sem] Zaz Zax Za5 Za4 Zas Zar Zay Zaw   -- for this text's walks alone
set_option linter.unusedVariables false
set_option linter.unusedSimpArgs false
def kauditref25_Put.l0 : Nat → List Int → Int → Option (List Int)
 | 0, _, _ => none
 | k + 1, x0, x1 => if x1 ≥ 128 then (if x0.length < 140737488355328 then (kauditref25_Put.l0 k (x0 ++ [((Int.tmod x1 128) + 128) % 256]) (wrap64 (Int.tdiv x1 128))) else (none)) else (if x0.length < 140737488355328 then (some (x0 ++ [(x1) % 256])) else (none))
def kauditref25_Put.f (k : Nat) (l0 : List Int) (a1 : Int) : Option (List Int) := kauditref25_Put.l0 k l0 a1
theorem kauditref25_Put.mono_l : ∀ k, (∀ y0 y1, LeO (kauditref25_Put.l0 k y0 y1) (kauditref25_Put.l0 (k + 1) y0 y1))
 | 0 => fun _ _ r h => by simp [kauditref25_Put.l0] at h
 | k + 1 => by
  have ih0 := kauditref25_Put.mono_l k
  ·intro y0 y1
   unfold kauditref25_Put.l0
   repeat' first
   | (with_reducible exact ih0 _ _)
   | (with_reducible exact LeO.refl _)
   | (with_reducible exact LeO.none _)
   | (with_reducible refine LeO.ite ?_ ?_)
   | (with_reducible refine LeO.bind ?_ (fun _ => ?_))
   | exact ih0 _ _
   | exact LeO.none _
   | refine LeO.ite ?_ ?_
   | refine LeO.bind ?_ (fun _ => ?_)
theorem kauditref25_Put.mono : ∀ a0 a1 k, LeO (kauditref25_Put.f k a0 a1) (kauditref25_Put.f (k + 1) a0 a1) := by
 intro a0 a1 k
 have ih0 := kauditref25_Put.mono_l k
 unfold kauditref25_Put.f
 repeat' first
   | (with_reducible exact ih0 _ _)
   | (with_reducible exact LeO.refl _)
   | (with_reducible exact LeO.none _)
   | (with_reducible refine LeO.ite ?_ ?_)
   | (with_reducible refine LeO.bind ?_ (fun _ => ?_))
   | exact ih0 _ _
   | exact LeO.none _
   | refine LeO.ite ?_ ?_
   | refine LeO.bind ?_ (fun _ => ?_)
end Go.Proofs.YtkfddpbmclbdhaaDoor.PA
end
section
namespace Go.Proofs.YtkfddpbmclbdhaaDoor.PA
open Go.RowKit Go.Proofs.YtkfddpbmclbdhaaDoorW.PrintWords Go.Proofs.YtkfddpbmclbdhaaDoorW.PrintLast Go.Proofs.YtkfddpbmclbdhaaDoorW.PrintMore
attribute [local go_sem] Zaz Zax Za5 Za4 Zas Zar Zay Zaw   -- for this text's walks alone
set_option linter.unusedVariables false
set_option linter.unusedSimpArgs false
def fresh_AppendNumber.l0 : Nat → List Int → Int → Option (List Int)
 | 0, _, _ => none
 | k + 1, x0, x1 => if x1 ≥ 128 then (if x0.length < 140737488355328 then (fresh_AppendNumber.l0 k (x0 ++ [Go.bits .or .u8 ((x1) % 256) 128]) (x1 / 128)) else (none)) else (if x0.length < 140737488355328 then (some (x0 ++ [(x1) % 256])) else (none))
def fresh_AppendNumber.f (k : Nat) (l0 : List Int) (a1 : Int) : Option (List Int) := fresh_AppendNumber.l0 k l0 a1
theorem fresh_AppendNumber.mono_l : ∀ k, (∀ y0 y1, LeO (fresh_AppendNumber.l0 k y0 y1) (fresh_AppendNumber.l0 (k + 1) y0 y1))
 | 0 => fun _ _ r h => by simp [fresh_AppendNumber.l0] at h
 | k + 1 => by
  have ih0 := fresh_AppendNumber.mono_l k
  ·intro y0 y1
   unfold fresh_AppendNumber.l0
   repeat' first
   | (with_reducible exact ih0 _ _)
   | (with_reducible exact LeO.refl _)
   | (with_reducible exact LeO.none _)
   | (with_reducible refine LeO.ite ?_ ?_)
   | (with_reducible refine LeO.bind ?_ (fun _ => ?_))
   | exact ih0 _ _
   | exact LeO.none _
   | refine LeO.ite ?_ ?_
   | refine LeO.bind ?_ (fun _ => ?_)
theorem fresh_AppendNumber.mono : ∀ a0 a1 k, LeO (fresh_AppendNumber.f k a0 a1) (fresh_AppendNumber.f (k + 1) a0 a1) := by
 intro a0 a1 k
 have ih0 := fresh_AppendNumber.mono_l k
 unfold fresh_AppendNumber.f
 repeat' first
   | (with_reducible exact ih0 _ _)
   | (with_reducible exact LeO.refl _)
   | (with_reducible exact LeO.none _)
   | (with_reducible refine LeO.ite ?_ ?_)
   | (with_reducible refine LeO.bind ?_ (fun _ => ?_))
   | exact ih0 _ _
   | exact LeO.none _
   | refine LeO.ite ?_ ?_
   | refine LeO.bind ?_ (fun _ => ?_)
theorem zl4 {p q : Prop} (x : Zaa q) (h : q → p := by intro h_; repeat (first | (with_reducible first | exact h_ | apply Kept.alloc | apply Kept.drewN | apply Kept.drew) | exact h_)) : p := h x.out
set_option maxHeartbeats 8000000 in
set_option maxRecDepth 100000 in
theorem fresh_AppendNumber.calls (k : Nat) (P0_ : Nat → Prop) (u9000_ : Value) (l0 : List Int) (a1 : Int) (r : List Int) (w0 w : World) (hB : Below w0.heap.size w0 w) (ho0 : Kd.R (Kd.int .u8) 5 w w0.heap.size P0_ u9000_ l0) (h : fresh_AppendNumber.f k l0 a1 = some r) :
  Calls Tryd.prog 105 #[u9000_, .int .i64 a1] w fun e w' => ∃ v0_ : Value, e = .returned (v0_) ∧ Kd.R (Kd.int .u8) 5 w' w0.heap.size (fun k_ => (P0_ k_ ∨ w.heap.size ≤ k_)) v0_ r ∧ Below w0.heap.size w0 w' ∧ Kept w w' (fun k_ => P0_ k_) := by
 have HO0 := Zaa.mk (show Kd.R (Kd.int .u8) 5 w w0.heap.size (fun k_ => (P0_ k_ ∨ w.heap.size ≤ k_)) u9000_ l0 from Kd.R_mono ho0 (fun k_ hk => (.inl hk)))
 have HK := Zaa.mk (Kept.refl w (fun k_ => P0_ k_))
 have HW0 := Zaa.mk hB.size
 have HB := Zaa.mk hB
 clear hB
 unfold fresh_AppendNumber.f at h
 have H := h
 clear h
 have H' := Zaa.mk H
 clear H
 go_enter Tryd.func105, Tryd.ntmps105
 go_wp2
 go_loopg [0, 1] k (fun kq v0 v1 w' => ∃ (x0_1 : List Int) (x1_1 : Int), v1 = .int .i64 x1_1 ∧ Zaa (fresh_AppendNumber.l0 kq x0_1 x1_1 = some r) ∧ Zaa (kq ≤ k) ∧ Zaa (Kd.R (Kd.int .u8) 5 w' w0.heap.size (fun k_ => (P0_ k_ ∨ w.heap.size ≤ k_)) v0 x0_1) ∧ Zaa (Kept w w' (fun k_ => P0_ k_)) ∧ Zaa (Below w0.heap.size w0 w'))
 case atStart => exact ⟨(l0), (a1), (by first | rfl | (simp; done) | (simp [*]; done)), H', ⟨Nat.le_refl _⟩, ⟨by (with_reducible repeat (first | apply Kd.R_alloc | apply Kd.R_drewN | apply Kd.R_drew)); exact HO0.out⟩, ⟨(zl4 HK)⟩, ⟨(zb1 HB)⟩⟩
 case round =>
  clear H'
  obtain ⟨x0_1, x1_1, rfl, HA, HK1, HO_0, HK, HB⟩ := hrel
  cases gk with
  | zero => exact absurd HA.out (by simp [fresh_AppendNumber.l0])
  | succ k1 =>
   have H := HA.out
   clear HA
   simp only [fresh_AppendNumber.l0] at H
   by_cases c3 : x1_1 ≥ 128
   ·rw [if_pos c3] at H
    have c3b0 : decide (128 ≤ x1_1) = true := decide_eq_true c3
    clear c3
    by_cases c4 : x0_1.length < 140737488355328
    ·rw [if_pos c4] at H
     have LMc4 := Zaa.mk c4
     clear c4
     obtain ⟨y878, hy878⟩ : ∃ y_ : List Int, y_ = (x0_1 ++ [Go.bits .or .u8 ((x1_1) % 256) 128]) := ⟨_, rfl⟩
     replace H : (fresh_AppendNumber.l0 k1 y878 (x1_1 / 128)) = some r := by first | (rw [hy878]; with_reducible exact H) | (have H2_ := (Option.bind_some _ _).symm.trans H; rw [hy878]; with_reducible exact H2_) | (have H2_ := (Option.bind_some _ _).symm.trans H; with_reducible exact H2_) | with_reducible exact H | (rw [hy878]; exact H) | exact H
     have Ny878 := Zaa.mk hy878
     clear hy878
     have H' := Zaa.mk H
     clear H
     go_wp2_with (first | ((with_reducible refine Zba (b := .append) (xs := #[.tmp 7, .tmp 11]) rfl ?_); at_builtin; refine Kd.R_append (Kd.int .u8) (w0 := w0) w0.heap.size rfl (.tmp 7) (.tmp 11) 28 5 (.int .u8 0) 1 rfl Tryd.underlying28 info5 rfl (by decide) (by omega) u0 x0_1 (Go.bits .or .u8 ((x1_1) % 256) 128) [.int .u8 (Go.bits .or .u8 ((x1_1) % 256) 128)] (fun k_ => (P0_ k_ ∨ w.heap.size ≤ k_)) (fun _ => False) rfl rfl ?aP (fun _ hk => hk.elim) ?aF ?aO ?aB ?aS ?aL ?_; (case aP => exact rfl); (case aB => exact (zb1 HB)); (case aF => exact (fun k_ hk => (.inr (Nat.le_trans (by first | exact HK.out.1 | exact (show Kept w _ (fun k_ => P0_ k_) from (zl4 HK)).1) hk)))); (case aO => exact (zrk HO_0)); (case aS => exact (Zae (zb1 HB))); (case aL => have := LMc4.out; omega); intro v879 w5 ho hb hg hat; rw [← Ny878.out] at ho; replace HB := Zaa.mk (hb); replace HK := Zaa.mk (Kept.of_grown (S := (fun k_ => P0_ k_)) hg (zl4 HK) (fun k_ e_ => (HO_0.out.1 k_ e_))); have HO880 := Zaa.mk (ho); clear HO_0 ho hb hg hat))
     go_roundg k1
     case measure => have := HK1.out; omega
     case rel => exact ⟨(y878), (x1_1 / 128), (by first | rfl | (simp; done) | (simp [*]; done)), H', ⟨by have := HK1.out; omega⟩, ⟨by (with_reducible repeat (first | apply Kd.R_alloc | apply Kd.R_drewN | apply Kd.R_drew)); exact HO880.out⟩, ⟨(zl4 HK)⟩, ⟨(zb1 HB)⟩⟩
    ·rw [if_neg c4] at H
     exact absurd H (by simp)
   ·rw [if_neg c3] at H
    have c3b0 : decide (128 ≤ x1_1) = false := decide_eq_false c3
    clear c3
    by_cases c6 : x0_1.length < 140737488355328
    ·rw [if_pos c6] at H
     have LMc6 := Zaa.mk c6
     clear c6
     obtain ⟨y881, hy881⟩ : ∃ y_ : List Int, y_ = (x0_1 ++ [(x1_1) % 256]) := ⟨_, rfl⟩
     replace H : (some y881) = some r := by first | (rw [hy881]; with_reducible exact H) | (have H2_ := (Option.bind_some _ _).symm.trans H; rw [hy881]; with_reducible exact H2_) | (have H2_ := (Option.bind_some _ _).symm.trans H; with_reducible exact H2_) | with_reducible exact H | (rw [hy881]; exact H) | exact H
     have Ny881 := Zaa.mk hy881
     clear hy881
     obtain rfl := Option.some.inj H
     go_wp2_with (first | ((with_reducible refine Zba (b := .append) (xs := #[.tmp 15, .tmp 18]) rfl ?_); at_builtin; refine Kd.R_append (Kd.int .u8) (w0 := w0) w0.heap.size rfl (.tmp 15) (.tmp 18) 28 5 (.int .u8 0) 1 rfl Tryd.underlying28 info5 rfl (by decide) (by omega) u0 x0_1 ((x1_1) % 256) [.int .u8 ((x1_1) % 256)] (fun k_ => (P0_ k_ ∨ w.heap.size ≤ k_)) (fun _ => False) rfl rfl ?aP (fun _ hk => hk.elim) ?aF ?aO ?aB ?aS ?aL ?_; (case aP => exact rfl); (case aB => exact (zb1 HB)); (case aF => exact (fun k_ hk => (.inr (Nat.le_trans (by first | exact HK.out.1 | exact (show Kept w _ (fun k_ => P0_ k_) from (zl4 HK)).1) hk)))); (case aO => exact (zrk HO_0)); (case aS => exact (Zae (zb1 HB))); (case aL => have := LMc6.out; omega); intro v882 w7 ho hb hg hat; rw [← Ny881.out] at ho; replace HB := Zaa.mk (hb); replace HK := Zaa.mk (Kept.of_grown (S := (fun k_ => P0_ k_)) hg (zl4 HK) (fun k_ e_ => (HO_0.out.1 k_ e_))); have HO883 := Zaa.mk (ho); clear HO_0 ho hb hg hat))
     go_ret
     exact ⟨_, by first | rfl | (simp [errW_none, errW_some] <;> rfl) | (simp [*, errW_none, errW_some] <;> rfl), by (with_reducible repeat (first | apply Kd.R_alloc | apply Kd.R_drewN | apply Kd.R_drew)); exact HO883.out, (zb1 HB), (zl4 HK)⟩
    ·rw [if_neg c6] at H
     exact absurd H (by simp)
end Go.Proofs.YtkfddpbmclbdhaaDoor.PA
end
