/- Contracts of functions of the program: written by pr2.py (ours, round the print of the kit) out of the translation; conditions: each contract names its own. -/
import Derived.Test.YtkfddpbmclbdhaaDoorZAEApp
import Derived.Lib.SlBytesConst
section
namespace Go.Proofs.YtkfddpbmclbdhaaDoor.PA
open Go.RowKit Go.Proofs.YtkfddpbmclbdhaaDoorW.PrintWords Go.Proofs.YtkfddpbmclbdhaaDoorW.PrintLast Go.Proofs.YtkfddpbmclbdhaaDoorW.PrintMore
attribute [local go_sem] Zaz Zax Za5 Za4 Zas Zar Zay Zaw   -- for this text's walks alone
set_option linter.unusedVariables false
set_option linter.unusedSimpArgs false
def logfile_Frame.j0 : Nat → Int → List Int → Int → Bool → Int → Int → Option (List Int × Int × Int)
 | 0, _, _, _, _, _, _ => none
 | k + 1, x1, x2, x9, x19, x940000, x940001 => if x19 = true then (some (([] : List Int), 0, 256)) else ((digest_Chain.f k x940000 x940001 x1 x2).bind fun t940 => ((some (([(x9 / 16777216) % 256, (x9 / 65536) % 256, (x9 / 256) % 256, (x9) % 256] : List Int) : List Int)).bind fun y941 => (if y941.length + x2.length < 140737488355328 then ((some (y941 ++ x2 : List Int)).bind fun y944 => ((digest_Put.f k t940).bind fun t947 => (if y944.length + t947.length < 140737488355328 then (some ((y944 ++ t947), t940, 0)) else (none)))) else (none))))
def logfile_Frame.f (k : Nat) (a0_0 : Int) (a0_1 : Int) (a1 : Int) (l2 : List Int) : Option (List Int × Int × Int) := if (l2.length : Int) < 1 then (logfile_Frame.j0 k a1 l2 (l2.length : Int) true a0_0 a0_1) else (logfile_Frame.j0 k a1 l2 (l2.length : Int) (decide ((l2.length : Int) > 16384)) a0_0 a0_1)
theorem logfile_Frame.mono_l : ∀ k, (∀ y0 y1 y2 y3 y4 y5, LeO (logfile_Frame.j0 k y0 y1 y2 y3 y4 y5) (logfile_Frame.j0 (k + 1) y0 y1 y2 y3 y4 y5))
 | 0 => fun _ _ _ _ _ _ r h => by simp [logfile_Frame.j0] at h
 | k + 1 => by
  have ih0 := logfile_Frame.mono_l k
  ·intro y0 y1 y2 y3 y4 y5
   unfold logfile_Frame.j0
   repeat' first
   | (with_reducible exact ih0 _ _ _ _ _ _)
   | (with_reducible exact digest_Chain.mono _ _ _ _ _)
   | (with_reducible exact digest_Put.mono _ _)
   | (with_reducible exact LeO.refl _)
   | (with_reducible exact LeO.none _)
   | (with_reducible refine LeO.ite ?_ ?_)
   | (with_reducible refine LeO.bind ?_ (fun _ => ?_))
   | exact ih0 _ _ _ _ _ _
   | exact digest_Chain.mono _ _ _ _ _
   | exact digest_Put.mono _ _
   | exact LeO.none _
   | refine LeO.ite ?_ ?_
   | refine LeO.bind ?_ (fun _ => ?_)
theorem logfile_Frame.mono : ∀ a0 a1 a2 a3 k, LeO (logfile_Frame.f k a0 a1 a2 a3) (logfile_Frame.f (k + 1) a0 a1 a2 a3) := by
 intro a0 a1 a2 a3 k
 have ih0 := logfile_Frame.mono_l k
 unfold logfile_Frame.f
 repeat' first
   | (with_reducible exact ih0 _ _ _ _ _ _)
   | (with_reducible exact digest_Chain.mono _ _ _ _ _)
   | (with_reducible exact digest_Put.mono _ _)
   | (with_reducible exact LeO.refl _)
   | (with_reducible exact LeO.none _)
   | (with_reducible refine LeO.ite ?_ ?_)
   | (with_reducible refine LeO.bind ?_ (fun _ => ?_))
   | exact ih0 _ _ _ _ _ _
   | exact digest_Chain.mono _ _ _ _ _
   | exact digest_Put.mono _ _
   | exact LeO.none _
   | refine LeO.ite ?_ ?_
   | refine LeO.bind ?_ (fun _ => ?_)
set_option maxHeartbeats 8000000 in
set_option maxRecDepth 100000 in
theorem logfile_Frame.calls (k : Nat) (a0_0 : Int) (a0_1 : Int) (a1 : Int) (A2 : Option Addr) (c2 : Nat) (l2 : List Int) (r1 : List Int) (r2 : Int) (r3 : Int) (w : World) (hr2 : Kd.C (Kd.int .u8) w A2 l2.length l2) (hc2 : l2.length ≤ c2) (h : logfile_Frame.f k a0_0 a0_1 a1 l2 = some (r1, r2, r3)) :
  Calls Tryd.prog 60 #[.agg #[.int .u64 a0_0, .int .u64 a0_1], .int .u64 a1, .slice A2 l2.length c2] w fun e w' => ∃ v0_ : Value, e = .returned (.tuple #[v0_, .int .u64 r2, .int .i64 r3]) ∧ Kd.R (Kd.int .u8) 5 w' w.heap.size (fun _ => True) v0_ r1 ∧ Below w.heap.size w w' := by
 have hu80 := Tryd.underlying80
 have HR2 := Zaa.mk hr2
 have HC2 := Zaa.mk hc2
 clear hr2 hc2
 have HB := Zaa.mk (Below.refl w.heap.size w)
 unfold logfile_Frame.f at h
 have H := h
 clear h
 have HC4 := Zaa.mk H
 clear H
 go_enter Tryd.func60, Tryd.ntmps60
 go_upto_region 2 with (first | ((with_reducible refine Zao (N := 3) rfl ?_); refine Zap ?hg (N := 3) ?hd (cs := #[.int .u64 a0_0, .int .u64 a0_1]) (t := 80) ?hr ?_; (case hd => rfl); (case hg => rfl); (case hr => first | (go_simp; done) | (go_simp; rfl)); intro gb939 hg w5 hbox hb; have BK939 := Zaa.mk (hbox); have GW939 := Zaa.mk ((by rw [hg]; exact (Zae (zb1 HB)) : w.heap.size ≤ gb939)); have GE939 := Zaa.mk ((by rw [hg]; exact (Zae (zb1 HB)) : w.heap.size ≤ gb939)); replace HB := Zaa.mk (Zaf (zb1 HB) hb); clear hb hbox hg))
 (try simp only [Act.put, List.setIfInBounds_toArray, List.set_cons_zero, List.set_cons_succ])
 go_cut [19] (fun v19 wc => ∃ (kq : Nat) (x19_3 : Bool), v19 = .bool x19_3 ∧ Zaa (logfile_Frame.j0 kq a1 l2 (l2.length : Int) x19_3 a0_0 a0_1 = some (r1, r2, r3)) ∧ Zaa (kq ≤ k) ∧ Zaa (wc.heap[gb939]? = some (.cells #[.int .u64 a0_0, .int .u64 a0_1] 80 (0, 0))) ∧ Zaa (Below w.heap.size w wc))
 case first =>
  have H := HC4.out
  clear HC4
  by_cases c6 : (l2.length : Int) < 1
  ·rw [if_pos c6] at H
   have c6b0 : decide ((l2.length : Int) < 1) = true := decide_eq_true c6
   have c6b1 : decide (l2.length < 1) = true := decide_eq_true (by omega)
   clear c6
   (first | rw [c6b0] | (simp only [Zav, Za0]; rw [c6b0]) | skip)
   have H' := Zaa.mk H
   clear H
   go_wp2
   go_meet
   case rel => exact ⟨_, (true), (by first | rfl | (simp; done) | (simp [*]; done)), H', ⟨by first | omega | exact Nat.le_refl _⟩, ⟨by (with_reducible repeat (first | refine Zac ?_ _ | refine Zad ?_ | refine Zab ?_ _)); exact BK939.out⟩, ⟨(zb2 HB GE939.out)⟩⟩
  ·rw [if_neg c6] at H
   have c6b0 : decide ((l2.length : Int) < 1) = false := decide_eq_false c6
   have c6b1 : decide (l2.length < 1) = false := decide_eq_false (by omega)
   clear c6
   (first | rw [c6b0] | (simp only [Zav, Za0]; rw [c6b0]) | skip)
   have H' := Zaa.mk H
   clear H
   go_wp2
   go_meet
   case rel => exact ⟨_, (decide ((l2.length : Int) > 16384)), (by first | rfl | (simp; done) | (simp [*]; done)), H', ⟨by first | omega | exact Nat.le_refl _⟩, ⟨by (with_reducible repeat (first | refine Zac ?_ _ | refine Zad ?_ | refine Zab ?_ _)); exact BK939.out⟩, ⟨(zb2 HB GE939.out)⟩⟩
 case rest =>
  clear HC4
  (try clear c2)
  obtain ⟨kq, x19_3, rfl, HA, HJ3, BK939, HB⟩ := hcut
  cases kq with
  | zero => exact absurd HA.out (by simp [logfile_Frame.j0])
  | succ kj3 =>
   have H := HA.out
   clear HA
   simp only [logfile_Frame.j0] at H
   by_cases c7 : x19_3 = true
   ·subst c7
    rw [if_pos rfl] at H
    simp only [Option.some.injEq, Prod.mk.injEq] at H
    obtain ⟨rfl, rfl, rfl⟩ := H
    go_wp2
    go_ret3
    exact ⟨_, by first | rfl | (simp [errW_none, errW_some] <;> rfl) | (simp [*, errW_none, errW_some] <;> rfl), by first | exact Kd.R_nil _ _ _ _ _ | exact Kd.N_nil _ _ _ _ _ | exact Kd.V_nil _ _ _ _ _ | exact Kd.Q_nil _ _ _ _ _ | exact Kd.S_nil _ _ _ _ _, (zb2 HB GE939.out)⟩
   ·replace c7 := Bool.eq_false_iff.mpr c7
    subst c7
    rw [if_neg (show ¬ (false = true) by decide)] at H
    replace H := Option.bind_eq_some_iff.mp H
    obtain ⟨t940, A80, H⟩ := H
    try dsimp only at H
    have A8 := Zaa.mk A80
    clear A80
    obtain ⟨y941, hy941⟩ : ∃ y_ : List Int, y_ = (([((l2.length : Int) / 16777216) % 256, ((l2.length : Int) / 65536) % 256, ((l2.length : Int) / 256) % 256, ((l2.length : Int)) % 256] : List Int)) := ⟨_, rfl⟩
    replace H : (if y941.length + l2.length < 140737488355328 then ((some (y941 ++ l2 : List Int)).bind fun y944 => ((digest_Put.f kj3 t940).bind fun t947 => (if y944.length + t947.length < 140737488355328 then (some ((y944 ++ t947), t940, 0)) else (none)))) else (none)) = some (r1, r2, r3) := by first | (rw [hy941]; with_reducible exact H) | (have H2_ := (Option.bind_some _ _).symm.trans H; rw [hy941]; with_reducible exact H2_) | (have H2_ := (Option.bind_some _ _).symm.trans H; with_reducible exact H2_) | with_reducible exact H | (rw [hy941]; exact H) | exact H
    have Ny941 := Zaa.mk hy941
    clear hy941
    by_cases c9 : y941.length + l2.length < 140737488355328
    ·rw [if_pos c9] at H
     have LMc9 := Zaa.mk c9
     clear c9
     obtain ⟨y944, hy944⟩ : ∃ y_ : List Int, y_ = (y941 ++ l2) := ⟨_, rfl⟩
     replace H : ((digest_Put.f kj3 t940).bind fun t947 => (if y944.length + t947.length < 140737488355328 then (some ((y944 ++ t947), t940, 0)) else (none))) = some (r1, r2, r3) := by first | (rw [hy944]; with_reducible exact H) | (have H2_ := (Option.bind_some _ _).symm.trans H; rw [hy944]; with_reducible exact H2_) | (have H2_ := (Option.bind_some _ _).symm.trans H; with_reducible exact H2_) | with_reducible exact H | (rw [hy944]; exact H) | exact H
     have Ny944 := Zaa.mk hy944
     clear hy944
     replace H := Option.bind_eq_some_iff.mp H
     obtain ⟨t947, A100, H⟩ := H
     try dsimp only at H
     have A10 := Zaa.mk A100
     clear A100
     by_cases c11 : y944.length + t947.length < 140737488355328
     ·rw [if_pos c11] at H
      have LMc11 := Zaa.mk c11
      clear c11
      obtain ⟨y950, hy950⟩ : ∃ y_ : List Int, y_ = (y944 ++ t947) := ⟨_, rfl⟩
      replace H : (some (y950, t940, 0)) = some (r1, r2, r3) := by first | (rw [hy950]; with_reducible exact H) | (have H2_ := (Option.bind_some _ _).symm.trans H; rw [hy950]; with_reducible exact H2_) | (have H2_ := (Option.bind_some _ _).symm.trans H; with_reducible exact H2_) | with_reducible exact H | (rw [hy950]; exact H) | exact H
      have Ny950 := Zaa.mk hy950
      clear hy950
      simp only [Option.some.injEq, Prod.mk.injEq] at H
      obtain ⟨rfl, rfl, rfl⟩ := H
      obtain ⟨hcz12_0, hcz12_1⟩ := bc2 BK939.out
      obtain ⟨hfz12_0, hfz12_1⟩ := bf2 BK939.out
      go_wp2_with (first | ((with_reducible refine Zal (f := 107) rfl ?_); refine Za2 (some 23) rfl rfl Tryd.func107 (by kernel_rfl) rfl #[.agg #[.int .u64 a0_0, .int .u64 a0_1], .int .u64 a1, .slice A2 l2.length c2] rfl zam ?_; (with_reducible refine (digest_Chain.calls kj3 a0_0 a0_1 a1 _ _ l2 t940 _ ?side1 ?side2 A8.out).mono ?_); (case side1 => repeat (first | exact (Kd.C_below HR2.out HB.out) | (with_reducible refine Kd.C_alloc ?_ _) | (with_reducible refine Kd.C_drewN ?_ _) | (with_reducible refine Kd.C_drew ?_))); (case side2 => exact HC2.out); rintro e w13 ⟨rfl, hb⟩; refine ⟨_, rfl, ?_⟩; replace BK939 := Zaa.mk (Zah (g := gb939) (o := .cells #[.int .u64 a0_0, .int .u64 a0_1] 80 (0, 0)) (zbk BK939) hb); replace HB := Zaa.mk (Zaf (zb2 HB GE939.out) hb); (try clear hb)) | ((with_reducible refine Zao (N := 35) rfl ?_); refine Kd.R_lit (Kd.int .u8) _ 5 ?hg (N := 35) ?hd (xs := ([((l2.length : Int) / 16777216) % 256, ((l2.length : Int) / 65536) % 256, ((l2.length : Int) / 256) % 256, ((l2.length : Int)) % 256] : List Int)) (inner := [.int .u8 (((l2.length : Int) / 16777216) % 256), .int .u8 (((l2.length : Int) / 65536) % 256), .int .u8 (((l2.length : Int) / 256) % 256), .int .u8 (((l2.length : Int)) % 256)]) (ok := fun _ => True) (okp := fun _ => True) ?hr ?hp (fun _ hk => hk) trivial (Below.refl _ _) (Nat.le_refl _) (by simp) ?_; (case hd => rfl); (case hg => rfl); (case hr => first | (go_simp; done) | (go_simp; rfl)); (case hp => exact (Reps.one (show Kd.M (Kd.int .u8) _ _ _ (((l2.length : Int) / 16777216) % 256) [.int .u8 (((l2.length : Int) / 16777216) % 256)] from rfl) (Reps.one (show Kd.M (Kd.int .u8) _ _ _ (((l2.length : Int) / 65536) % 256) [.int .u8 (((l2.length : Int) / 65536) % 256)] from rfl) (Reps.one (show Kd.M (Kd.int .u8) _ _ _ (((l2.length : Int) / 256) % 256) [.int .u8 (((l2.length : Int) / 256) % 256)] from rfl) (Reps.one (show Kd.M (Kd.int .u8) _ _ _ (((l2.length : Int)) % 256) [.int .u8 (((l2.length : Int)) % 256)] from rfl) (Reps.none _ _)))))); intro v942 w14 ho15 hb hg_ hnew_; clear hg_ hnew_; (first | rw [← Ny941.out] at ho15 | (simp only [Int.reduceToNat] at ho15; rw [← Ny941.out] at ho15)); have HO943 := Zaa.mk (Kd.R_lower ho15 (Zae (zb2 HB GE939.out))); replace BK939 := Zaa.mk (Zah (g := gb939) (o := .cells #[.int .u64 a0_0, .int .u64 a0_1] 80 (0, 0)) (zbk BK939) hb); replace HB := Zaa.mk (Zaf (zb2 HB GE939.out) hb); clear hb ho15) | ((with_reducible refine Zba (b := .append) (xs := #[.tmp 35, .tmp 36]) rfl ?_); at_builtin; refine Kd.R_append_rows (Kd.int .u8) (w0 := w) w.heap.size rfl (.tmp 35) (.tmp 36) 28 5 (.int .u8 0) 1 rfl Tryd.underlying28 info5 rfl (by decide) (by omega) v942 y941 l2 _ _ _ (fun _ => True) (fun _ => False) rfl rfl ?aO ?aR (fun _ _ h => h) (fun _ h => h.elim) ?aF ?aB ?aS ?aL ?_; (case aR => repeat (first | exact (Kd.C_below HR2.out HB.out) | (with_reducible refine Kd.C_alloc ?_ _) | (with_reducible refine Kd.C_drewN ?_ _) | (with_reducible refine Kd.C_drew ?_))); (case aB => exact (zb2 HB GE939.out)); (case aF => exact (fun _ _ => trivial)); (case aO => exact (zrk HO943)); (case aS => exact (Zae (zb2 HB GE939.out))); (case aL => have := LMc9.out; omega); intro v945 w16 ho hb hg hat; rw [← Ny944.out] at ho; replace BK939 := Zaa.mk (Zbl (g := gb939) (o := .cells #[.int .u64 a0_0, .int .u64 a0_1] 80 (0, 0)) (zbk BK939) hg (Kd.R_ne HO943.out BK939.out (by decide))); replace HB := Zaa.mk (hb); have HO946 := Zaa.mk (ho); clear HO943 ho hb hg hat) | ((with_reducible refine Zal (f := 108) rfl ?_); refine Za2 (some 40) rfl rfl Tryd.func108 (by kernel_rfl) rfl #[.int .u64 t940] rfl zam ?_; (with_reducible refine (digest_Put.calls kj3 t940 t947 _ A10.out).mono ?_); rintro e w17 ⟨v948, rfl, ho0, hb⟩; refine ⟨_, rfl, ?_⟩; have HO949 := Zaa.mk (Kd.R_lower (Kd.R_new' ho0 (Kd.R_lt (zrk HO946))) (Zae (zb2 HB GE939.out))); replace HO946 := Zaa.mk (Kd.R_elder' (zrk HO946) (Kd.R_base ho0) hb); replace BK939 := Zaa.mk (Zah (g := gb939) (o := .cells #[.int .u64 a0_0, .int .u64 a0_1] 80 (0, 0)) (zbk BK939) hb); replace HB := Zaa.mk (Zaf (zb2 HB GE939.out) hb); (try clear hb); (try clear ho0); obtain ⟨Ao19, co19, eo19⟩ := Kd.R_slice HO949.out; subst eo19) | ((with_reducible refine Zba (b := .append) (xs := #[.tmp 38, .tmp 40]) rfl ?_); at_builtin; refine Kd.R_append_rows (Kd.int .u8) (w0 := w) w.heap.size rfl (.tmp 38) (.tmp 40) 28 5 (.int .u8 0) 1 rfl Tryd.underlying28 info5 rfl (by decide) (by omega) v945 y944 t947 _ _ _ (fun k_ => some k_ ≠ (.slice Ao19 t947.length co19 : Value).ownBlock) (fun _ => False) rfl rfl ?aO ?aR (fun _ _ h => h) (fun _ h => h.elim) ?aF ?aB ?aS ?aL ?_; (case aR => repeat (first | exact (Kd.R_reads' HO949.out).2.2 | (with_reducible refine Kd.C_alloc ?_ _) | (with_reducible refine Kd.C_drewN ?_ _) | (with_reducible refine Kd.C_drew ?_))); (case aB => exact (zb2 HB GE939.out)); (case aF => exact (fun k_ hk => Kd.fresh' (Kd.R_lt (zrk HO949)) k_ hk)); (case aO => exact (by (with_reducible repeat (first | apply Kd.R_alloc | apply Kd.R_drewN | apply Kd.R_drew)); exact Kd.R_mono HO946.out (fun _ hk => hk.2))); (case aS => exact (Zae (zb2 HB GE939.out))); (case aL => have := LMc11.out; omega); intro v951 w18 ho hb hg hat; rw [← Ny950.out] at ho; replace BK939 := Zaa.mk (Zbl (g := gb939) (o := .cells #[.int .u64 a0_0, .int .u64 a0_1] 80 (0, 0)) (zbk BK939) hg (Kd.R_ne HO946.out BK939.out (by decide))); replace HO949 := Zaa.mk (Kd.R_after (ok := (fun _ => True)) (zrk HO949) hg hat); replace HB := Zaa.mk (hb); have HO952 := Zaa.mk (ho); clear HO946 ho hb hg hat))
      go_ret3
      exact ⟨_, by first | rfl | (simp [errW_none, errW_some] <;> rfl) | (simp [*, errW_none, errW_some] <;> rfl), by (with_reducible repeat (first | apply Kd.R_alloc | apply Kd.R_drewN | apply Kd.R_drew)); exact Kd.R_mono HO952.out (fun _ hk => trivial), (zb2 HB GE939.out)⟩
     ·rw [if_neg c11] at H
      exact absurd H (by simp)
    ·rw [if_neg c9] at H
     exact absurd H (by simp)
end Go.Proofs.YtkfddpbmclbdhaaDoor.PA
end
/- (mended by genhead.py) Contracts of functions of the program: written by pr2.py (ours, round the print of the kit) out of the translation; conditions: each contract names its own. -/
section
namespace Go.Proofs.YtkfddpbmclbdhaaDoor.PA
open Go.RowKit Go.Proofs.YtkfddpbmclbdhaaDoorW.PrintWords Go.Proofs.YtkfddpbmclbdhaaDoorW.PrintLast Go.Proofs.YtkfddpbmclbdhaaDoorW.PrintMore
attribute [local go_sem] Zaz Zax Za5 Za4 Zas Zar Zay Zaw   -- for this text's walks alone
set_option linter.unusedVariables false
set_option linter.unusedSimpArgs false
def logfile_Head.j0 : Nat → Int → Int → Bool → Int → Int → Option (List Int × Int × Int)
 | 0, _, _, _, _, _ => none
 | k + 1, x1, x2, x14, x1032000, x1032001 => if x14 = true then (some (([] : List Int), 0, 257)) else ((fresh_AppendNumber.f k (([107, 97, 117, 100, 105, 116] : List Int)) x1).bind fun t1035 => ((digest_Put.f k x2).bind fun t1038 => (if t1035.length + t1038.length < 140737488355328 then ((logfile_Frame.f k x1032000 x1032001 x2 (t1035 ++ t1038)).bind fun bt1044 => (some (bt1044.1, bt1044.2.1, bt1044.2.2))) else (none))))
def logfile_Head.f (k : Nat) (a0_0 : Int) (a0_1 : Int) (a1 : Int) (a2 : Int) : Option (List Int × Int × Int) := if a1 < 1 then (logfile_Head.j0 k a1 a2 true a0_0 a0_1) else (logfile_Head.j0 k a1 a2 (decide (a1 > 1000)) a0_0 a0_1)
theorem logfile_Head.mono_l : ∀ k, (∀ y0 y1 y2 y3 y4, LeO (logfile_Head.j0 k y0 y1 y2 y3 y4) (logfile_Head.j0 (k + 1) y0 y1 y2 y3 y4))
 | 0 => fun _ _ _ _ _ r h => by simp [logfile_Head.j0] at h
 | k + 1 => by
  have ih0 := logfile_Head.mono_l k
  ·intro y0 y1 y2 y3 y4
   unfold logfile_Head.j0
   repeat' first
   | (with_reducible exact ih0 _ _ _ _ _)
   | (with_reducible exact digest_Put.mono _ _)
   | (with_reducible exact fresh_AppendNumber.mono _ _ _)
   | (with_reducible exact logfile_Frame.mono _ _ _ _ _)
   | (with_reducible exact LeO.refl _)
   | (with_reducible exact LeO.none _)
   | (with_reducible refine LeO.ite ?_ ?_)
   | (with_reducible refine LeO.bind ?_ (fun _ => ?_))
   | exact ih0 _ _ _ _ _
   | exact digest_Put.mono _ _
   | exact fresh_AppendNumber.mono _ _ _
   | exact logfile_Frame.mono _ _ _ _ _
   | exact LeO.none _
   | refine LeO.ite ?_ ?_
   | refine LeO.bind ?_ (fun _ => ?_)
theorem logfile_Head.mono : ∀ a0 a1 a2 a3 k, LeO (logfile_Head.f k a0 a1 a2 a3) (logfile_Head.f (k + 1) a0 a1 a2 a3) := by
 intro a0 a1 a2 a3 k
 have ih0 := logfile_Head.mono_l k
 unfold logfile_Head.f
 repeat' first
   | (with_reducible exact ih0 _ _ _ _ _)
   | (with_reducible exact digest_Put.mono _ _)
   | (with_reducible exact fresh_AppendNumber.mono _ _ _)
   | (with_reducible exact logfile_Frame.mono _ _ _ _ _)
   | (with_reducible exact LeO.refl _)
   | (with_reducible exact LeO.none _)
   | (with_reducible refine LeO.ite ?_ ?_)
   | (with_reducible refine LeO.bind ?_ (fun _ => ?_))
   | exact ih0 _ _ _ _ _
   | exact digest_Put.mono _ _
   | exact fresh_AppendNumber.mono _ _ _
   | exact logfile_Frame.mono _ _ _ _ _
   | exact LeO.none _
   | refine LeO.ite ?_ ?_
   | refine LeO.bind ?_ (fun _ => ?_)
def logfile_Head.T3 : Bool × List (List Nat × List Nat) := (true, [([], []), ([], []), ([], []), ([2], [2]), ([], []), ([3, 4], [3, 4]), ([], []), ([6, 5], [6]), ([5, 7, 7], [5, 7]), ([0, 1, 8, 8], [0, 1, 8]), ([9], [9]), ([9], [9]), ([9], [9]), ([10, 9, 0, 1, 2, 3, 4, 5, 6, 7, 8, 9, 10, 11, 12], [10]), ([11, 13, 0, 1, 2, 3, 4, 5, 6, 7, 8, 9, 10, 11, 12, 13], [11]), ([12, 14, 0, 1, 2, 3, 4, 5, 6, 7, 8, 9, 10, 11, 12, 13, 14], [12])])
def logfile_Head.B3 : List Nat := [0, 0, 0, 4, 0, 28, 0, 124, 252, 511, 1023, 1023, 1023, 8191, 16383, 32767]
theorem logfile_Head.tab3 : rtab .any (opsOf Tryd.f62 3) = logfile_Head.T3 := by kernel_rfl
theorem logfile_Head.bits3 : waitsOk logfile_Head.T3.2 logfile_Head.B3 = true := by kernel_rfl
set_option maxHeartbeats 8000000 in
set_option maxRecDepth 100000 in
theorem logfile_Head.calls (k : Nat) (a0_0 : Int) (a0_1 : Int) (a1 : Int) (a2 : Int) (r1 : List Int) (r2 : Int) (r3 : Int) (w : World) (h : logfile_Head.f k a0_0 a0_1 a1 a2 = some (r1, r2, r3)) :
  Calls Tryd.prog 62 #[.agg #[.int .u64 a0_0, .int .u64 a0_1], .int .i64 a1, .int .u64 a2] w fun e w' => ∃ v0_ : Value, e = .returned (.tuple #[v0_, .int .u64 r2, .int .i64 r3]) ∧ Kd.R (Kd.int .u8) 5 w' w.heap.size (fun _ => True) v0_ r1 ∧ Below w.heap.size w w' := by
 have hu80 := Tryd.underlying80
 have HB := Zaa.mk (Below.refl w.heap.size w)
 unfold logfile_Head.f at h
 have H := h
 clear h
 have HC4 := Zaa.mk H
 clear H
 go_enter Tryd.func62, Tryd.ntmps62
 go_upto_region 1 with (first | ((with_reducible refine Zao (N := 3) rfl ?_); refine Zap ?hg (N := 3) ?hd (cs := #[.int .u64 a0_0, .int .u64 a0_1]) (t := 80) ?hr ?_; (case hd => rfl); (case hg => rfl); (case hr => first | (go_simp; done) | (go_simp; rfl)); intro gb1031 hg w5 hbox hb; have BK1031 := Zaa.mk (hbox); have GW1031 := Zaa.mk ((by rw [hg]; exact (Zae (zb1 HB)) : w.heap.size ≤ gb1031)); have GE1031 := Zaa.mk ((by rw [hg]; exact (Zae (zb1 HB)) : w.heap.size ≤ gb1031)); replace HB := Zaa.mk (Zaf (zb1 HB) hb); clear hb hbox hg))
 (try simp only [Act.put, List.setIfInBounds_toArray, List.set_cons_zero, List.set_cons_succ])
 go_cut [14] (fun v14 wc => ∃ (kq : Nat) (x14_3 : Bool), v14 = .bool x14_3 ∧ Zaa (logfile_Head.j0 kq a1 a2 x14_3 a0_0 a0_1 = some (r1, r2, r3)) ∧ Zaa (kq ≤ k) ∧ Zaa (wc.heap[gb1031]? = some (.cells #[.int .u64 a0_0, .int .u64 a0_1] 80 (0, 0))) ∧ Zaa (Below w.heap.size w wc))
 case first =>
  have H := HC4.out
  clear HC4
  by_cases c6 : a1 < 1
  ·rw [if_pos c6] at H
   have c6b0 : decide (a1 < 1) = true := decide_eq_true c6
   clear c6
   (first | rw [c6b0] | (simp only [Zav, Za0]; rw [c6b0]) | skip)
   have H' := Zaa.mk H
   clear H
   go_wp2
   go_meet
   case rel => exact ⟨_, (true), (by first | rfl | (simp; done) | (simp [*]; done)), H', ⟨by first | omega | exact Nat.le_refl _⟩, ⟨by (with_reducible repeat (first | refine Zac ?_ _ | refine Zad ?_ | refine Zab ?_ _)); exact BK1031.out⟩, ⟨(zb2 HB GE1031.out)⟩⟩
  ·rw [if_neg c6] at H
   have c6b0 : decide (a1 < 1) = false := decide_eq_false c6
   clear c6
   (first | rw [c6b0] | (simp only [Zav, Za0]; rw [c6b0]) | skip)
   have H' := Zaa.mk H
   clear H
   go_wp2
   go_meet
   case rel => exact ⟨_, (decide (a1 > 1000)), (by first | rfl | (simp; done) | (simp [*]; done)), H', ⟨by first | omega | exact Nat.le_refl _⟩, ⟨by (with_reducible repeat (first | refine Zac ?_ _ | refine Zad ?_ | refine Zab ?_ _)); exact BK1031.out⟩, ⟨(zb2 HB GE1031.out)⟩⟩
 case rest =>
  clear HC4
  obtain ⟨kq, x14_3, rfl, HA, HJ3, BK1031, HB⟩ := hcut
  cases kq with
  | zero => exact absurd HA.out (by simp [logfile_Head.j0])
  | succ kj3 =>
   have H := HA.out
   clear HA
   simp only [logfile_Head.j0] at H
   by_cases c7 : x14_3 = true
   ·subst c7
    rw [if_pos rfl] at H
    simp only [Option.some.injEq, Prod.mk.injEq] at H
    obtain ⟨rfl, rfl, rfl⟩ := H
    go_wp2
    go_ret3
    exact ⟨_, by first | rfl | (simp [errW_none, errW_some] <;> rfl) | (simp [*, errW_none, errW_some] <;> rfl), by first | exact Kd.R_nil _ _ _ _ _ | exact Kd.N_nil _ _ _ _ _ | exact Kd.V_nil _ _ _ _ _ | exact Kd.Q_nil _ _ _ _ _ | exact Kd.S_nil _ _ _ _ _, (zb2 HB GE1031.out)⟩
   ·replace c7 := Bool.eq_false_iff.mpr c7
    subst c7
    rw [if_neg (show ¬ (false = true) by decide)] at H
    obtain ⟨y1032, hy1032⟩ : ∃ y_ : List Int, y_ = (([107, 97, 117, 100, 105, 116] : List Int)) := ⟨_, rfl⟩
    replace H : ((fresh_AppendNumber.f kj3 y1032 a1).bind fun t1035 => ((digest_Put.f kj3 a2).bind fun t1038 => (if t1035.length + t1038.length < 140737488355328 then ((logfile_Frame.f kj3 a0_0 a0_1 a2 (t1035 ++ t1038)).bind fun bt1044 => (some (bt1044.1, bt1044.2.1, bt1044.2.2))) else (none)))) = some (r1, r2, r3) := by first | (rw [hy1032]; with_reducible exact H) | (have H2_ := (Option.bind_some _ _).symm.trans H; rw [hy1032]; with_reducible exact H2_) | (have H2_ := (Option.bind_some _ _).symm.trans H; with_reducible exact H2_) | with_reducible exact H | (rw [hy1032]; exact H) | exact H
    have Ny1032 := Zaa.mk hy1032
    clear hy1032
    replace H := Option.bind_eq_some_iff.mp H
    obtain ⟨t1035, A80, H⟩ := H
    try dsimp only at H
    have A8 := Zaa.mk A80
    clear A80
    replace H := Option.bind_eq_some_iff.mp H
    obtain ⟨t1038, A90, H⟩ := H
    try dsimp only at H
    have A9 := Zaa.mk A90
    clear A90
    by_cases c10 : t1035.length + t1038.length < 140737488355328
    ·rw [if_pos c10] at H
     have LMc10 := Zaa.mk c10
     clear c10
     obtain ⟨y1041, hy1041⟩ : ∃ y_ : List Int, y_ = (t1035 ++ t1038) := ⟨_, rfl⟩
     replace H : ((logfile_Frame.f kj3 a0_0 a0_1 a2 y1041).bind fun bt1044 => (some (bt1044.1, bt1044.2.1, bt1044.2.2))) = some (r1, r2, r3) := by first | (rw [hy1041]; with_reducible exact H) | (have H2_ := (Option.bind_some _ _).symm.trans H; rw [hy1041]; with_reducible exact H2_) | (have H2_ := (Option.bind_some _ _).symm.trans H; with_reducible exact H2_) | with_reducible exact H | (rw [hy1041]; exact H) | exact H
     have Ny1041 := Zaa.mk hy1041
     clear hy1041
     replace H := Option.bind_eq_some_iff.mp H
     obtain ⟨⟨t1044, t1047, t1048⟩, A110, H⟩ := H
     try dsimp only at H
     have A11 := Zaa.mk A110
     clear A110
     simp only [Option.some.injEq, Prod.mk.injEq] at H
     obtain ⟨rfl, rfl, rfl⟩ := H
     try go_wp2
     replace BK1031 := Zaa.mk (Zad BK1031.out)
     replace HB := Zaa.mk (Zaq HB.out)
     refine start_ (n := 16) (S := fun w' => w'.cell? ⟨gb1031, 0, none⟩ = some (.int .u64 a0_0) ∧ w'.cell? ⟨gb1031, 1, none⟩ = some (.int .u64 a0_1)) (ds := []) #[false, false, false, false, false, false, false, false, false, false, false, false, false, false, false, false] (by kernel_rfl) rfl rfl ⟨(Zai BK1031.out 0).trans rfl, (Zai BK1031.out 1).trans rfl⟩ (fun hHeld => ?_); refine with_tabW logfile_Head.tab3 logfile_Head.bits3 (fun HT_ HW_ => ?_)
     generalize wc.drew = w12 at BK1031 HB hHeld ⊢
     refine Za8 (i := 1) (N := some 16) (v := ?_) (a' := ?_) #[false, true, false, false, false, false, false, false, false, false, false, false, false, false, false, false] rfl rfl (Za7 HT_.out (by kernel_rfl)) (fun _ _ _ h => h) (Or.inl ⟨by rfl, ?_⟩) ?_ ?_
     rotate_left
     ·intro w'
      go_simp
      with_reducible rfl
     rotate_left
     ·simp only [Act.put, List.setIfInBounds_toArray, List.set_cons_zero, List.set_cons_succ, Zav, Za0]
      rfl
     refine Za8 (i := 4) (N := some 19) (v := ?_) (a' := ?_) #[false, true, false, false, true, false, false, false, false, false, false, false, false, false, false, false] rfl rfl (Za7 HT_.out (by kernel_rfl)) (fun _ _ _ h => h) (Or.inl ⟨by rfl, ?_⟩) ?_ ?_
     rotate_left
     ·intro w'
      go_simp
      with_reducible rfl
     rotate_left
     ·simp only [Act.put, List.setIfInBounds_toArray, List.set_cons_zero, List.set_cons_succ, Zav, Za0]
      rfl
     refine Za8 (i := 6) (N := some 21) (v := ?_) (a' := ?_) #[false, true, false, false, true, false, true, false, false, false, false, false, false, false, false, false] rfl rfl (Za7 HT_.out (by kernel_rfl)) (fun _ _ _ h => h) (Or.inl ⟨by rfl, ?_⟩) ?_ ?_
     rotate_left
     ·intro w'
      go_simp
      with_reducible rfl
     rotate_left
     ·simp only [Act.put, List.setIfInBounds_toArray, List.set_cons_zero, List.set_cons_succ, Zav, Za0]
      rfl
     refine take_ (i := 0) (N := some 15) (v := ?_) (a' := ?_) #[true, true, false, false, true, false, true, false, false, false, false, false, false, false, false, false] rfl rfl (Zbj HT_.out HW_.out (by kernel_rfl)) (fun _ _ _ h => h) (Or.inl ⟨by rfl, ?_⟩) hHeld ?_ ?_
     rotate_left
     ·rintro w' ⟨s0, s1⟩
      go_simp
      with_reducible rfl
     rotate_left
     ·simp only [Act.put, List.setIfInBounds_toArray, List.set_cons_zero, List.set_cons_succ, Zav, Za0]
      rfl
     refine one_ (i := 2) (N := some 17) #[true, true, true, false, true, false, true, false, false, false, false, false, false, false, false, false] rfl rfl (Zbi HT_.out (by kernel_rfl)) (by decide) (fun K hK => ?_)
     refine event_step (W := w12) (w1 := w12.alloc (.cells #[.int .u8 107, .int .u8 97, .int .u8 117, .int .u8 100, .int .u8 105, .int .u8 116] 5)) (v := .slice (some ⟨w12.heap.size, 0, none⟩) 6 6) (by rfl) (by first | (go_simp; done) | (go_simp; rfl)) ?_
     refine hK.out _ _ ⟨(Zai (Zab BK1031.out _) 0).trans rfl, (Zai (Zab BK1031.out _) 1).trans rfl⟩ (fun hHeld => ?_)
     clear hK K
     refine norm_ (a' := ?_) ?_ ?_
     rotate_left
     ·show Act.put _ (some 17) _ = _
      simp only [Act.put, List.setIfInBounds_toArray, List.set_cons_zero, List.set_cons_succ, Zav, Za0]
      rfl
     refine one_ (i := 3) (N := some 18) #[true, true, true, true, true, false, true, false, false, false, false, false, false, false, false, false] rfl rfl (Zbi HT_.out (by kernel_rfl)) (by decide) (fun K hK => ?_)
     refine event_step (W := w12.alloc (.cells #[.int .u8 107, .int .u8 97, .int .u8 117, .int .u8 100, .int .u8 105, .int .u8 116] 5)) (w1 := w12.alloc (.cells #[.int .u8 107, .int .u8 97, .int .u8 117, .int .u8 100, .int .u8 105, .int .u8 116] 5 (6, 6 + 1))) (v := .slice (some ⟨w12.heap.size, 0, none⟩) 6 6) (by rfl) (by have kc := Lib.run_convert_bytes_const (P := Tryd.prog) w12 28 5 #[.int .u8 107, .int .u8 97, .int .u8 117, .int .u8 100, .int .u8 105, .int .u8 116] 6 6 Tryd.underlying28 Tryd.underlying5; first | (go_simp; done) | (simp only [execOp]; erw [kc]; rfl) | (simp only [execOp]; erw [kc]) | (go_simp; rw [kc]; rfl)) ?_
     obtain ⟨gc_, hgc_⟩ : ∃ g, g = w12.heap.size := ⟨_, rfl⟩
     have hgl_ : w12.heap.size < (w12.alloc (.cells #[.int .u8 107, .int .u8 97, .int .u8 117, .int .u8 100, .int .u8 105, .int .u8 116] 5 (6, 6 + 1))).heap.size := by simp
     have hgh_ : (w12.alloc (.cells #[.int .u8 107, .int .u8 97, .int .u8 117, .int .u8 100, .int .u8 105, .int .u8 116] 5 (6, 6 + 1))).heap[w12.heap.size]? = some (.cells #[.int .u8 107, .int .u8 97, .int .u8 117, .int .u8 100, .int .u8 105, .int .u8 116] 5 (6, 6 + 1)) := blk_new _ _
     have hgn_ : gb1031 < w12.heap.size := Za1 BK1031.out
     have hgb_ : w.heap.size ≤ w12.heap.size := Zae HB.out
     rw [← hgc_] at hgl_ hgh_ hgn_ hgb_ ⊢
     replace BK1031 := Zaa.mk (Zab BK1031.out (.cells #[.int .u8 107, .int .u8 97, .int .u8 117, .int .u8 100, .int .u8 105, .int .u8 116] 5 (6, 6 + 1)))
     replace HB := Zaa.mk (Zam HB.out (.cells #[.int .u8 107, .int .u8 97, .int .u8 117, .int .u8 100, .int .u8 105, .int .u8 116] 5 (6, 6 + 1)))
     clear hgc_
     generalize w12.alloc (.cells #[.int .u8 107, .int .u8 97, .int .u8 117, .int .u8 100, .int .u8 105, .int .u8 116] 5 (6, 6 + 1)) = wm_ at BK1031 HB hgl_ hgh_ ⊢
     have HOM := Zaa.mk (show RR wm_ w.heap.size (fun k_ => k_ = gc_) (.slice (some ⟨gc_, 0, none⟩) 6 6) [107, 97, 117, 100, 105, 116] from .inr ⟨gc_, _, _, rfl, rfl, hgl_, hgh_, rfl⟩)
     have HNE := Zaa.mk (Nat.ne_of_gt hgn_)
     clear hgl_ hgh_ hgn_ hgb_
     refine hK.out _ _ ⟨(Zai BK1031.out 0).trans rfl, (Zai BK1031.out 1).trans rfl⟩ (fun hHeld => ?_)
     clear hK K
     refine norm_ (a' := ?_) ?_ ?_
     rotate_left
     ·show Act.put _ (some 18) _ = _
      simp only [Act.put, List.setIfInBounds_toArray, List.set_cons_zero, List.set_cons_succ, Zav, Za0]
      rfl
     refine one_ (i := 5) (N := some 20) #[true, true, true, true, true, true, true, false, false, false, false, false, false, false, false, false] rfl rfl (Zbi HT_.out (by kernel_rfl)) (by decide) (fun K hK => ?_)
     refine goes_ Tryd.func105 (by kernel_rfl) rfl #[.slice (some ⟨gc_, 0, none⟩) 6 6, .int .i64 a1] (by rfl) rfl rfl zam ?_
     with_reducible refine (fresh_AppendNumber.callsM kj3 (fun k_ => k_ = gc_) (.slice (some ⟨gc_, 0, none⟩) 6 6) [107, 97, 117, 100, 105, 116] a1 t1035 w _ ?side1 ?side2 (by have h8_ := A8.out; rw [Ny1032.out] at h8_; exact h8_)).mono ?_
     (case side1 => repeat (first | (with_reducible first | exact HB.out | apply Zam | apply Zan | apply Zaq | refine Za9 ?_ GE1031.out) | exact HB.out))
     (case side2 => exact HOM.out)
     rintro e w16 ⟨v1036, rfl, ho0, hb, hkp⟩
     refine ⟨_, rfl, ?_⟩
     replace BK1031 := Zaa.mk (Zbp (zbk BK1031) hkp (fun hs_ => HNE.out hs_.symm))
     have HO1037 := Zaa.mk (Kd.R_mono (ok' := fun k_ => True) ho0 (fun k_ hk_ => trivial))
     replace HB := Zaa.mk (hb)
     (try clear hb)
     (try clear hkp)
     (try clear ho0)
     refine hK.out _ _ ⟨(Zai BK1031.out 0).trans rfl, (Zai BK1031.out 1).trans rfl⟩ (fun hHeld => ?_)
     clear hK K
     refine norm_ (a' := ?_) ?_ ?_
     rotate_left
     ·show Act.put _ (some 20) _ = _
      simp only [Act.put, List.setIfInBounds_toArray, List.set_cons_zero, List.set_cons_succ, Zav, Za0]
      rfl
     refine one_ (i := 7) (N := some 22) #[true, true, true, true, true, true, true, true, false, false, false, false, false, false, false, false] rfl rfl (Zbi HT_.out (by kernel_rfl)) (by decide) (fun K hK => ?_)
     refine goes_ Tryd.func108 (by kernel_rfl) rfl #[.int .u64 a2] (by rfl) rfl rfl zam ?_
     with_reducible refine (digest_Put.calls kj3 a2 t1038 _ A9.out).mono ?_
     rintro e w17 ⟨v1039, rfl, ho0, hb⟩
     refine ⟨_, rfl, ?_⟩
     have HO1040 := Zaa.mk (Kd.R_lower (Kd.R_new' ho0 (Kd.R_lt (zrk HO1037))) (Zae (zb2 HB GE1031.out)))
     replace HO1037 := Zaa.mk (Kd.R_elder' (zrk HO1037) (Kd.R_base ho0) hb)
     replace BK1031 := Zaa.mk (Zah (g := gb1031) (o := .cells #[.int .u64 a0_0, .int .u64 a0_1] 80 (0, 0)) (zbk BK1031) hb)
     replace HB := Zaa.mk (Zaf (zb2 HB GE1031.out) hb)
     (try clear hb)
     (try clear ho0)
     obtain ⟨Ao19, co19, eo19⟩ := Kd.R_slice HO1040.out
     (first | subst eo19 | (injection eo19 with f1_ f2_ f3_; have f4_ := f1_.symm; have f5_ := f3_.symm; clear f1_ f2_ f3_; subst f4_; subst f5_))
     refine hK.out _ _ ⟨(Zai BK1031.out 0).trans rfl, (Zai BK1031.out 1).trans rfl⟩ (fun hHeld => ?_)
     clear hK K
     refine norm_ (a' := ?_) ?_ ?_
     rotate_left
     ·show Act.put _ (some 22) _ = _
      simp only [Act.put, List.setIfInBounds_toArray, List.set_cons_zero, List.set_cons_succ, Zav, Za0]
      rfl
     refine one_ (i := 8) (N := some 23) #[true, true, true, true, true, true, true, true, true, false, false, false, false, false, false, false] rfl rfl (Zbi HT_.out (by kernel_rfl)) (by decide) (fun K hK => ?_)
     refine Kd.R_append_rows_step (Kd.int .u8) (w0 := w) w.heap.size (by rfl) (.tmp 20) (.tmp 22) 28 5 (.int .u8 0) 1 rfl Tryd.underlying28 info5 rfl (by decide) (by omega) v1036 t1035 t1038 _ _ _ (fun k_ => some k_ ≠ (.slice Ao19 t1038.length co19 : Value).ownBlock) (fun _ => False) rfl rfl ?aO ?aR (fun _ _ h => h) (fun _ h => h.elim) ?aF ?aB ?aS ?aL ?_
     (case aR => repeat (first | exact (Kd.R_reads' HO1040.out).2.2 | (with_reducible refine Kd.C_alloc ?_ _) | (with_reducible refine Kd.C_drewN ?_ _) | (with_reducible refine Kd.C_drew ?_)))
     (case aB => exact (zb2 HB GE1031.out))
     (case aF => exact (fun k_ hk => Kd.fresh' (Kd.R_lt (zrk HO1040)) k_ hk))
     (case aO => exact (by (with_reducible repeat (first | apply Kd.R_alloc | apply Kd.R_drewN | apply Kd.R_drew)); exact Kd.R_mono HO1037.out (fun _ hk => hk.2)))
     (case aS => exact (Zae (zb2 HB GE1031.out)))
     (case aL => have := LMc10.out; omega)
     intro v1042 w18 ho hb hg hat
     rw [← Ny1041.out] at ho
     replace BK1031 := Zaa.mk (Zbl (g := gb1031) (o := .cells #[.int .u64 a0_0, .int .u64 a0_1] 80 (0, 0)) (zbk BK1031) hg (Kd.R_ne HO1037.out BK1031.out (by decide)))
     replace HO1040 := Zaa.mk (Kd.R_after (ok := (fun _ => True)) (zrk HO1040) hg hat)
     replace HB := Zaa.mk (hb)
     have HO1043 := Zaa.mk (ho)
     clear HO1037 ho hb hg hat
     obtain ⟨Ao20, co20, eo20⟩ := Kd.R_slice HO1043.out
     (first | subst eo20 | (injection eo20 with f1_ f2_ f3_; have f4_ := f1_.symm; have f5_ := f3_.symm; clear f1_ f2_ f3_; subst f4_; subst f5_))
     refine hK.out _ _ ⟨(Zai BK1031.out 0).trans rfl, (Zai BK1031.out 1).trans rfl⟩ (fun hHeld => ?_)
     clear hK K
     refine norm_ (a' := ?_) ?_ ?_
     rotate_left
     ·show Act.put _ (some 23) _ = _
      simp only [Act.put, List.setIfInBounds_toArray, List.set_cons_zero, List.set_cons_succ, Zav, Za0]
      rfl
     refine one_ (i := 9) (N := some 24) #[true, true, true, true, true, true, true, true, true, true, false, false, false, false, false, false] rfl rfl (Zbi HT_.out (by kernel_rfl)) (by decide) (fun K hK => ?_)
     refine goes_ Tryd.func60 (by kernel_rfl) rfl #[.agg #[.int .u64 a0_0, .int .u64 a0_1], .int .u64 a2, .slice Ao20 y1041.length co20] (by rfl) rfl rfl zam ?_
     with_reducible refine (logfile_Frame.calls kj3 a0_0 a0_1 a2 _ _ y1041 t1044 t1047 t1048 _ ?side1 ?side2 A11.out).mono ?_
     (case side1 => repeat (first | exact (Kd.R_reads' HO1043.out).2.2 | (with_reducible refine Kd.C_alloc ?_ _) | (with_reducible refine Kd.C_drewN ?_ _) | (with_reducible refine Kd.C_drew ?_)))
     (case side2 => exact (Kd.R_reads' HO1043.out).2.1)
     rintro e w21 ⟨v1045, rfl, ho0, hb⟩
     refine ⟨_, rfl, ?_⟩
     have HO1046 := Zaa.mk (Kd.R_lower (Kd.R_new' (Kd.R_new' ho0 (Kd.R_lt (zrk HO1040))) (Kd.R_lt (zrk HO1043))) (Zae (zb2 HB GE1031.out)))
     replace HO1040 := Zaa.mk (Kd.R_elder' (zrk HO1040) (Kd.R_base ho0) hb)
     replace HO1043 := Zaa.mk (Kd.R_elder' (zrk HO1043) (Kd.R_base ho0) hb)
     replace BK1031 := Zaa.mk (Zah (g := gb1031) (o := .cells #[.int .u64 a0_0, .int .u64 a0_1] 80 (0, 0)) (zbk BK1031) hb)
     replace HB := Zaa.mk (Zaf (zb2 HB GE1031.out) hb)
     (try clear hb)
     (try clear hk)
     (try clear ho0)
     refine hK.out _ _ ⟨(Zai BK1031.out 0).trans rfl, (Zai BK1031.out 1).trans rfl⟩ (fun hHeld => ?_)
     clear hK K
     refine norm_ (a' := ?_) ?_ ?_
     rotate_left
     ·show Act.put _ (some 24) _ = _
      simp only [Act.put, List.setIfInBounds_toArray, List.set_cons_zero, List.set_cons_succ, Zav, Za0]
      rfl
     refine Za8 (i := 10) (N := some 25) (v := ?_) (a' := ?_) #[true, true, true, true, true, true, true, true, true, true, true, false, false, false, false, false] rfl rfl (Za7 HT_.out (by kernel_rfl)) (fun _ _ _ h => h) (Or.inl ⟨by rfl, ?_⟩) ?_ ?_
     rotate_left
     ·intro w'
      go_simp
      with_reducible rfl
     rotate_left
     ·simp only [Act.put, List.setIfInBounds_toArray, List.set_cons_zero, List.set_cons_succ, Zav, Za0]
      rfl
     refine Za8 (i := 11) (N := some 26) (v := ?_) (a' := ?_) #[true, true, true, true, true, true, true, true, true, true, true, true, false, false, false, false] rfl rfl (Za7 HT_.out (by kernel_rfl)) (fun _ _ _ h => h) (Or.inl ⟨by rfl, ?_⟩) ?_ ?_
     rotate_left
     ·intro w'
      go_simp
      with_reducible rfl
     rotate_left
     ·simp only [Act.put, List.setIfInBounds_toArray, List.set_cons_zero, List.set_cons_succ, Zav, Za0]
      rfl
     refine Za8 (i := 12) (N := some 27) (v := ?_) (a' := ?_) #[true, true, true, true, true, true, true, true, true, true, true, true, true, false, false, false] rfl rfl (Za7 HT_.out (by kernel_rfl)) (fun _ _ _ h => h) (Or.inl ⟨by rfl, ?_⟩) ?_ ?_
     rotate_left
     ·intro w'
      go_simp
      with_reducible rfl
     rotate_left
     ·simp only [Act.put, List.setIfInBounds_toArray, List.set_cons_zero, List.set_cons_succ, Zav, Za0]
      rfl
     refine Za8 (i := 13) (N := some 6) (v := ?_) (a' := ?_) #[true, true, true, true, true, true, true, true, true, true, true, true, true, true, false, false] rfl rfl (Za7 HT_.out (by kernel_rfl)) (fun _ _ _ h => h) (Or.inl ⟨by rfl, ?_⟩) ?_ ?_
     rotate_left
     ·intro w'
      go_simp
      with_reducible rfl
     rotate_left
     ·simp only [Act.put, List.setIfInBounds_toArray, List.set_cons_zero, List.set_cons_succ, Zav, Za0]
      rfl
     refine Za8 (i := 14) (N := some 7) (v := ?_) (a' := ?_) #[true, true, true, true, true, true, true, true, true, true, true, true, true, true, true, false] rfl rfl (Za7 HT_.out (by kernel_rfl)) (fun _ _ _ h => h) (Or.inl ⟨by rfl, ?_⟩) ?_ ?_
     rotate_left
     ·intro w'
      go_simp
      with_reducible rfl
     rotate_left
     ·simp only [Act.put, List.setIfInBounds_toArray, List.set_cons_zero, List.set_cons_succ, Zav, Za0]
      rfl
     refine Za8 (i := 15) (N := some 8) (v := ?_) (a' := ?_) #[true, true, true, true, true, true, true, true, true, true, true, true, true, true, true, true] rfl rfl (Za7 HT_.out (by kernel_rfl)) (fun _ _ _ h => h) (Or.inl ⟨by rfl, ?_⟩) ?_ ?_
     rotate_left
     ·intro w'
      go_simp
      with_reducible rfl
     rotate_left
     ·simp only [Act.put, List.setIfInBounds_toArray, List.set_cons_zero, List.set_cons_succ, Zav, Za0]
      rfl
     refine done_ (done_of HT_.out (by kernel_rfl)) ?_
     try go_wp2
     go_ret3
     exact ⟨_, by first | rfl | (simp [errW_none, errW_some] <;> rfl) | (simp [*, errW_none, errW_some] <;> rfl), by (with_reducible repeat (first | apply Kd.R_alloc | apply Kd.R_drewN | apply Kd.R_drew)); exact Kd.R_mono HO1046.out (fun _ hk => trivial), (zb2 HB GE1031.out)⟩
    ·rw [if_neg c10] at H
     exact absurd H (by simp)
end Go.Proofs.YtkfddpbmclbdhaaDoor.PA
end
section
namespace Go.Proofs.YtkfddpbmclbdhaaDoor.PA
open Go.RowKit Go.Proofs.YtkfddpbmclbdhaaDoorW.PrintWords Go.Proofs.YtkfddpbmclbdhaaDoorW.PrintLast Go.Proofs.YtkfddpbmclbdhaaDoorW.PrintMore
attribute [local go_sem] Zaz Zax Za5 Za4 Zas Zar Zay Zaw   -- for this text's walks alone
set_option linter.unusedVariables false
set_option linter.unusedSimpArgs false
def kauditref23_Put.l0 : Nat → Int → List Int → Int → Option (List Int)
 | 0, _, _, _ => none
 | k + 1, x0, x3, x4 => if x4 ≥ 0 then (if 0 ≤ (wrap64 (8 * x4)) then (if x3.length < 140737488355328 then (kauditref23_Put.l0 k x0 (x3 ++ [(shr .u64 x0 (wrap64 (8 * x4))) % 256]) (wrap64 (x4 - 1))) else (none)) else (none)) else (some x3)
def kauditref23_Put.f (k : Nat) (a0 : Int) : Option (List Int) := kauditref23_Put.l0 k a0 ([] : List Int) 7
theorem kauditref23_Put.mono_l : ∀ k, (∀ y0 y1 y2, LeO (kauditref23_Put.l0 k y0 y1 y2) (kauditref23_Put.l0 (k + 1) y0 y1 y2))
 | 0 => fun _ _ _ r h => by simp [kauditref23_Put.l0] at h
 | k + 1 => by
  have ih0 := kauditref23_Put.mono_l k
  ·intro y0 y1 y2
   unfold kauditref23_Put.l0
   repeat' first
   | (with_reducible exact ih0 _ _ _)
   | (with_reducible exact LeO.refl _)
   | (with_reducible exact LeO.none _)
   | (with_reducible refine LeO.ite ?_ ?_)
   | (with_reducible refine LeO.bind ?_ (fun _ => ?_))
   | exact ih0 _ _ _
   | exact LeO.none _
   | refine LeO.ite ?_ ?_
   | refine LeO.bind ?_ (fun _ => ?_)
theorem kauditref23_Put.mono : ∀ a0 k, LeO (kauditref23_Put.f k a0) (kauditref23_Put.f (k + 1) a0) := by
 intro a0 k
 have ih0 := kauditref23_Put.mono_l k
 unfold kauditref23_Put.f
 repeat' first
   | (with_reducible exact ih0 _ _ _)
   | (with_reducible exact LeO.refl _)
   | (with_reducible exact LeO.none _)
   | (with_reducible refine LeO.ite ?_ ?_)
   | (with_reducible refine LeO.bind ?_ (fun _ => ?_))
   | exact ih0 _ _ _
   | exact LeO.none _
   | refine LeO.ite ?_ ?_
   | refine LeO.bind ?_ (fun _ => ?_)
set_option maxHeartbeats 8000000 in
set_option maxRecDepth 100000 in
theorem kauditref23_Put.calls (k : Nat) (a0 : Int) (r : List Int) (w : World) (h : kauditref23_Put.f k a0 = some r) :
  Calls Tryd.prog 110 #[.int .u64 a0] w fun e w' => ∃ v0_ : Value, e = .returned (v0_) ∧ Kd.R (Kd.int .u8) 5 w' w.heap.size (fun _ => True) v0_ r ∧ Below w.heap.size w w' := by
 have HB := Zaa.mk (Below.refl w.heap.size w)
 unfold kauditref23_Put.f at h
 have H := h
 clear h
 have H' := Zaa.mk H
 clear H
 go_enter Tryd.func110, Tryd.ntmps110
 go_wp2
 go_loopg [3, 4] k (fun kq v3 v4 w' => ∃ (x3_1 : List Int) (x4_1 : Int), v4 = .int .i64 x4_1 ∧ Zaa (kauditref23_Put.l0 kq a0 x3_1 x4_1 = some r) ∧ Zaa (kq ≤ k) ∧ Zaa (Kd.R (Kd.int .u8) 5 w' w.heap.size (fun _ => True) v3 x3_1) ∧ Zaa (Below w.heap.size w w'))
 case atStart => exact ⟨(([] : List Int)), (7), (by first | rfl | (simp; done) | (simp [*]; done)), H', ⟨Nat.le_refl _⟩, ⟨by first | exact Kd.R_nil _ _ _ _ _ | exact Kd.N_nil _ _ _ _ _ | exact Kd.V_nil _ _ _ _ _ | exact Kd.Q_nil _ _ _ _ _ | exact Kd.S_nil _ _ _ _ _⟩, ⟨(zb1 HB)⟩⟩
 case round =>
  clear H'
  obtain ⟨x3_1, x4_1, rfl, HA, HK1, HO_3, HB⟩ := hrel
  cases gk with
  | zero => exact absurd HA.out (by simp [kauditref23_Put.l0])
  | succ k1 =>
   have H := HA.out
   clear HA
   simp only [kauditref23_Put.l0] at H
   by_cases c2 : x4_1 ≥ 0
   ·rw [if_pos c2] at H
    have c2b0 : decide (0 ≤ x4_1) = true := decide_eq_true c2
    clear c2
    obtain ⟨ji3, hji3⟩ : ∃ j_ : Int, (wrap64 (8 * x4_1)) = j_ := ⟨_, rfl⟩
    replace H : (if 0 ≤ (ji3) then (if x3_1.length < 140737488355328 then (kauditref23_Put.l0 k1 a0 (x3_1 ++ [(shr .u64 a0 (ji3)) % 256]) (wrap64 (x4_1 - 1))) else (none)) else (none)) = some r := by first | (rw [hji3] at H; exact H) | (simp only [hji3] at H ⊢; exact H)
    have hji3w : (IntKind.i64.wrap (8 * x4_1)) = ji3 := (Zav _).trans hji3
    by_cases c4 : 0 ≤ (ji3)
    ·rw [if_pos c4] at H
     have c4b0 := eq_true c4
     have c4b1 : decide (0 ≤ (ji3)) = true := decide_eq_true c4
     clear c4
     obtain ⟨ji5, hji5⟩ : ∃ j_ : Int, (shr .u64 a0 (ji3)) = j_ := ⟨_, rfl⟩
     replace H : (if x3_1.length < 140737488355328 then (kauditref23_Put.l0 k1 a0 (x3_1 ++ [(ji5) % 256]) (wrap64 (x4_1 - 1))) else (none)) = some r := by first | (rw [hji5] at H; exact H) | (simp only [hji5] at H ⊢; exact H)
     have hji5_ : (a0 / 2 ^ min (ji3).toNat 64) = ji5 := hji5
     have hji5z : (ji3) ≤ 64 → (a0 / 2 ^ (ji3).toNat) = ji5 := shr_small hji5
     by_cases c6 : x3_1.length < 140737488355328
     ·rw [if_pos c6] at H
      have LMc6 := Zaa.mk c6
      clear c6
      obtain ⟨y977, hy977⟩ : ∃ y_ : List Int, y_ = (x3_1 ++ [(ji5) % 256]) := ⟨_, rfl⟩
      replace H : (kauditref23_Put.l0 k1 a0 y977 (wrap64 (x4_1 - 1))) = some r := by first | (rw [hy977]; with_reducible exact H) | (have H2_ := (Option.bind_some _ _).symm.trans H; rw [hy977]; with_reducible exact H2_) | (have H2_ := (Option.bind_some _ _).symm.trans H; with_reducible exact H2_) | with_reducible exact H | (rw [hy977]; exact H) | exact H
      have Ny977 := Zaa.mk hy977
      clear hy977
      have H' := Zaa.mk H
      clear H
      go_wp2_with (first | ((with_reducible refine Zba (b := .append) (xs := #[.tmp 9, .tmp 15]) rfl ?_); at_builtin; refine Kd.R_append (Kd.int .u8) (w0 := w) w.heap.size rfl (.tmp 9) (.tmp 15) 28 5 (.int .u8 0) 1 rfl Tryd.underlying28 info5 rfl (by decide) (by omega) u3 x3_1 ((ji5) % 256) [.int .u8 ((ji5) % 256)] (fun _ => True) (fun _ => False) rfl rfl ?aP (fun _ hk => hk.elim) ?aF ?aO ?aB ?aS ?aL ?_; (case aP => exact rfl); (case aB => exact (zb1 HB)); (case aF => exact (fun _ _ => trivial)); (case aO => exact (zrk HO_3)); (case aS => exact (Zae (zb1 HB))); (case aL => have := LMc6.out; omega); intro v978 w7 ho hb hg hat; rw [← Ny977.out] at ho; replace HB := Zaa.mk (hb); have HO979 := Zaa.mk (ho); clear HO_3 ho hb hg hat))
      go_roundg k1
      case measure => have := HK1.out; omega
      case rel => exact ⟨(y977), (wrap64 (x4_1 - 1)), (by first | rfl | (simp; done) | (simp [*]; done)), H', ⟨by have := HK1.out; omega⟩, ⟨by (with_reducible repeat (first | apply Kd.R_alloc | apply Kd.R_drewN | apply Kd.R_drew)); exact HO979.out⟩, ⟨(zb1 HB)⟩⟩
     ·rw [if_neg c6] at H
      exact absurd H (by simp)
    ·rw [if_neg c4] at H
     exact absurd H (by simp)
   ·rw [if_neg c2] at H
    have c2b0 : decide (0 ≤ x4_1) = false := decide_eq_false c2
    clear c2
    obtain rfl := Option.some.inj H
    go_wp2
    go_ret
    exact ⟨_, by first | rfl | (simp [errW_none, errW_some] <;> rfl) | (simp [*, errW_none, errW_some] <;> rfl), by (with_reducible repeat (first | apply Kd.R_alloc | apply Kd.R_drewN | apply Kd.R_drew)); exact HO_3.out, (zb1 HB)⟩
end Go.Proofs.YtkfddpbmclbdhaaDoor.PA
end
