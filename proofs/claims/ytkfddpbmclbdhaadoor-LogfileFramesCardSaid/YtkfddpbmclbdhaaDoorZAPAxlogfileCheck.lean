/- Contracts of functions of the program: written by pr2.py (ours, round the print of the kit) out of the translation; conditions: each contract names its own. -/
import Derived.Test.YtkfddpbmclbdhaaDoorZAECheck
section
namespace Go.Proofs.YtkfddpbmclbdhaaDoor.PA
open Go.RowKit Go.Proofs.YtkfddpbmclbdhaaDoorW.PrintWords Go.Proofs.YtkfddpbmclbdhaaDoorW.PrintLast Go.Proofs.YtkfddpbmclbdhaaDoorW.PrintMore
attribute [local go_sem] Zaz Zax Za5 Za4 Zas Zar Zay Zaw   -- for this text's walks alone
set_option linter.unusedVariables false
set_option linter.unusedSimpArgs false
def kauditref24_SameBytes.f (l0 : List Int) (l1 : List Int) : Option (Bool) := some ((strOfNums l0).toList == (strOfNums l1).toList)
set_option maxHeartbeats 8000000 in
set_option maxRecDepth 100000 in
theorem kauditref24_SameBytes.calls (A0 : Option Addr) (c0 : Nat) (l0 : List Int) (A1 : Option Addr) (c1 : Nat) (l1 : List Int) (r : Bool) (w : World) (hr0 : Kd.C (Kd.int .u8) w A0 l0.length l0) (hc0 : l0.length ≤ c0) (hr1 : Kd.C (Kd.int .u8) w A1 l1.length l1) (hc1 : l1.length ≤ c1) (h : kauditref24_SameBytes.f l0 l1 = some r) :
  Calls Tryd.prog 59 #[.slice A0 l0.length c0, .slice A1 l1.length c1] w fun e w' => e = .returned (.bool r) ∧ Zat w w' := by
 have HR0 := Zaa.mk hr0
 have HC0 := Zaa.mk hc0
 clear hr0 hc0
 have HR1 := Zaa.mk hr1
 have HC1 := Zaa.mk hc1
 clear hr1 hc1
 unfold kauditref24_SameBytes.f at h
 have H := h
 clear h
 obtain rfl := Option.some.inj H
 have hcv3 := Kd.C_string (P := Tryd.prog) (A := A0) (c := c0) Tryd.underlying28 Tryd.underlying5 Tryd.underlying9 HR0.out
 have hcv4 := Kd.C_string (P := Tryd.prog) (A := A1) (c := c1) Tryd.underlying28 Tryd.underlying5 Tryd.underlying9 HR1.out
 go_enter Tryd.func59, Tryd.ntmps59
 go_wp2
 go_ret
 exact ⟨by first | rfl | (simp; done) | (simp [*]; done), by repeat (first | exact Zat.refl _ | apply Zat.step)⟩
end Go.Proofs.YtkfddpbmclbdhaaDoor.PA
end
section
namespace Go.Proofs.YtkfddpbmclbdhaaDoor.PA
open Go.RowKit Go.Proofs.YtkfddpbmclbdhaaDoorW.PrintWords Go.Proofs.YtkfddpbmclbdhaaDoorW.PrintLast Go.Proofs.YtkfddpbmclbdhaaDoorW.PrintMore
attribute [local go_sem] Zaz Zax Za5 Za4 Zas Zar Zay Zaw   -- for this text's walks alone
set_option linter.unusedVariables false
set_option linter.unusedSimpArgs false
theorem eqA60 (d : Nat) (w : World) (x0 y0 : Int) (x1 y1 : Int) (x2 y2 : Int) (x3 y3 : Int) :
  (Op.equalIn (d + 2) 60 (.agg #[.int .i64 x0, .int .i64 x1, .int .i64 x2, .int .i64 x3]) (.agg #[.int .i64 y0, .int .i64 y1, .int .i64 y2, .int .i64 y3])).run Tryd.prog w = .ok (x0 == y0 && (x1 == y1 && (x2 == y2 && (x3 == y3)))) w := by
 refine eqA_of Tryd.underlying60 (by kernel_rfl) ?_
 refine eqf_cons (by rfl) (by go_simp; rfl) (by go_simp; rfl) (by go_simp) ?_
 refine eqf_cons (by rfl) (by go_simp; rfl) (by go_simp; rfl) (by go_simp) ?_
 refine eqf_cons (by rfl) (by go_simp; rfl) (by go_simp; rfl) (by go_simp) ?_
 exact eqf_last (by rfl) (by go_simp; rfl) (by go_simp; rfl) (by go_simp)
end Go.Proofs.YtkfddpbmclbdhaaDoor.PA
end
section
namespace Go.Proofs.YtkfddpbmclbdhaaDoor.PA
open Go.RowKit Go.Proofs.YtkfddpbmclbdhaaDoorW.PrintWords Go.Proofs.YtkfddpbmclbdhaaDoorW.PrintLast Go.Proofs.YtkfddpbmclbdhaaDoorW.PrintMore
attribute [local go_sem] Zaz Zax Za5 Za4 Zas Zar Zay Zaw   -- for this text's walks alone
set_option linter.unusedVariables false
set_option linter.unusedSimpArgs false
mutual
def logfile_CheckEvent.j0 : Nat → Int → Bool → Int → Int → Int → List (S43) → Bool → Option (Int)
 | 0, _, _, _, _, _, _, _ => none
 | k + 1, x3, x45, x851000, x851001, x851002, x851003, x851004 => if x45 = true then (some 251) else (logfile_CheckEvent.l0 k x3 false x851003 (x851003.length : Int) 0 x851000 x851001 x851002 x851003 x851004)
def logfile_CheckEvent.l0 : Nat → Int → Bool → List (S43) → Int → Int → Int → Int → Int → List (S43) → Bool → Option (Int)
 | 0, _, _, _, _, _, _, _, _, _, _ => none
 | k + 1, x3, x4, x47, x48, x49, x851000, x851001, x851002, x851003, x851004 => if x49 < x48 then (if 0 ≤ x49 then (if x49 < (x47.length : Int) then ((record_Check.f ((Zag x47 x49).f0) ((Zag x47 x49).f1) ((Zag x47 x49).f2) ((Zag x47 x49).f3)).bind fun t855 => (if t855 = 0 then (if ((Zag x47 x49).f2) = x851001 then (if ((Zag x47 x49).f0) = 1320 then (if x49 < (wrap64 (x3 - 1)) then (some 251) else (if x4 = true then (logfile_CheckEvent.l0 k x3 true x47 x48 (wrap64 (x49 + 1)) x851000 x851001 x851002 x851003 x851004) else ((record_Single.f ((Zag x47 x49).f0)).bind fun t856 => (logfile_CheckEvent.l0 k x3 t856 x47 x48 (wrap64 (x49 + 1)) x851000 x851001 x851002 x851003 x851004)))) else (if x4 = true then (logfile_CheckEvent.l0 k x3 true x47 x48 (wrap64 (x49 + 1)) x851000 x851001 x851002 x851003 x851004) else ((record_Single.f ((Zag x47 x49).f0)).bind fun t857 => (logfile_CheckEvent.l0 k x3 t857 x47 x48 (wrap64 (x49 + 1)) x851000 x851001 x851002 x851003 x851004)))) else (some 251)) else (some 251))) else (none)) else (none)) else (if x4 = true then (if x3 > 1 then (some 251) else (if (x851004 != true) = true then (some 251) else (some 0))) else (if 0 ≤ (wrap64 (x3 - 1)) then (if (wrap64 (x3 - 1)) < (x851003.length : Int) then (if (x851004 != (((Zag x851003 (wrap64 (x3 - 1))).f0) == 1320)) = true then (some 251) else (some 0)) else (none)) else (none)))
end
def logfile_CheckEvent.f (k : Nat) (a0_0 : Int) (a0_1 : Int) (a0_2 : Int) (l0_3 : List (S43)) (a0_4 : Bool) : Option (Int) := if a0_0 < 1 then (logfile_CheckEvent.j0 k (l0_3.length : Int) true a0_0 a0_1 a0_2 l0_3 a0_4) else (if a0_0 > 1048576 then (logfile_CheckEvent.j0 k (l0_3.length : Int) true a0_0 a0_1 a0_2 l0_3 a0_4) else (if a0_1 < 1 then (logfile_CheckEvent.j0 k (l0_3.length : Int) true a0_0 a0_1 a0_2 l0_3 a0_4) else (if a0_1 > 1073741824 then (logfile_CheckEvent.j0 k (l0_3.length : Int) true a0_0 a0_1 a0_2 l0_3 a0_4) else (if (l0_3.length : Int) < 1 then (logfile_CheckEvent.j0 k (l0_3.length : Int) true a0_0 a0_1 a0_2 l0_3 a0_4) else (if (l0_3.length : Int) > 5 then (logfile_CheckEvent.j0 k (l0_3.length : Int) true a0_0 a0_1 a0_2 l0_3 a0_4) else (if 0 < (l0_3.length : Int) then (logfile_CheckEvent.j0 k (l0_3.length : Int) (a0_2 != ((Zag l0_3 0).f1)) a0_0 a0_1 a0_2 l0_3 a0_4) else (none)))))))
theorem logfile_CheckEvent.mono_l : ∀ k, (∀ y0 y1 y2 y3 y4 y5 y6, LeO (logfile_CheckEvent.j0 k y0 y1 y2 y3 y4 y5 y6) (logfile_CheckEvent.j0 (k + 1) y0 y1 y2 y3 y4 y5 y6)) ∧ (∀ y0 y1 y2 y3 y4 y5 y6 y7 y8 y9, LeO (logfile_CheckEvent.l0 k y0 y1 y2 y3 y4 y5 y6 y7 y8 y9) (logfile_CheckEvent.l0 (k + 1) y0 y1 y2 y3 y4 y5 y6 y7 y8 y9))
 | 0 => ⟨fun _ _ _ _ _ _ _ r h => by simp [logfile_CheckEvent.j0] at h, fun _ _ _ _ _ _ _ _ _ _ r h => by simp [logfile_CheckEvent.l0] at h⟩
 | k + 1 => by
  obtain ⟨ih0, ih1⟩ := logfile_CheckEvent.mono_l k
  refine ⟨?_, ?_⟩
  ·intro y0 y1 y2 y3 y4 y5 y6
   unfold logfile_CheckEvent.j0
   repeat' first
   | (with_reducible exact ih0 _ _ _ _ _ _ _)
   | (with_reducible exact ih1 _ _ _ _ _ _ _ _ _ _)
   | (with_reducible exact LeO.refl _)
   | (with_reducible exact LeO.none _)
   | (with_reducible refine LeO.ite ?_ ?_)
   | (with_reducible refine LeO.bind ?_ (fun _ => ?_))
   | exact ih0 _ _ _ _ _ _ _
   | exact ih1 _ _ _ _ _ _ _ _ _ _
   | exact LeO.none _
   | refine LeO.ite ?_ ?_
   | refine LeO.bind ?_ (fun _ => ?_)
  ·intro y0 y1 y2 y3 y4 y5 y6 y7 y8 y9
   unfold logfile_CheckEvent.l0
   repeat' first
   | (with_reducible exact ih0 _ _ _ _ _ _ _)
   | (with_reducible exact ih1 _ _ _ _ _ _ _ _ _ _)
   | (with_reducible exact LeO.refl _)
   | (with_reducible exact LeO.none _)
   | (with_reducible refine LeO.ite ?_ ?_)
   | (with_reducible refine LeO.bind ?_ (fun _ => ?_))
   | exact ih0 _ _ _ _ _ _ _
   | exact ih1 _ _ _ _ _ _ _ _ _ _
   | exact LeO.none _
   | refine LeO.ite ?_ ?_
   | refine LeO.bind ?_ (fun _ => ?_)
theorem logfile_CheckEvent.mono : ∀ a0 a1 a2 a3 a4 k, LeO (logfile_CheckEvent.f k a0 a1 a2 a3 a4) (logfile_CheckEvent.f (k + 1) a0 a1 a2 a3 a4) := by
 intro a0 a1 a2 a3 a4 k
 obtain ⟨ih0, ih1⟩ := logfile_CheckEvent.mono_l k
 unfold logfile_CheckEvent.f
 repeat' first
   | (with_reducible exact ih0 _ _ _ _ _ _ _)
   | (with_reducible exact ih1 _ _ _ _ _ _ _ _ _ _)
   | (with_reducible exact LeO.refl _)
   | (with_reducible exact LeO.none _)
   | (with_reducible refine LeO.ite ?_ ?_)
   | (with_reducible refine LeO.bind ?_ (fun _ => ?_))
   | exact ih0 _ _ _ _ _ _ _
   | exact ih1 _ _ _ _ _ _ _ _ _ _
   | exact LeO.none _
   | refine LeO.ite ?_ ?_
   | refine LeO.bind ?_ (fun _ => ?_)
set_option maxHeartbeats 8000000 in
set_option maxRecDepth 100000 in
theorem logfile_CheckEvent.calls (k : Nat) (a0_0 : Int) (a0_1 : Int) (a0_2 : Int) (A0_3 : Option Addr) (c0_3 : Nat) (l0_3 : List (S43)) (a0_4 : Bool) (r : Int) (w : World) (hG : GT 2 w) (hr0_3 : Kd.C k43 w A0_3 l0_3.length l0_3) (hc0_3 : l0_3.length ≤ c0_3) (h : logfile_CheckEvent.f k a0_0 a0_1 a0_2 l0_3 a0_4 = some r) :
  Calls Tryd.prog 52 #[.agg #[.int .i64 a0_0, .int .i64 a0_1, .int .i64 a0_2, .slice A0_3 l0_3.length c0_3, .bool a0_4]] w fun e w' => e = .returned (.int .i64 r) ∧ Below w.heap.size w w' := by
 have hu58 := Tryd.underlying58
 have hu43 := Tryd.underlying43
 have HR0_3 := Zaa.mk hr0_3
 have HC0_3 := Zaa.mk hc0_3
 clear hr0_3 hc0_3
 have HG := Zaa.mk hG
 clear hG
 have HB := Zaa.mk (Below.refl w.heap.size w)
 unfold logfile_CheckEvent.f at h
 have H := h
 clear h
 have HC2 := Zaa.mk H
 clear H
 go_enter Tryd.func52, Tryd.ntmps52
 go_upto_region 2 with (first | ((with_reducible refine Zao (N := 1) rfl ?_); refine Zap ?hg (N := 1) ?hd (cs := #[.int .i64 a0_0, .int .i64 a0_1, .int .i64 a0_2, .slice A0_3 l0_3.length c0_3, .bool a0_4]) (t := 58) ?hr ?_; (case hd => rfl); (case hg => rfl); (case hr => first | (go_simp; done) | (go_simp; rfl)); intro gb850 hg w3 hbox hb; have BK850 := Zaa.mk (hbox); have GW850 := Zaa.mk ((by rw [hg]; exact (Zae (zb1 HB)) : w.heap.size ≤ gb850)); have GE850 := Zaa.mk ((by rw [hg]; exact (Zae (zb1 HB)) : w.heap.size ≤ gb850)); replace HB := Zaa.mk (Zaf (zb1 HB) hb); clear hb hbox hg; obtain ⟨hcz4_0, hcz4_1, hcz4_2, hcz4_3, hcz4_4⟩ := bc5 BK850.out; obtain ⟨hfz4_0, hfz4_1, hfz4_2, hfz4_3, hfz4_4⟩ := bf5 BK850.out))
 repeat (go_quiet (first | ((with_reducible refine Zao (N := 1) rfl ?_); refine Zap ?hg (N := 1) ?hd (cs := #[.int .i64 a0_0, .int .i64 a0_1, .int .i64 a0_2, .slice A0_3 l0_3.length c0_3, .bool a0_4]) (t := 58) ?hr ?_; (case hd => rfl); (case hg => rfl); (case hr => first | (go_simp; done) | (go_simp; rfl)); intro gb850 hg w3 hbox hb; have n0_ := Zaa.mk (Zaf (zb1 HB) hb); have n1_ := Zaa.mk (hbox); have n2_ := Zaa.mk ((by rw [hg]; exact (Zae (zb1 HB)) : w.heap.size ≤ gb850)); have n3_ := Zaa.mk ((by rw [hg]; exact (Zae (zb1 HB)) : w.heap.size ≤ gb850)); clear HB; have HB := n0_; have BK850 := n1_; have GW850 := n2_; have GE850 := n3_; clear n0_ n1_ n2_ n3_; clear hb hbox hg; obtain ⟨hcz4_0, hcz4_1, hcz4_2, hcz4_3, hcz4_4⟩ := bc5 BK850.out; obtain ⟨hfz4_0, hfz4_1, hfz4_2, hfz4_3, hfz4_4⟩ := bf5 BK850.out)); go_upto_region 2 with (first | ((with_reducible refine Zao (N := 1) rfl ?_); refine Zap ?hg (N := 1) ?hd (cs := #[.int .i64 a0_0, .int .i64 a0_1, .int .i64 a0_2, .slice A0_3 l0_3.length c0_3, .bool a0_4]) (t := 58) ?hr ?_; (case hd => rfl); (case hg => rfl); (case hr => first | (go_simp; done) | (go_simp; rfl)); intro gb850 hg w3 hbox hb; have n0_ := Zaa.mk (Zaf (zb1 HB) hb); have n1_ := Zaa.mk (hbox); have n2_ := Zaa.mk ((by rw [hg]; exact (Zae (zb1 HB)) : w.heap.size ≤ gb850)); have n3_ := Zaa.mk ((by rw [hg]; exact (Zae (zb1 HB)) : w.heap.size ≤ gb850)); clear HB; have HB := n0_; have BK850 := n1_; have GW850 := n2_; have GE850 := n3_; clear n0_ n1_ n2_ n3_; clear hb hbox hg; obtain ⟨hcz4_0, hcz4_1, hcz4_2, hcz4_3, hcz4_4⟩ := bc5 BK850.out; obtain ⟨hfz4_0, hfz4_1, hfz4_2, hfz4_3, hfz4_4⟩ := bf5 BK850.out)))
 (try simp only [Act.put, List.setIfInBounds_toArray, List.set_cons_zero, List.set_cons_succ])
 go_cut [45] (fun v45 wc => ∃ (kq : Nat) (x45_1 : Bool), v45 = .bool x45_1 ∧ Zaa (logfile_CheckEvent.j0 kq (l0_3.length : Int) x45_1 a0_0 a0_1 a0_2 l0_3 a0_4 = some r) ∧ Zaa (kq ≤ k) ∧ Zaa (wc.heap[gb850]? = some (.cells #[.int .i64 a0_0, .int .i64 a0_1, .int .i64 a0_2, (.slice A0_3 l0_3.length c0_3), .bool a0_4] 58 (0, 0))) ∧ Zaa (Below w.heap.size w wc))
 case first =>
  have H := HC2.out
  clear HC2
  by_cases c5 : a0_0 < 1
  ·rw [if_pos c5] at H
   have c5b0 : decide (a0_0 < 1) = true := decide_eq_true c5
   clear c5
   (first | rw [c5b0] | (simp only [Zav, Za0]; rw [c5b0]) | skip)
   have H' := Zaa.mk H
   clear H
   obtain ⟨hcz6_0, hcz6_1, hcz6_2, hcz6_3, hcz6_4⟩ := bc5 BK850.out
   obtain ⟨hfz6_0, hfz6_1, hfz6_2, hfz6_3, hfz6_4⟩ := bf5 BK850.out
   go_wp2
   repeat (go_quiet (fail); try go_wp2)
   go_meet
   case rel => exact ⟨_, (true), (by first | rfl | (simp; done) | (simp [*]; done)), H', ⟨by first | omega | exact Nat.le_refl _⟩, ⟨by (with_reducible repeat (first | refine Zac ?_ _ | refine Zad ?_ | refine Zab ?_ _)); exact BK850.out⟩, ⟨(zb2 HB GE850.out)⟩⟩
  ·rw [if_neg c5] at H
   have c5b0 : decide (a0_0 < 1) = false := decide_eq_false c5
   clear c5
   (first | rw [c5b0] | (simp only [Zav, Za0]; rw [c5b0]) | skip)
   by_cases c7 : a0_0 > 1048576
   ·rw [if_pos c7] at H
    have c7b0 : decide (1048576 < a0_0) = true := decide_eq_true c7
    clear c7
    have H' := Zaa.mk H
    clear H
    obtain ⟨hcz8_0, hcz8_1, hcz8_2, hcz8_3, hcz8_4⟩ := bc5 BK850.out
    obtain ⟨hfz8_0, hfz8_1, hfz8_2, hfz8_3, hfz8_4⟩ := bf5 BK850.out
    go_wp2
    repeat (go_quiet (fail); try go_wp2)
    go_meet
    case rel => exact ⟨_, (true), (by first | rfl | (simp; done) | (simp [*]; done)), H', ⟨by first | omega | exact Nat.le_refl _⟩, ⟨by (with_reducible repeat (first | refine Zac ?_ _ | refine Zad ?_ | refine Zab ?_ _)); exact BK850.out⟩, ⟨(zb2 HB GE850.out)⟩⟩
   ·rw [if_neg c7] at H
    have c7b0 : decide (1048576 < a0_0) = false := decide_eq_false c7
    clear c7
    by_cases c9 : a0_1 < 1
    ·rw [if_pos c9] at H
     have c9b0 : decide (a0_1 < 1) = true := decide_eq_true c9
     clear c9
     have H' := Zaa.mk H
     clear H
     obtain ⟨hcz10_0, hcz10_1, hcz10_2, hcz10_3, hcz10_4⟩ := bc5 BK850.out
     obtain ⟨hfz10_0, hfz10_1, hfz10_2, hfz10_3, hfz10_4⟩ := bf5 BK850.out
     go_wp2
     repeat (go_quiet (fail); try go_wp2)
     go_meet
     case rel => exact ⟨_, (true), (by first | rfl | (simp; done) | (simp [*]; done)), H', ⟨by first | omega | exact Nat.le_refl _⟩, ⟨by (with_reducible repeat (first | refine Zac ?_ _ | refine Zad ?_ | refine Zab ?_ _)); exact BK850.out⟩, ⟨(zb2 HB GE850.out)⟩⟩
    ·rw [if_neg c9] at H
     have c9b0 : decide (a0_1 < 1) = false := decide_eq_false c9
     clear c9
     by_cases c11 : a0_1 > 1073741824
     ·rw [if_pos c11] at H
      have c11b0 : decide (1073741824 < a0_1) = true := decide_eq_true c11
      clear c11
      have H' := Zaa.mk H
      clear H
      obtain ⟨hcz12_0, hcz12_1, hcz12_2, hcz12_3, hcz12_4⟩ := bc5 BK850.out
      obtain ⟨hfz12_0, hfz12_1, hfz12_2, hfz12_3, hfz12_4⟩ := bf5 BK850.out
      go_wp2
      repeat (go_quiet (fail); try go_wp2)
      go_meet
      case rel => exact ⟨_, (true), (by first | rfl | (simp; done) | (simp [*]; done)), H', ⟨by first | omega | exact Nat.le_refl _⟩, ⟨by (with_reducible repeat (first | refine Zac ?_ _ | refine Zad ?_ | refine Zab ?_ _)); exact BK850.out⟩, ⟨(zb2 HB GE850.out)⟩⟩
     ·rw [if_neg c11] at H
      have c11b0 : decide (1073741824 < a0_1) = false := decide_eq_false c11
      clear c11
      by_cases c13 : (l0_3.length : Int) < 1
      ·rw [if_pos c13] at H
       have c13b0 : decide ((l0_3.length : Int) < 1) = true := decide_eq_true c13
       have c13b1 : decide (l0_3.length < 1) = true := decide_eq_true (by omega)
       clear c13
       have H' := Zaa.mk H
       clear H
       obtain ⟨hcz14_0, hcz14_1, hcz14_2, hcz14_3, hcz14_4⟩ := bc5 BK850.out
       obtain ⟨hfz14_0, hfz14_1, hfz14_2, hfz14_3, hfz14_4⟩ := bf5 BK850.out
       go_wp2
       repeat (go_quiet (fail); try go_wp2)
       go_meet
       case rel => exact ⟨_, (true), (by first | rfl | (simp; done) | (simp [*]; done)), H', ⟨by first | omega | exact Nat.le_refl _⟩, ⟨by (with_reducible repeat (first | refine Zac ?_ _ | refine Zad ?_ | refine Zab ?_ _)); exact BK850.out⟩, ⟨(zb2 HB GE850.out)⟩⟩
      ·rw [if_neg c13] at H
       have c13b0 : decide ((l0_3.length : Int) < 1) = false := decide_eq_false c13
       have c13b1 : decide (l0_3.length < 1) = false := decide_eq_false (by omega)
       clear c13
       by_cases c15 : (l0_3.length : Int) > 5
       ·rw [if_pos c15] at H
        have c15b0 : decide (5 < (l0_3.length : Int)) = true := decide_eq_true c15
        have c15b1 : decide (5 < l0_3.length) = true := decide_eq_true (by omega)
        clear c15
        have H' := Zaa.mk H
        clear H
        obtain ⟨hcz16_0, hcz16_1, hcz16_2, hcz16_3, hcz16_4⟩ := bc5 BK850.out
        obtain ⟨hfz16_0, hfz16_1, hfz16_2, hfz16_3, hfz16_4⟩ := bf5 BK850.out
        go_wp2
        repeat (go_quiet (fail); try go_wp2)
        go_meet
        case rel => exact ⟨_, (true), (by first | rfl | (simp; done) | (simp [*]; done)), H', ⟨by first | omega | exact Nat.le_refl _⟩, ⟨by (with_reducible repeat (first | refine Zac ?_ _ | refine Zad ?_ | refine Zab ?_ _)); exact BK850.out⟩, ⟨(zb2 HB GE850.out)⟩⟩
       ·rw [if_neg c15] at H
        have c15b0 : decide (5 < (l0_3.length : Int)) = false := decide_eq_false c15
        have c15b1 : decide (5 < l0_3.length) = false := decide_eq_false (by omega)
        clear c15
        by_cases c17 : 0 < (l0_3.length : Int)
        ·rw [if_pos c17] at H
         have c17b0 : decide (0 < (l0_3.length : Int)) = true := decide_eq_true c17
         have c17b1 : decide (0 < l0_3.length) = true := decide_eq_true (by omega)
         clear c17
         have H' := Zaa.mk H
         clear H
         obtain ⟨hcz18_0, hcz18_1, hcz18_2, hcz18_3, hcz18_4⟩ := bc5 BK850.out
         obtain ⟨hfz18_0, hfz18_1, hfz18_2, hfz18_3, hfz18_4⟩ := bf5 BK850.out
         have p851 : 0 ≤ (0 : Int) := (by omega)
         have q851 : 0 < (l0_3.length : Int) := zod
         obtain ⟨ad851, A851_3, c851_3, e851, hx851_0, hx851_1, hx851_2, hx851_3, hl851_3, hi851_3⟩ := at_T43 HR0_3.out 0 p851 q851
         cases e851
         have qi851 : (0 < l0_3.length) = True := eq_true (by omega)
         (try rw [show ((0 : Int)).toNat = 0 from rfl] at hx851_0)
         (try rw [show 0 * 4 = 0 from rfl] at hx851_0)
         (try rw [Addr.add_zero'] at hx851_0)
         (try rw [show ((0 : Int)).toNat = 0 from rfl] at hx851_1)
         (try rw [show 0 * 4 = 0 from rfl] at hx851_1)
         (try rw [Addr.add_zero'] at hx851_1)
         (try rw [show ((0 : Int)).toNat = 0 from rfl] at hx851_2)
         (try rw [show 0 * 4 = 0 from rfl] at hx851_2)
         (try rw [Addr.add_zero'] at hx851_2)
         (try rw [show ((0 : Int)).toNat = 0 from rfl] at hx851_3)
         (try rw [show 0 * 4 = 0 from rfl] at hx851_3)
         (try rw [Addr.add_zero'] at hx851_3)
         replace hx851_0 := (HB.out.cell (World.block_lt_of_cell? w _ hx851_0)).trans hx851_0
         replace hx851_1 := (HB.out.cell (World.block_lt_of_cell? w _ hx851_1)).trans hx851_1
         replace hx851_2 := (HB.out.cell (World.block_lt_of_cell? w _ hx851_2)).trans hx851_2
         replace hx851_3 := (HB.out.cell (World.block_lt_of_cell? w _ hx851_3)).trans hx851_3
         have HR851_3 := Zaa.mk hi851_3
         have HC851_3 := Zaa.mk hl851_3
         clear hi851_3 hl851_3
         replace p851 := eq_true p851
         replace q851 := eq_true q851
         go_wp2
         repeat (go_quiet (fail); try go_wp2)
         go_meet
         case rel => exact ⟨_, ((a0_2 != ((Zag l0_3 0).f1))), (by first | rfl | (simp; done) | (simp [*]; done)), H', ⟨by first | omega | exact Nat.le_refl _⟩, ⟨by (with_reducible repeat (first | refine Zac ?_ _ | refine Zad ?_ | refine Zab ?_ _)); exact BK850.out⟩, ⟨(zb2 HB GE850.out)⟩⟩
        ·rw [if_neg c17] at H
         exact absurd H (by simp)
 case rest =>
  clear HC2
  (try clear hcz4_0)
  (try clear hcz4_1)
  (try clear hcz4_2)
  (try clear hcz4_3)
  (try clear hcz4_4)
  (try clear hfz4_0)
  (try clear hfz4_1)
  (try clear hfz4_2)
  (try clear hfz4_3)
  (try clear hfz4_4)
  obtain ⟨kq, x45_1, rfl, HA, HJ1, BK850, HB⟩ := hcut
  cases kq with
  | zero => exact absurd HA.out (by simp [logfile_CheckEvent.j0])
  | succ kj1 =>
   have H := HA.out
   clear HA
   simp only [logfile_CheckEvent.j0] at H
   by_cases c19 : x45_1 = true
   ·subst c19
    rw [if_pos rfl] at H
    obtain rfl := Option.some.inj H
    go_wp2
    repeat (go_quiet (fail); try go_wp2)
    go_ret
    exact ⟨by first | rfl | (simp [errW_none, errW_some] <;> rfl) | (simp [*, errW_none, errW_some] <;> rfl), (zb2 HB GE850.out)⟩
   ·replace c19 := Bool.eq_false_iff.mpr c19
    subst c19
    rw [if_neg (show ¬ (false = true) by decide)] at H
    have H' := Zaa.mk H
    clear H
    obtain ⟨hcz20_0, hcz20_1, hcz20_2, hcz20_3, hcz20_4⟩ := bc5 BK850.out
    obtain ⟨hfz20_0, hfz20_1, hfz20_2, hfz20_3, hfz20_4⟩ := bf5 BK850.out
    go_wp2
    repeat (go_quiet (fail); try go_wp2)
    go_loopg [4, 49] kj1 (fun kq v4 v49 w' => ∃ (x4_2 : Bool) (x49_2 : Int), v4 = .bool x4_2 ∧ v49 = .int .i64 x49_2 ∧ Zaa (logfile_CheckEvent.l0 kq (l0_3.length : Int) x4_2 l0_3 (l0_3.length : Int) x49_2 a0_0 a0_1 a0_2 l0_3 a0_4 = some r) ∧ Zaa (kq ≤ kj1) ∧ Zaa (w'.heap[gb850]? = some (.cells #[.int .i64 a0_0, .int .i64 a0_1, .int .i64 a0_2, (.slice A0_3 l0_3.length c0_3), .bool a0_4] 58 (0, 0))) ∧ Zaa (Below w.heap.size w w'))
    case atStart => exact ⟨(false), (0), (by first | rfl | (simp; done) | (simp [*]; done)), (by first | rfl | (simp; done) | (simp [*]; done)), H', ⟨Nat.le_refl _⟩, ⟨by (with_reducible repeat (first | refine Zac ?_ _ | refine Zad ?_ | refine Zab ?_ _)); exact BK850.out⟩, ⟨(zb2 HB GE850.out)⟩⟩
    case round =>
     clear H'
     (try clear c19)
     (try clear hcz20_0)
     (try clear hcz20_1)
     (try clear hcz20_2)
     (try clear hcz20_3)
     (try clear hcz20_4)
     (try clear hcz4_0)
     (try clear hcz4_1)
     (try clear hcz4_2)
     (try clear hcz4_3)
     (try clear hcz4_4)
     (try clear hfz20_0)
     (try clear hfz20_1)
     (try clear hfz20_2)
     (try clear hfz20_3)
     (try clear hfz20_4)
     (try clear hfz4_0)
     (try clear hfz4_1)
     (try clear hfz4_2)
     (try clear hfz4_3)
     (try clear hfz4_4)
     obtain ⟨x4_2, x49_2, rfl, rfl, HA, HK2, BK850, HB⟩ := hrel
     cases gk with
     | zero => exact absurd HA.out (by simp [logfile_CheckEvent.l0])
     | succ k2 =>
      have H := HA.out
      clear HA
      simp only [logfile_CheckEvent.l0] at H
      by_cases c21 : x49_2 < (l0_3.length : Int)
      ·rw [if_pos c21] at H
       have c21b0 : decide (x49_2 < (l0_3.length : Int)) = true := decide_eq_true c21
       clear c21
       by_cases c22 : 0 ≤ x49_2
       ·rw [if_pos c22] at H
        have c22b0 : decide (0 ≤ x49_2) = true := decide_eq_true c22
        clear c22
        by_cases c23 : x49_2 < (l0_3.length : Int)
        ·rw [if_pos c23] at H
         have c23b0 : decide (x49_2 < (l0_3.length : Int)) = true := decide_eq_true c23
         clear c23
         replace H := Option.bind_eq_some_iff.mp H
         obtain ⟨t855, A240, H⟩ := H
         try dsimp only at H
         have A24 := Zaa.mk A240
         clear A240
         by_cases c25 : t855 = 0
         ·rw [if_pos c25] at H
          have c25b0 : (t855 == 0) = true := beq_iff_eq.mpr c25
          have c25b1 : (t855 != 0) = false := bne_eq_false_iff_eq.mpr c25
          clear c25
          by_cases c26 : ((Zag l0_3 x49_2).f2) = a0_1
          ·rw [if_pos c26] at H
           have c26b0 : (((Zag l0_3 x49_2).f2) == a0_1) = true := beq_iff_eq.mpr c26
           have c26b1 : (((Zag l0_3 x49_2).f2) != a0_1) = false := bne_eq_false_iff_eq.mpr c26
           clear c26
           by_cases c27 : ((Zag l0_3 x49_2).f0) = 1320
           ·rw [if_pos c27] at H
            have c27b0 : (((Zag l0_3 x49_2).f0) == 1320) = true := beq_iff_eq.mpr c27
            have c27b1 : (((Zag l0_3 x49_2).f0) != 1320) = false := bne_eq_false_iff_eq.mpr c27
            clear c27
            by_cases c28 : x49_2 < (wrap64 ((l0_3.length : Int) - 1))
            ·rw [if_pos c28] at H
             have c28b0 : decide (x49_2 < (wrap64 ((l0_3.length : Int) - 1))) = true := decide_eq_true c28
             clear c28
             obtain rfl := Option.some.inj H
             have p853 : 0 ≤ (x49_2 : Int) := zod
             have q853 : x49_2 < (l0_3.length : Int) := zod
             obtain ⟨ad853, A853_3, c853_3, e853, hx853_0, hx853_1, hx853_2, hx853_3, hl853_3, hi853_3⟩ := at_T43 HR0_3.out x49_2 p853 q853
             cases e853
             replace hx853_0 := (HB.out.cell (World.block_lt_of_cell? w _ hx853_0)).trans hx853_0
             replace hx853_1 := (HB.out.cell (World.block_lt_of_cell? w _ hx853_1)).trans hx853_1
             replace hx853_2 := (HB.out.cell (World.block_lt_of_cell? w _ hx853_2)).trans hx853_2
             replace hx853_3 := (HB.out.cell (World.block_lt_of_cell? w _ hx853_3)).trans hx853_3
             have HR853_3 := Zaa.mk hi853_3
             have HC853_3 := Zaa.mk hl853_3
             clear hi853_3 hl853_3
             replace p853 := eq_true p853
             replace q853 := eq_true q853
             go_wp2_with (first | ((with_reducible refine Zao (N := 6) rfl ?_); refine Zap ?hg (N := 6) ?hd (cs := #[.int .i64 0, .int .i64 0, .int .i64 0, .slice none 0 0]) (t := 43) ?hr ?_; (case hd => rfl); (case hg => rfl); (case hr => first | (go_simp; done) | (go_simp; rfl)); intro gb854 hg w29 hbox hb; have BK854 := Zaa.mk (hbox); have GW854 := Zaa.mk ((by rw [hg]; exact (Zae (zb2 HB GE850.out)) : w.heap.size ≤ gb854)); have GE854 := Zaa.mk ((by rw [hg]; exact (Zae (zb2 HB GE850.out)) : w.heap.size ≤ gb854)); replace HB := Zaa.mk (Zaf (zb2 HB GE850.out) hb); have NB850_854 := Zaa.mk ((by rw [hg]; exact Nat.ne_of_lt (Za1 (g := gb850) (o := .cells #[.int .i64 a0_0, .int .i64 a0_1, .int .i64 a0_2, .slice (some ad853) l0_3.length c0_3, .bool a0_4] 58 (0, 0)) (zbk BK850)) : gb850 ≠ gb854)); have NB854_850 := Zaa.mk ((by rw [hg]; exact Nat.ne_of_gt (Za1 (g := gb850) (o := .cells #[.int .i64 a0_0, .int .i64 a0_1, .int .i64 a0_2, .slice (some ad853) l0_3.length c0_3, .bool a0_4] 58 (0, 0)) (zbk BK850)) : gb854 ≠ gb850)); replace BK850 := Zaa.mk (Zah (g := gb850) (o := .cells #[.int .i64 a0_0, .int .i64 a0_1, .int .i64 a0_2, .slice (some ad853) l0_3.length c0_3, .bool a0_4] 58 (0, 0)) (zbk BK850) hb); clear hb hbox hg; have hnb30 := NB854_850.out; have hnc30 := NB850_854.out; obtain ⟨hcz31_0, hcz31_1, hcz31_2, hcz31_3⟩ := bc4 BK854.out; obtain ⟨hfz31_0, hfz31_1, hfz31_2, hfz31_3⟩ := bf4 BK854.out) | (go_at_call 82; (with_reducible refine (record_Check.calls ((Zag l0_3 x49_2).f0) ((Zag l0_3 x49_2).f1) ((Zag l0_3 x49_2).f2) _ _ ((Zag l0_3 x49_2).f3) t855 _ ?side1 ?side2 ?side3 A24.out).mono ?_); (case side1 => exact GT.below (by decide) HG.out (zb3 HB GE850.out GE854.out)); (case side2 => exact Kd.C_below HR853_3.out (zb3 HB GE850.out GE854.out)); (case side3 => exact HC853_3.out); rintro e w32 ⟨rfl, hb⟩; replace BK850 := Zaa.mk (Zah (g := gb850) (o := .cells #[.int .i64 a0_0, .int .i64 a0_1, .int .i64 a0_2, .slice (some ad853) l0_3.length c0_3, .bool a0_4] 58 (0, 0)) (by (with_reducible repeat (first | refine Zac ?_ _ | refine Zad ?_ | refine Zab ?_ _)); refine Zak ?_ NB850_854.out _; (with_reducible repeat (first | refine Zac ?_ _ | refine Zad ?_ | refine Zab ?_ _)); refine Zak ?_ NB850_854.out _; (with_reducible repeat (first | refine Zac ?_ _ | refine Zad ?_ | refine Zab ?_ _)); refine Zak ?_ NB850_854.out _; (with_reducible repeat (first | refine Zac ?_ _ | refine Zad ?_ | refine Zab ?_ _)); refine Zak ?_ NB850_854.out _; (with_reducible repeat (first | refine Zac ?_ _ | refine Zad ?_ | refine Zab ?_ _)); exact BK850.out) hb); replace BK854 := Zaa.mk (Zah (g := gb854) (o := .cells #[.int .i64 ((Zag l0_3 x49_2).f0), .int .i64 ((Zag l0_3 x49_2).f1), .int .i64 ((Zag l0_3 x49_2).f2), .slice A853_3 ((Zag l0_3 x49_2).f3).length c853_3] 43 (0, 0)) (by (with_reducible repeat (first | refine Zac ?_ _ | refine Zad ?_ | refine Zab ?_ _)); refine Zaj (cs := #[.int .i64 ((Zag l0_3 x49_2).f0), .int .i64 ((Zag l0_3 x49_2).f1), .int .i64 ((Zag l0_3 x49_2).f2), .slice none 0 0]) ?_ 3 _ rfl; (with_reducible repeat (first | refine Zac ?_ _ | refine Zad ?_ | refine Zab ?_ _)); refine Zaj (cs := #[.int .i64 ((Zag l0_3 x49_2).f0), .int .i64 ((Zag l0_3 x49_2).f1), .int .i64 0, .slice none 0 0]) ?_ 2 _ rfl; (with_reducible repeat (first | refine Zac ?_ _ | refine Zad ?_ | refine Zab ?_ _)); refine Zaj (cs := #[.int .i64 ((Zag l0_3 x49_2).f0), .int .i64 0, .int .i64 0, .slice none 0 0]) ?_ 1 _ rfl; (with_reducible repeat (first | refine Zac ?_ _ | refine Zad ?_ | refine Zab ?_ _)); refine Zaj (cs := #[.int .i64 0, .int .i64 0, .int .i64 0, .slice none 0 0]) ?_ 0 _ rfl; (with_reducible repeat (first | refine Zac ?_ _ | refine Zad ?_ | refine Zab ?_ _)); exact BK854.out) hb); replace HB := Zaa.mk (Zaf (zb3 HB GE850.out GE854.out) hb); (try clear hb); obtain ⟨hcz33_0, hcz33_1, hcz33_2, hcz33_3⟩ := bc4 BK854.out; obtain ⟨hfz33_0, hfz33_1, hfz33_2, hfz33_3⟩ := bf4 BK854.out; obtain ⟨hcz34_0, hcz34_1, hcz34_2, hcz34_3, hcz34_4⟩ := bc5 BK850.out; obtain ⟨hfz34_0, hfz34_1, hfz34_2, hfz34_3, hfz34_4⟩ := bf5 BK850.out))
             repeat (go_quiet (first | ((with_reducible refine Zao (N := 6) rfl ?_); refine Zap ?hg (N := 6) ?hd (cs := #[.int .i64 0, .int .i64 0, .int .i64 0, .slice none 0 0]) (t := 43) ?hr ?_; (case hd => rfl); (case hg => rfl); (case hr => first | (go_simp; done) | (go_simp; rfl)); intro gb854 hg w29 hbox hb; have n0_ := Zaa.mk (Zah (g := gb850) (o := .cells #[.int .i64 a0_0, .int .i64 a0_1, .int .i64 a0_2, .slice (some ad853) l0_3.length c0_3, .bool a0_4] 58 (0, 0)) (zbk BK850) hb); have n1_ := Zaa.mk (Zaf (zb2 HB GE850.out) hb); have n2_ := Zaa.mk (hbox); have n3_ := Zaa.mk ((by rw [hg]; exact (Zae (zb2 HB GE850.out)) : w.heap.size ≤ gb854)); have n4_ := Zaa.mk ((by rw [hg]; exact (Zae (zb2 HB GE850.out)) : w.heap.size ≤ gb854)); have n5_ := Zaa.mk ((by rw [hg]; exact Nat.ne_of_lt (Za1 (g := gb850) (o := .cells #[.int .i64 a0_0, .int .i64 a0_1, .int .i64 a0_2, .slice (some ad853) l0_3.length c0_3, .bool a0_4] 58 (0, 0)) (zbk BK850)) : gb850 ≠ gb854)); have n6_ := Zaa.mk ((by rw [hg]; exact Nat.ne_of_gt (Za1 (g := gb850) (o := .cells #[.int .i64 a0_0, .int .i64 a0_1, .int .i64 a0_2, .slice (some ad853) l0_3.length c0_3, .bool a0_4] 58 (0, 0)) (zbk BK850)) : gb854 ≠ gb850)); clear BK850; clear HB; have BK850 := n0_; have HB := n1_; have BK854 := n2_; have GW854 := n3_; have GE854 := n4_; have NB850_854 := n5_; have NB854_850 := n6_; clear n0_ n1_ n2_ n3_ n4_ n5_ n6_; clear hb hbox hg; have hnb30 := NB854_850.out; have hnc30 := NB850_854.out; obtain ⟨hcz31_0, hcz31_1, hcz31_2, hcz31_3⟩ := bc4 BK854.out; obtain ⟨hfz31_0, hfz31_1, hfz31_2, hfz31_3⟩ := bf4 BK854.out) | (go_at_call 82; (with_reducible refine (record_Check.calls ((Zag l0_3 x49_2).f0) ((Zag l0_3 x49_2).f1) ((Zag l0_3 x49_2).f2) _ _ ((Zag l0_3 x49_2).f3) t855 _ ?side1 ?side2 ?side3 A24.out).mono ?_); (case side1 => exact GT.below (by decide) HG.out (zb3 HB GE850.out GE854.out)); (case side2 => exact Kd.C_below HR853_3.out (zb3 HB GE850.out GE854.out)); (case side3 => exact HC853_3.out); rintro e w32 ⟨rfl, hb⟩; have n0_ := Zaa.mk (Zah (g := gb850) (o := .cells #[.int .i64 a0_0, .int .i64 a0_1, .int .i64 a0_2, .slice (some ad853) l0_3.length c0_3, .bool a0_4] 58 (0, 0)) (by (with_reducible repeat (first | refine Zac ?_ _ | refine Zad ?_ | refine Zab ?_ _)); refine Zak ?_ NB850_854.out _; (with_reducible repeat (first | refine Zac ?_ _ | refine Zad ?_ | refine Zab ?_ _)); refine Zak ?_ NB850_854.out _; (with_reducible repeat (first | refine Zac ?_ _ | refine Zad ?_ | refine Zab ?_ _)); refine Zak ?_ NB850_854.out _; (with_reducible repeat (first | refine Zac ?_ _ | refine Zad ?_ | refine Zab ?_ _)); refine Zak ?_ NB850_854.out _; (with_reducible repeat (first | refine Zac ?_ _ | refine Zad ?_ | refine Zab ?_ _)); exact BK850.out) hb); have n1_ := Zaa.mk (Zah (g := gb854) (o := .cells #[.int .i64 ((Zag l0_3 x49_2).f0), .int .i64 ((Zag l0_3 x49_2).f1), .int .i64 ((Zag l0_3 x49_2).f2), .slice A853_3 ((Zag l0_3 x49_2).f3).length c853_3] 43 (0, 0)) (by (with_reducible repeat (first | refine Zac ?_ _ | refine Zad ?_ | refine Zab ?_ _)); refine Zaj (cs := #[.int .i64 ((Zag l0_3 x49_2).f0), .int .i64 ((Zag l0_3 x49_2).f1), .int .i64 ((Zag l0_3 x49_2).f2), .slice none 0 0]) ?_ 3 _ rfl; (with_reducible repeat (first | refine Zac ?_ _ | refine Zad ?_ | refine Zab ?_ _)); refine Zaj (cs := #[.int .i64 ((Zag l0_3 x49_2).f0), .int .i64 ((Zag l0_3 x49_2).f1), .int .i64 0, .slice none 0 0]) ?_ 2 _ rfl; (with_reducible repeat (first | refine Zac ?_ _ | refine Zad ?_ | refine Zab ?_ _)); refine Zaj (cs := #[.int .i64 ((Zag l0_3 x49_2).f0), .int .i64 0, .int .i64 0, .slice none 0 0]) ?_ 1 _ rfl; (with_reducible repeat (first | refine Zac ?_ _ | refine Zad ?_ | refine Zab ?_ _)); refine Zaj (cs := #[.int .i64 0, .int .i64 0, .int .i64 0, .slice none 0 0]) ?_ 0 _ rfl; (with_reducible repeat (first | refine Zac ?_ _ | refine Zad ?_ | refine Zab ?_ _)); exact BK854.out) hb); have n2_ := Zaa.mk (Zaf (zb3 HB GE850.out GE854.out) hb); clear BK850; clear BK854; clear HB; have BK850 := n0_; have BK854 := n1_; have HB := n2_; clear n0_ n1_ n2_; (try clear hb); (try clear hb2); (try clear hk); (try clear hi); obtain ⟨hcz33_0, hcz33_1, hcz33_2, hcz33_3⟩ := bc4 BK854.out; obtain ⟨hfz33_0, hfz33_1, hfz33_2, hfz33_3⟩ := bf4 BK854.out; obtain ⟨hcz34_0, hcz34_1, hcz34_2, hcz34_3, hcz34_4⟩ := bc5 BK850.out; obtain ⟨hfz34_0, hfz34_1, hfz34_2, hfz34_3, hfz34_4⟩ := bf5 BK850.out)); try go_wp2_with (first | ((with_reducible refine Zao (N := 6) rfl ?_); refine Zap ?hg (N := 6) ?hd (cs := #[.int .i64 0, .int .i64 0, .int .i64 0, .slice none 0 0]) (t := 43) ?hr ?_; (case hd => rfl); (case hg => rfl); (case hr => first | (go_simp; done) | (go_simp; rfl)); intro gb854 hg w29 hbox hb; have n0_ := Zaa.mk (Zah (g := gb850) (o := .cells #[.int .i64 a0_0, .int .i64 a0_1, .int .i64 a0_2, .slice (some ad853) l0_3.length c0_3, .bool a0_4] 58 (0, 0)) (zbk BK850) hb); have n1_ := Zaa.mk (Zaf (zb2 HB GE850.out) hb); have n2_ := Zaa.mk (hbox); have n3_ := Zaa.mk ((by rw [hg]; exact (Zae (zb2 HB GE850.out)) : w.heap.size ≤ gb854)); have n4_ := Zaa.mk ((by rw [hg]; exact (Zae (zb2 HB GE850.out)) : w.heap.size ≤ gb854)); have n5_ := Zaa.mk ((by rw [hg]; exact Nat.ne_of_lt (Za1 (g := gb850) (o := .cells #[.int .i64 a0_0, .int .i64 a0_1, .int .i64 a0_2, .slice (some ad853) l0_3.length c0_3, .bool a0_4] 58 (0, 0)) (zbk BK850)) : gb850 ≠ gb854)); have n6_ := Zaa.mk ((by rw [hg]; exact Nat.ne_of_gt (Za1 (g := gb850) (o := .cells #[.int .i64 a0_0, .int .i64 a0_1, .int .i64 a0_2, .slice (some ad853) l0_3.length c0_3, .bool a0_4] 58 (0, 0)) (zbk BK850)) : gb854 ≠ gb850)); clear BK850; clear HB; have BK850 := n0_; have HB := n1_; have BK854 := n2_; have GW854 := n3_; have GE854 := n4_; have NB850_854 := n5_; have NB854_850 := n6_; clear n0_ n1_ n2_ n3_ n4_ n5_ n6_; clear hb hbox hg; have hnb30 := NB854_850.out; have hnc30 := NB850_854.out; obtain ⟨hcz31_0, hcz31_1, hcz31_2, hcz31_3⟩ := bc4 BK854.out; obtain ⟨hfz31_0, hfz31_1, hfz31_2, hfz31_3⟩ := bf4 BK854.out) | (go_at_call 82; (with_reducible refine (record_Check.calls ((Zag l0_3 x49_2).f0) ((Zag l0_3 x49_2).f1) ((Zag l0_3 x49_2).f2) _ _ ((Zag l0_3 x49_2).f3) t855 _ ?side1 ?side2 ?side3 A24.out).mono ?_); (case side1 => exact GT.below (by decide) HG.out (zb3 HB GE850.out GE854.out)); (case side2 => exact Kd.C_below HR853_3.out (zb3 HB GE850.out GE854.out)); (case side3 => exact HC853_3.out); rintro e w32 ⟨rfl, hb⟩; have n0_ := Zaa.mk (Zah (g := gb850) (o := .cells #[.int .i64 a0_0, .int .i64 a0_1, .int .i64 a0_2, .slice (some ad853) l0_3.length c0_3, .bool a0_4] 58 (0, 0)) (by (with_reducible repeat (first | refine Zac ?_ _ | refine Zad ?_ | refine Zab ?_ _)); refine Zak ?_ NB850_854.out _; (with_reducible repeat (first | refine Zac ?_ _ | refine Zad ?_ | refine Zab ?_ _)); refine Zak ?_ NB850_854.out _; (with_reducible repeat (first | refine Zac ?_ _ | refine Zad ?_ | refine Zab ?_ _)); refine Zak ?_ NB850_854.out _; (with_reducible repeat (first | refine Zac ?_ _ | refine Zad ?_ | refine Zab ?_ _)); refine Zak ?_ NB850_854.out _; (with_reducible repeat (first | refine Zac ?_ _ | refine Zad ?_ | refine Zab ?_ _)); exact BK850.out) hb); have n1_ := Zaa.mk (Zah (g := gb854) (o := .cells #[.int .i64 ((Zag l0_3 x49_2).f0), .int .i64 ((Zag l0_3 x49_2).f1), .int .i64 ((Zag l0_3 x49_2).f2), .slice A853_3 ((Zag l0_3 x49_2).f3).length c853_3] 43 (0, 0)) (by (with_reducible repeat (first | refine Zac ?_ _ | refine Zad ?_ | refine Zab ?_ _)); refine Zaj (cs := #[.int .i64 ((Zag l0_3 x49_2).f0), .int .i64 ((Zag l0_3 x49_2).f1), .int .i64 ((Zag l0_3 x49_2).f2), .slice none 0 0]) ?_ 3 _ rfl; (with_reducible repeat (first | refine Zac ?_ _ | refine Zad ?_ | refine Zab ?_ _)); refine Zaj (cs := #[.int .i64 ((Zag l0_3 x49_2).f0), .int .i64 ((Zag l0_3 x49_2).f1), .int .i64 0, .slice none 0 0]) ?_ 2 _ rfl; (with_reducible repeat (first | refine Zac ?_ _ | refine Zad ?_ | refine Zab ?_ _)); refine Zaj (cs := #[.int .i64 ((Zag l0_3 x49_2).f0), .int .i64 0, .int .i64 0, .slice none 0 0]) ?_ 1 _ rfl; (with_reducible repeat (first | refine Zac ?_ _ | refine Zad ?_ | refine Zab ?_ _)); refine Zaj (cs := #[.int .i64 0, .int .i64 0, .int .i64 0, .slice none 0 0]) ?_ 0 _ rfl; (with_reducible repeat (first | refine Zac ?_ _ | refine Zad ?_ | refine Zab ?_ _)); exact BK854.out) hb); have n2_ := Zaa.mk (Zaf (zb3 HB GE850.out GE854.out) hb); clear BK850; clear BK854; clear HB; have BK850 := n0_; have BK854 := n1_; have HB := n2_; clear n0_ n1_ n2_; (try clear hb); (try clear hb2); (try clear hk); (try clear hi); obtain ⟨hcz33_0, hcz33_1, hcz33_2, hcz33_3⟩ := bc4 BK854.out; obtain ⟨hfz33_0, hfz33_1, hfz33_2, hfz33_3⟩ := bf4 BK854.out; obtain ⟨hcz34_0, hcz34_1, hcz34_2, hcz34_3, hcz34_4⟩ := bc5 BK850.out; obtain ⟨hfz34_0, hfz34_1, hfz34_2, hfz34_3, hfz34_4⟩ := bf5 BK850.out)))
             go_ret
             exact ⟨by first | rfl | (simp [errW_none, errW_some] <;> rfl) | (simp [*, errW_none, errW_some] <;> rfl), (zb3 HB GE850.out GE854.out)⟩
            ·rw [if_neg c28] at H
             have c28b0 : decide (x49_2 < (wrap64 ((l0_3.length : Int) - 1))) = false := decide_eq_false c28
             clear c28
             by_cases c35 : x4_2 = true
             ·subst c35
              rw [if_pos rfl] at H
              have H' := Zaa.mk H
              clear H
              have p853 : 0 ≤ (x49_2 : Int) := zod
              have q853 : x49_2 < (l0_3.length : Int) := zod
              obtain ⟨ad853, A853_3, c853_3, e853, hx853_0, hx853_1, hx853_2, hx853_3, hl853_3, hi853_3⟩ := at_T43 HR0_3.out x49_2 p853 q853
              cases e853
              replace hx853_0 := (HB.out.cell (World.block_lt_of_cell? w _ hx853_0)).trans hx853_0
              replace hx853_1 := (HB.out.cell (World.block_lt_of_cell? w _ hx853_1)).trans hx853_1
              replace hx853_2 := (HB.out.cell (World.block_lt_of_cell? w _ hx853_2)).trans hx853_2
              replace hx853_3 := (HB.out.cell (World.block_lt_of_cell? w _ hx853_3)).trans hx853_3
              have HR853_3 := Zaa.mk hi853_3
              have HC853_3 := Zaa.mk hl853_3
              clear hi853_3 hl853_3
              replace p853 := eq_true p853
              replace q853 := eq_true q853
              go_wp2_with (first | ((with_reducible refine Zao (N := 6) rfl ?_); refine Zap ?hg (N := 6) ?hd (cs := #[.int .i64 0, .int .i64 0, .int .i64 0, .slice none 0 0]) (t := 43) ?hr ?_; (case hd => rfl); (case hg => rfl); (case hr => first | (go_simp; done) | (go_simp; rfl)); intro gb854 hg w36 hbox hb; have BK854 := Zaa.mk (hbox); have GW854 := Zaa.mk ((by rw [hg]; exact (Zae (zb2 HB GE850.out)) : w.heap.size ≤ gb854)); have GE854 := Zaa.mk ((by rw [hg]; exact (Zae (zb2 HB GE850.out)) : w.heap.size ≤ gb854)); replace HB := Zaa.mk (Zaf (zb2 HB GE850.out) hb); have NB850_854 := Zaa.mk ((by rw [hg]; exact Nat.ne_of_lt (Za1 (g := gb850) (o := .cells #[.int .i64 a0_0, .int .i64 a0_1, .int .i64 a0_2, .slice (some ad853) l0_3.length c0_3, .bool a0_4] 58 (0, 0)) (zbk BK850)) : gb850 ≠ gb854)); have NB854_850 := Zaa.mk ((by rw [hg]; exact Nat.ne_of_gt (Za1 (g := gb850) (o := .cells #[.int .i64 a0_0, .int .i64 a0_1, .int .i64 a0_2, .slice (some ad853) l0_3.length c0_3, .bool a0_4] 58 (0, 0)) (zbk BK850)) : gb854 ≠ gb850)); replace BK850 := Zaa.mk (Zah (g := gb850) (o := .cells #[.int .i64 a0_0, .int .i64 a0_1, .int .i64 a0_2, .slice (some ad853) l0_3.length c0_3, .bool a0_4] 58 (0, 0)) (zbk BK850) hb); clear hb hbox hg; have hnb37 := NB854_850.out; have hnc37 := NB850_854.out; obtain ⟨hcz38_0, hcz38_1, hcz38_2, hcz38_3⟩ := bc4 BK854.out; obtain ⟨hfz38_0, hfz38_1, hfz38_2, hfz38_3⟩ := bf4 BK854.out) | (go_at_call 82; (with_reducible refine (record_Check.calls ((Zag l0_3 x49_2).f0) ((Zag l0_3 x49_2).f1) ((Zag l0_3 x49_2).f2) _ _ ((Zag l0_3 x49_2).f3) t855 _ ?side1 ?side2 ?side3 A24.out).mono ?_); (case side1 => exact GT.below (by decide) HG.out (zb3 HB GE850.out GE854.out)); (case side2 => exact Kd.C_below HR853_3.out (zb3 HB GE850.out GE854.out)); (case side3 => exact HC853_3.out); rintro e w39 ⟨rfl, hb⟩; replace BK850 := Zaa.mk (Zah (g := gb850) (o := .cells #[.int .i64 a0_0, .int .i64 a0_1, .int .i64 a0_2, .slice (some ad853) l0_3.length c0_3, .bool a0_4] 58 (0, 0)) (by (with_reducible repeat (first | refine Zac ?_ _ | refine Zad ?_ | refine Zab ?_ _)); refine Zak ?_ NB850_854.out _; (with_reducible repeat (first | refine Zac ?_ _ | refine Zad ?_ | refine Zab ?_ _)); refine Zak ?_ NB850_854.out _; (with_reducible repeat (first | refine Zac ?_ _ | refine Zad ?_ | refine Zab ?_ _)); refine Zak ?_ NB850_854.out _; (with_reducible repeat (first | refine Zac ?_ _ | refine Zad ?_ | refine Zab ?_ _)); refine Zak ?_ NB850_854.out _; (with_reducible repeat (first | refine Zac ?_ _ | refine Zad ?_ | refine Zab ?_ _)); exact BK850.out) hb); replace BK854 := Zaa.mk (Zah (g := gb854) (o := .cells #[.int .i64 ((Zag l0_3 x49_2).f0), .int .i64 ((Zag l0_3 x49_2).f1), .int .i64 ((Zag l0_3 x49_2).f2), .slice A853_3 ((Zag l0_3 x49_2).f3).length c853_3] 43 (0, 0)) (by (with_reducible repeat (first | refine Zac ?_ _ | refine Zad ?_ | refine Zab ?_ _)); refine Zaj (cs := #[.int .i64 ((Zag l0_3 x49_2).f0), .int .i64 ((Zag l0_3 x49_2).f1), .int .i64 ((Zag l0_3 x49_2).f2), .slice none 0 0]) ?_ 3 _ rfl; (with_reducible repeat (first | refine Zac ?_ _ | refine Zad ?_ | refine Zab ?_ _)); refine Zaj (cs := #[.int .i64 ((Zag l0_3 x49_2).f0), .int .i64 ((Zag l0_3 x49_2).f1), .int .i64 0, .slice none 0 0]) ?_ 2 _ rfl; (with_reducible repeat (first | refine Zac ?_ _ | refine Zad ?_ | refine Zab ?_ _)); refine Zaj (cs := #[.int .i64 ((Zag l0_3 x49_2).f0), .int .i64 0, .int .i64 0, .slice none 0 0]) ?_ 1 _ rfl; (with_reducible repeat (first | refine Zac ?_ _ | refine Zad ?_ | refine Zab ?_ _)); refine Zaj (cs := #[.int .i64 0, .int .i64 0, .int .i64 0, .slice none 0 0]) ?_ 0 _ rfl; (with_reducible repeat (first | refine Zac ?_ _ | refine Zad ?_ | refine Zab ?_ _)); exact BK854.out) hb); replace HB := Zaa.mk (Zaf (zb3 HB GE850.out GE854.out) hb); (try clear hb); obtain ⟨hcz40_0, hcz40_1, hcz40_2, hcz40_3⟩ := bc4 BK854.out; obtain ⟨hfz40_0, hfz40_1, hfz40_2, hfz40_3⟩ := bf4 BK854.out; obtain ⟨hcz41_0, hcz41_1, hcz41_2, hcz41_3, hcz41_4⟩ := bc5 BK850.out; obtain ⟨hfz41_0, hfz41_1, hfz41_2, hfz41_3, hfz41_4⟩ := bf5 BK850.out))
              repeat (go_quiet (first | ((with_reducible refine Zao (N := 6) rfl ?_); refine Zap ?hg (N := 6) ?hd (cs := #[.int .i64 0, .int .i64 0, .int .i64 0, .slice none 0 0]) (t := 43) ?hr ?_; (case hd => rfl); (case hg => rfl); (case hr => first | (go_simp; done) | (go_simp; rfl)); intro gb854 hg w36 hbox hb; have n0_ := Zaa.mk (Zah (g := gb850) (o := .cells #[.int .i64 a0_0, .int .i64 a0_1, .int .i64 a0_2, .slice (some ad853) l0_3.length c0_3, .bool a0_4] 58 (0, 0)) (zbk BK850) hb); have n1_ := Zaa.mk (Zaf (zb2 HB GE850.out) hb); have n2_ := Zaa.mk (hbox); have n3_ := Zaa.mk ((by rw [hg]; exact (Zae (zb2 HB GE850.out)) : w.heap.size ≤ gb854)); have n4_ := Zaa.mk ((by rw [hg]; exact (Zae (zb2 HB GE850.out)) : w.heap.size ≤ gb854)); have n5_ := Zaa.mk ((by rw [hg]; exact Nat.ne_of_lt (Za1 (g := gb850) (o := .cells #[.int .i64 a0_0, .int .i64 a0_1, .int .i64 a0_2, .slice (some ad853) l0_3.length c0_3, .bool a0_4] 58 (0, 0)) (zbk BK850)) : gb850 ≠ gb854)); have n6_ := Zaa.mk ((by rw [hg]; exact Nat.ne_of_gt (Za1 (g := gb850) (o := .cells #[.int .i64 a0_0, .int .i64 a0_1, .int .i64 a0_2, .slice (some ad853) l0_3.length c0_3, .bool a0_4] 58 (0, 0)) (zbk BK850)) : gb854 ≠ gb850)); clear BK850; clear HB; have BK850 := n0_; have HB := n1_; have BK854 := n2_; have GW854 := n3_; have GE854 := n4_; have NB850_854 := n5_; have NB854_850 := n6_; clear n0_ n1_ n2_ n3_ n4_ n5_ n6_; clear hb hbox hg; have hnb37 := NB854_850.out; have hnc37 := NB850_854.out; obtain ⟨hcz38_0, hcz38_1, hcz38_2, hcz38_3⟩ := bc4 BK854.out; obtain ⟨hfz38_0, hfz38_1, hfz38_2, hfz38_3⟩ := bf4 BK854.out) | (go_at_call 82; (with_reducible refine (record_Check.calls ((Zag l0_3 x49_2).f0) ((Zag l0_3 x49_2).f1) ((Zag l0_3 x49_2).f2) _ _ ((Zag l0_3 x49_2).f3) t855 _ ?side1 ?side2 ?side3 A24.out).mono ?_); (case side1 => exact GT.below (by decide) HG.out (zb3 HB GE850.out GE854.out)); (case side2 => exact Kd.C_below HR853_3.out (zb3 HB GE850.out GE854.out)); (case side3 => exact HC853_3.out); rintro e w39 ⟨rfl, hb⟩; have n0_ := Zaa.mk (Zah (g := gb850) (o := .cells #[.int .i64 a0_0, .int .i64 a0_1, .int .i64 a0_2, .slice (some ad853) l0_3.length c0_3, .bool a0_4] 58 (0, 0)) (by (with_reducible repeat (first | refine Zac ?_ _ | refine Zad ?_ | refine Zab ?_ _)); refine Zak ?_ NB850_854.out _; (with_reducible repeat (first | refine Zac ?_ _ | refine Zad ?_ | refine Zab ?_ _)); refine Zak ?_ NB850_854.out _; (with_reducible repeat (first | refine Zac ?_ _ | refine Zad ?_ | refine Zab ?_ _)); refine Zak ?_ NB850_854.out _; (with_reducible repeat (first | refine Zac ?_ _ | refine Zad ?_ | refine Zab ?_ _)); refine Zak ?_ NB850_854.out _; (with_reducible repeat (first | refine Zac ?_ _ | refine Zad ?_ | refine Zab ?_ _)); exact BK850.out) hb); have n1_ := Zaa.mk (Zah (g := gb854) (o := .cells #[.int .i64 ((Zag l0_3 x49_2).f0), .int .i64 ((Zag l0_3 x49_2).f1), .int .i64 ((Zag l0_3 x49_2).f2), .slice A853_3 ((Zag l0_3 x49_2).f3).length c853_3] 43 (0, 0)) (by (with_reducible repeat (first | refine Zac ?_ _ | refine Zad ?_ | refine Zab ?_ _)); refine Zaj (cs := #[.int .i64 ((Zag l0_3 x49_2).f0), .int .i64 ((Zag l0_3 x49_2).f1), .int .i64 ((Zag l0_3 x49_2).f2), .slice none 0 0]) ?_ 3 _ rfl; (with_reducible repeat (first | refine Zac ?_ _ | refine Zad ?_ | refine Zab ?_ _)); refine Zaj (cs := #[.int .i64 ((Zag l0_3 x49_2).f0), .int .i64 ((Zag l0_3 x49_2).f1), .int .i64 0, .slice none 0 0]) ?_ 2 _ rfl; (with_reducible repeat (first | refine Zac ?_ _ | refine Zad ?_ | refine Zab ?_ _)); refine Zaj (cs := #[.int .i64 ((Zag l0_3 x49_2).f0), .int .i64 0, .int .i64 0, .slice none 0 0]) ?_ 1 _ rfl; (with_reducible repeat (first | refine Zac ?_ _ | refine Zad ?_ | refine Zab ?_ _)); refine Zaj (cs := #[.int .i64 0, .int .i64 0, .int .i64 0, .slice none 0 0]) ?_ 0 _ rfl; (with_reducible repeat (first | refine Zac ?_ _ | refine Zad ?_ | refine Zab ?_ _)); exact BK854.out) hb); have n2_ := Zaa.mk (Zaf (zb3 HB GE850.out GE854.out) hb); clear BK850; clear BK854; clear HB; have BK850 := n0_; have BK854 := n1_; have HB := n2_; clear n0_ n1_ n2_; (try clear hb); (try clear hb2); (try clear hk); (try clear hi); obtain ⟨hcz40_0, hcz40_1, hcz40_2, hcz40_3⟩ := bc4 BK854.out; obtain ⟨hfz40_0, hfz40_1, hfz40_2, hfz40_3⟩ := bf4 BK854.out; obtain ⟨hcz41_0, hcz41_1, hcz41_2, hcz41_3, hcz41_4⟩ := bc5 BK850.out; obtain ⟨hfz41_0, hfz41_1, hfz41_2, hfz41_3, hfz41_4⟩ := bf5 BK850.out)); try go_wp2_with (first | ((with_reducible refine Zao (N := 6) rfl ?_); refine Zap ?hg (N := 6) ?hd (cs := #[.int .i64 0, .int .i64 0, .int .i64 0, .slice none 0 0]) (t := 43) ?hr ?_; (case hd => rfl); (case hg => rfl); (case hr => first | (go_simp; done) | (go_simp; rfl)); intro gb854 hg w36 hbox hb; have n0_ := Zaa.mk (Zah (g := gb850) (o := .cells #[.int .i64 a0_0, .int .i64 a0_1, .int .i64 a0_2, .slice (some ad853) l0_3.length c0_3, .bool a0_4] 58 (0, 0)) (zbk BK850) hb); have n1_ := Zaa.mk (Zaf (zb2 HB GE850.out) hb); have n2_ := Zaa.mk (hbox); have n3_ := Zaa.mk ((by rw [hg]; exact (Zae (zb2 HB GE850.out)) : w.heap.size ≤ gb854)); have n4_ := Zaa.mk ((by rw [hg]; exact (Zae (zb2 HB GE850.out)) : w.heap.size ≤ gb854)); have n5_ := Zaa.mk ((by rw [hg]; exact Nat.ne_of_lt (Za1 (g := gb850) (o := .cells #[.int .i64 a0_0, .int .i64 a0_1, .int .i64 a0_2, .slice (some ad853) l0_3.length c0_3, .bool a0_4] 58 (0, 0)) (zbk BK850)) : gb850 ≠ gb854)); have n6_ := Zaa.mk ((by rw [hg]; exact Nat.ne_of_gt (Za1 (g := gb850) (o := .cells #[.int .i64 a0_0, .int .i64 a0_1, .int .i64 a0_2, .slice (some ad853) l0_3.length c0_3, .bool a0_4] 58 (0, 0)) (zbk BK850)) : gb854 ≠ gb850)); clear BK850; clear HB; have BK850 := n0_; have HB := n1_; have BK854 := n2_; have GW854 := n3_; have GE854 := n4_; have NB850_854 := n5_; have NB854_850 := n6_; clear n0_ n1_ n2_ n3_ n4_ n5_ n6_; clear hb hbox hg; have hnb37 := NB854_850.out; have hnc37 := NB850_854.out; obtain ⟨hcz38_0, hcz38_1, hcz38_2, hcz38_3⟩ := bc4 BK854.out; obtain ⟨hfz38_0, hfz38_1, hfz38_2, hfz38_3⟩ := bf4 BK854.out) | (go_at_call 82; (with_reducible refine (record_Check.calls ((Zag l0_3 x49_2).f0) ((Zag l0_3 x49_2).f1) ((Zag l0_3 x49_2).f2) _ _ ((Zag l0_3 x49_2).f3) t855 _ ?side1 ?side2 ?side3 A24.out).mono ?_); (case side1 => exact GT.below (by decide) HG.out (zb3 HB GE850.out GE854.out)); (case side2 => exact Kd.C_below HR853_3.out (zb3 HB GE850.out GE854.out)); (case side3 => exact HC853_3.out); rintro e w39 ⟨rfl, hb⟩; have n0_ := Zaa.mk (Zah (g := gb850) (o := .cells #[.int .i64 a0_0, .int .i64 a0_1, .int .i64 a0_2, .slice (some ad853) l0_3.length c0_3, .bool a0_4] 58 (0, 0)) (by (with_reducible repeat (first | refine Zac ?_ _ | refine Zad ?_ | refine Zab ?_ _)); refine Zak ?_ NB850_854.out _; (with_reducible repeat (first | refine Zac ?_ _ | refine Zad ?_ | refine Zab ?_ _)); refine Zak ?_ NB850_854.out _; (with_reducible repeat (first | refine Zac ?_ _ | refine Zad ?_ | refine Zab ?_ _)); refine Zak ?_ NB850_854.out _; (with_reducible repeat (first | refine Zac ?_ _ | refine Zad ?_ | refine Zab ?_ _)); refine Zak ?_ NB850_854.out _; (with_reducible repeat (first | refine Zac ?_ _ | refine Zad ?_ | refine Zab ?_ _)); exact BK850.out) hb); have n1_ := Zaa.mk (Zah (g := gb854) (o := .cells #[.int .i64 ((Zag l0_3 x49_2).f0), .int .i64 ((Zag l0_3 x49_2).f1), .int .i64 ((Zag l0_3 x49_2).f2), .slice A853_3 ((Zag l0_3 x49_2).f3).length c853_3] 43 (0, 0)) (by (with_reducible repeat (first | refine Zac ?_ _ | refine Zad ?_ | refine Zab ?_ _)); refine Zaj (cs := #[.int .i64 ((Zag l0_3 x49_2).f0), .int .i64 ((Zag l0_3 x49_2).f1), .int .i64 ((Zag l0_3 x49_2).f2), .slice none 0 0]) ?_ 3 _ rfl; (with_reducible repeat (first | refine Zac ?_ _ | refine Zad ?_ | refine Zab ?_ _)); refine Zaj (cs := #[.int .i64 ((Zag l0_3 x49_2).f0), .int .i64 ((Zag l0_3 x49_2).f1), .int .i64 0, .slice none 0 0]) ?_ 2 _ rfl; (with_reducible repeat (first | refine Zac ?_ _ | refine Zad ?_ | refine Zab ?_ _)); refine Zaj (cs := #[.int .i64 ((Zag l0_3 x49_2).f0), .int .i64 0, .int .i64 0, .slice none 0 0]) ?_ 1 _ rfl; (with_reducible repeat (first | refine Zac ?_ _ | refine Zad ?_ | refine Zab ?_ _)); refine Zaj (cs := #[.int .i64 0, .int .i64 0, .int .i64 0, .slice none 0 0]) ?_ 0 _ rfl; (with_reducible repeat (first | refine Zac ?_ _ | refine Zad ?_ | refine Zab ?_ _)); exact BK854.out) hb); have n2_ := Zaa.mk (Zaf (zb3 HB GE850.out GE854.out) hb); clear BK850; clear BK854; clear HB; have BK850 := n0_; have BK854 := n1_; have HB := n2_; clear n0_ n1_ n2_; (try clear hb); (try clear hb2); (try clear hk); (try clear hi); obtain ⟨hcz40_0, hcz40_1, hcz40_2, hcz40_3⟩ := bc4 BK854.out; obtain ⟨hfz40_0, hfz40_1, hfz40_2, hfz40_3⟩ := bf4 BK854.out; obtain ⟨hcz41_0, hcz41_1, hcz41_2, hcz41_3, hcz41_4⟩ := bc5 BK850.out; obtain ⟨hfz41_0, hfz41_1, hfz41_2, hfz41_3, hfz41_4⟩ := bf5 BK850.out)))
              go_roundg k2
              case measure => have := HJ1.out; have := HK2.out; omega
              case rel => exact ⟨(true), (wrap64 (x49_2 + 1)), (by first | rfl | (simp; done) | (simp [*]; done)), (by first | rfl | (simp; done) | (simp [*]; done)), H', ⟨by have := HJ1.out; have := HK2.out; omega⟩, ⟨by (with_reducible repeat (first | refine Zac ?_ _ | refine Zad ?_ | refine Zab ?_ _)); exact BK850.out⟩, ⟨(zb3 HB GE850.out GE854.out)⟩⟩
             ·replace c35 := Bool.eq_false_iff.mpr c35
              subst c35
              rw [if_neg (show ¬ (false = true) by decide)] at H
              replace H := Option.bind_eq_some_iff.mp H
              obtain ⟨t856, A420, H⟩ := H
              try dsimp only at H
              have A42 := Zaa.mk A420
              clear A420
              have H' := Zaa.mk H
              clear H
              have p853 : 0 ≤ (x49_2 : Int) := zod
              have q853 : x49_2 < (l0_3.length : Int) := zod
              obtain ⟨ad853, A853_3, c853_3, e853, hx853_0, hx853_1, hx853_2, hx853_3, hl853_3, hi853_3⟩ := at_T43 HR0_3.out x49_2 p853 q853
              cases e853
              replace hx853_0 := (HB.out.cell (World.block_lt_of_cell? w _ hx853_0)).trans hx853_0
              replace hx853_1 := (HB.out.cell (World.block_lt_of_cell? w _ hx853_1)).trans hx853_1
              replace hx853_2 := (HB.out.cell (World.block_lt_of_cell? w _ hx853_2)).trans hx853_2
              replace hx853_3 := (HB.out.cell (World.block_lt_of_cell? w _ hx853_3)).trans hx853_3
              have HR853_3 := Zaa.mk hi853_3
              have HC853_3 := Zaa.mk hl853_3
              clear hi853_3 hl853_3
              replace p853 := eq_true p853
              replace q853 := eq_true q853
              go_wp2_with (first | ((with_reducible refine Zao (N := 6) rfl ?_); refine Zap ?hg (N := 6) ?hd (cs := #[.int .i64 0, .int .i64 0, .int .i64 0, .slice none 0 0]) (t := 43) ?hr ?_; (case hd => rfl); (case hg => rfl); (case hr => first | (go_simp; done) | (go_simp; rfl)); intro gb854 hg w43 hbox hb; have BK854 := Zaa.mk (hbox); have GW854 := Zaa.mk ((by rw [hg]; exact (Zae (zb2 HB GE850.out)) : w.heap.size ≤ gb854)); have GE854 := Zaa.mk ((by rw [hg]; exact (Zae (zb2 HB GE850.out)) : w.heap.size ≤ gb854)); replace HB := Zaa.mk (Zaf (zb2 HB GE850.out) hb); have NB850_854 := Zaa.mk ((by rw [hg]; exact Nat.ne_of_lt (Za1 (g := gb850) (o := .cells #[.int .i64 a0_0, .int .i64 a0_1, .int .i64 a0_2, .slice (some ad853) l0_3.length c0_3, .bool a0_4] 58 (0, 0)) (zbk BK850)) : gb850 ≠ gb854)); have NB854_850 := Zaa.mk ((by rw [hg]; exact Nat.ne_of_gt (Za1 (g := gb850) (o := .cells #[.int .i64 a0_0, .int .i64 a0_1, .int .i64 a0_2, .slice (some ad853) l0_3.length c0_3, .bool a0_4] 58 (0, 0)) (zbk BK850)) : gb854 ≠ gb850)); replace BK850 := Zaa.mk (Zah (g := gb850) (o := .cells #[.int .i64 a0_0, .int .i64 a0_1, .int .i64 a0_2, .slice (some ad853) l0_3.length c0_3, .bool a0_4] 58 (0, 0)) (zbk BK850) hb); clear hb hbox hg; have hnb44 := NB854_850.out; have hnc44 := NB850_854.out; obtain ⟨hcz45_0, hcz45_1, hcz45_2, hcz45_3⟩ := bc4 BK854.out; obtain ⟨hfz45_0, hfz45_1, hfz45_2, hfz45_3⟩ := bf4 BK854.out) | (go_at_call 82; (with_reducible refine (record_Check.calls ((Zag l0_3 x49_2).f0) ((Zag l0_3 x49_2).f1) ((Zag l0_3 x49_2).f2) _ _ ((Zag l0_3 x49_2).f3) t855 _ ?side1 ?side2 ?side3 A24.out).mono ?_); (case side1 => exact GT.below (by decide) HG.out (zb3 HB GE850.out GE854.out)); (case side2 => exact Kd.C_below HR853_3.out (zb3 HB GE850.out GE854.out)); (case side3 => exact HC853_3.out); rintro e w46 ⟨rfl, hb⟩; replace BK850 := Zaa.mk (Zah (g := gb850) (o := .cells #[.int .i64 a0_0, .int .i64 a0_1, .int .i64 a0_2, .slice (some ad853) l0_3.length c0_3, .bool a0_4] 58 (0, 0)) (by (with_reducible repeat (first | refine Zac ?_ _ | refine Zad ?_ | refine Zab ?_ _)); refine Zak ?_ NB850_854.out _; (with_reducible repeat (first | refine Zac ?_ _ | refine Zad ?_ | refine Zab ?_ _)); refine Zak ?_ NB850_854.out _; (with_reducible repeat (first | refine Zac ?_ _ | refine Zad ?_ | refine Zab ?_ _)); refine Zak ?_ NB850_854.out _; (with_reducible repeat (first | refine Zac ?_ _ | refine Zad ?_ | refine Zab ?_ _)); refine Zak ?_ NB850_854.out _; (with_reducible repeat (first | refine Zac ?_ _ | refine Zad ?_ | refine Zab ?_ _)); exact BK850.out) hb); replace BK854 := Zaa.mk (Zah (g := gb854) (o := .cells #[.int .i64 ((Zag l0_3 x49_2).f0), .int .i64 ((Zag l0_3 x49_2).f1), .int .i64 ((Zag l0_3 x49_2).f2), .slice A853_3 ((Zag l0_3 x49_2).f3).length c853_3] 43 (0, 0)) (by (with_reducible repeat (first | refine Zac ?_ _ | refine Zad ?_ | refine Zab ?_ _)); refine Zaj (cs := #[.int .i64 ((Zag l0_3 x49_2).f0), .int .i64 ((Zag l0_3 x49_2).f1), .int .i64 ((Zag l0_3 x49_2).f2), .slice none 0 0]) ?_ 3 _ rfl; (with_reducible repeat (first | refine Zac ?_ _ | refine Zad ?_ | refine Zab ?_ _)); refine Zaj (cs := #[.int .i64 ((Zag l0_3 x49_2).f0), .int .i64 ((Zag l0_3 x49_2).f1), .int .i64 0, .slice none 0 0]) ?_ 2 _ rfl; (with_reducible repeat (first | refine Zac ?_ _ | refine Zad ?_ | refine Zab ?_ _)); refine Zaj (cs := #[.int .i64 ((Zag l0_3 x49_2).f0), .int .i64 0, .int .i64 0, .slice none 0 0]) ?_ 1 _ rfl; (with_reducible repeat (first | refine Zac ?_ _ | refine Zad ?_ | refine Zab ?_ _)); refine Zaj (cs := #[.int .i64 0, .int .i64 0, .int .i64 0, .slice none 0 0]) ?_ 0 _ rfl; (with_reducible repeat (first | refine Zac ?_ _ | refine Zad ?_ | refine Zab ?_ _)); exact BK854.out) hb); replace HB := Zaa.mk (Zaf (zb3 HB GE850.out GE854.out) hb); (try clear hb); obtain ⟨hcz47_0, hcz47_1, hcz47_2, hcz47_3⟩ := bc4 BK854.out; obtain ⟨hfz47_0, hfz47_1, hfz47_2, hfz47_3⟩ := bf4 BK854.out; obtain ⟨hcz48_0, hcz48_1, hcz48_2, hcz48_3, hcz48_4⟩ := bc5 BK850.out; obtain ⟨hfz48_0, hfz48_1, hfz48_2, hfz48_3, hfz48_4⟩ := bf5 BK850.out) | (go_at_call 43; (with_reducible refine (record_Single.calls ((Zag l0_3 x49_2).f0) t856 _ ?side1 A42.out).mono ?_); (case side1 => exact GT.below (by decide) HG.out (zb3 HB GE850.out GE854.out)); rintro e w49 ⟨rfl, hb⟩; replace BK850 := Zaa.mk (Zah (g := gb850) (o := .cells #[.int .i64 a0_0, .int .i64 a0_1, .int .i64 a0_2, .slice (some ad853) l0_3.length c0_3, .bool a0_4] 58 (0, 0)) (zbk BK850) hb); replace BK854 := Zaa.mk (Zah (g := gb854) (o := .cells #[.int .i64 ((Zag l0_3 x49_2).f0), .int .i64 ((Zag l0_3 x49_2).f1), .int .i64 ((Zag l0_3 x49_2).f2), .slice A853_3 ((Zag l0_3 x49_2).f3).length c853_3] 43 (0, 0)) (zbk BK854) hb); replace HB := Zaa.mk (Zaf (zb3 HB GE850.out GE854.out) hb); (try clear hb)))
              repeat (go_quiet (first | ((with_reducible refine Zao (N := 6) rfl ?_); refine Zap ?hg (N := 6) ?hd (cs := #[.int .i64 0, .int .i64 0, .int .i64 0, .slice none 0 0]) (t := 43) ?hr ?_; (case hd => rfl); (case hg => rfl); (case hr => first | (go_simp; done) | (go_simp; rfl)); intro gb854 hg w43 hbox hb; have n0_ := Zaa.mk (Zah (g := gb850) (o := .cells #[.int .i64 a0_0, .int .i64 a0_1, .int .i64 a0_2, .slice (some ad853) l0_3.length c0_3, .bool a0_4] 58 (0, 0)) (zbk BK850) hb); have n1_ := Zaa.mk (Zaf (zb2 HB GE850.out) hb); have n2_ := Zaa.mk (hbox); have n3_ := Zaa.mk ((by rw [hg]; exact (Zae (zb2 HB GE850.out)) : w.heap.size ≤ gb854)); have n4_ := Zaa.mk ((by rw [hg]; exact (Zae (zb2 HB GE850.out)) : w.heap.size ≤ gb854)); have n5_ := Zaa.mk ((by rw [hg]; exact Nat.ne_of_lt (Za1 (g := gb850) (o := .cells #[.int .i64 a0_0, .int .i64 a0_1, .int .i64 a0_2, .slice (some ad853) l0_3.length c0_3, .bool a0_4] 58 (0, 0)) (zbk BK850)) : gb850 ≠ gb854)); have n6_ := Zaa.mk ((by rw [hg]; exact Nat.ne_of_gt (Za1 (g := gb850) (o := .cells #[.int .i64 a0_0, .int .i64 a0_1, .int .i64 a0_2, .slice (some ad853) l0_3.length c0_3, .bool a0_4] 58 (0, 0)) (zbk BK850)) : gb854 ≠ gb850)); clear BK850; clear HB; have BK850 := n0_; have HB := n1_; have BK854 := n2_; have GW854 := n3_; have GE854 := n4_; have NB850_854 := n5_; have NB854_850 := n6_; clear n0_ n1_ n2_ n3_ n4_ n5_ n6_; clear hb hbox hg; have hnb44 := NB854_850.out; have hnc44 := NB850_854.out; obtain ⟨hcz45_0, hcz45_1, hcz45_2, hcz45_3⟩ := bc4 BK854.out; obtain ⟨hfz45_0, hfz45_1, hfz45_2, hfz45_3⟩ := bf4 BK854.out) | (go_at_call 82; (with_reducible refine (record_Check.calls ((Zag l0_3 x49_2).f0) ((Zag l0_3 x49_2).f1) ((Zag l0_3 x49_2).f2) _ _ ((Zag l0_3 x49_2).f3) t855 _ ?side1 ?side2 ?side3 A24.out).mono ?_); (case side1 => exact GT.below (by decide) HG.out (zb3 HB GE850.out GE854.out)); (case side2 => exact Kd.C_below HR853_3.out (zb3 HB GE850.out GE854.out)); (case side3 => exact HC853_3.out); rintro e w46 ⟨rfl, hb⟩; have n0_ := Zaa.mk (Zah (g := gb850) (o := .cells #[.int .i64 a0_0, .int .i64 a0_1, .int .i64 a0_2, .slice (some ad853) l0_3.length c0_3, .bool a0_4] 58 (0, 0)) (by (with_reducible repeat (first | refine Zac ?_ _ | refine Zad ?_ | refine Zab ?_ _)); refine Zak ?_ NB850_854.out _; (with_reducible repeat (first | refine Zac ?_ _ | refine Zad ?_ | refine Zab ?_ _)); refine Zak ?_ NB850_854.out _; (with_reducible repeat (first | refine Zac ?_ _ | refine Zad ?_ | refine Zab ?_ _)); refine Zak ?_ NB850_854.out _; (with_reducible repeat (first | refine Zac ?_ _ | refine Zad ?_ | refine Zab ?_ _)); refine Zak ?_ NB850_854.out _; (with_reducible repeat (first | refine Zac ?_ _ | refine Zad ?_ | refine Zab ?_ _)); exact BK850.out) hb); have n1_ := Zaa.mk (Zah (g := gb854) (o := .cells #[.int .i64 ((Zag l0_3 x49_2).f0), .int .i64 ((Zag l0_3 x49_2).f1), .int .i64 ((Zag l0_3 x49_2).f2), .slice A853_3 ((Zag l0_3 x49_2).f3).length c853_3] 43 (0, 0)) (by (with_reducible repeat (first | refine Zac ?_ _ | refine Zad ?_ | refine Zab ?_ _)); refine Zaj (cs := #[.int .i64 ((Zag l0_3 x49_2).f0), .int .i64 ((Zag l0_3 x49_2).f1), .int .i64 ((Zag l0_3 x49_2).f2), .slice none 0 0]) ?_ 3 _ rfl; (with_reducible repeat (first | refine Zac ?_ _ | refine Zad ?_ | refine Zab ?_ _)); refine Zaj (cs := #[.int .i64 ((Zag l0_3 x49_2).f0), .int .i64 ((Zag l0_3 x49_2).f1), .int .i64 0, .slice none 0 0]) ?_ 2 _ rfl; (with_reducible repeat (first | refine Zac ?_ _ | refine Zad ?_ | refine Zab ?_ _)); refine Zaj (cs := #[.int .i64 ((Zag l0_3 x49_2).f0), .int .i64 0, .int .i64 0, .slice none 0 0]) ?_ 1 _ rfl; (with_reducible repeat (first | refine Zac ?_ _ | refine Zad ?_ | refine Zab ?_ _)); refine Zaj (cs := #[.int .i64 0, .int .i64 0, .int .i64 0, .slice none 0 0]) ?_ 0 _ rfl; (with_reducible repeat (first | refine Zac ?_ _ | refine Zad ?_ | refine Zab ?_ _)); exact BK854.out) hb); have n2_ := Zaa.mk (Zaf (zb3 HB GE850.out GE854.out) hb); clear BK850; clear BK854; clear HB; have BK850 := n0_; have BK854 := n1_; have HB := n2_; clear n0_ n1_ n2_; (try clear hb); (try clear hb2); (try clear hk); (try clear hi); obtain ⟨hcz47_0, hcz47_1, hcz47_2, hcz47_3⟩ := bc4 BK854.out; obtain ⟨hfz47_0, hfz47_1, hfz47_2, hfz47_3⟩ := bf4 BK854.out; obtain ⟨hcz48_0, hcz48_1, hcz48_2, hcz48_3, hcz48_4⟩ := bc5 BK850.out; obtain ⟨hfz48_0, hfz48_1, hfz48_2, hfz48_3, hfz48_4⟩ := bf5 BK850.out) | (go_at_call 43; (with_reducible refine (record_Single.calls ((Zag l0_3 x49_2).f0) t856 _ ?side1 A42.out).mono ?_); (case side1 => exact GT.below (by decide) HG.out (zb3 HB GE850.out GE854.out)); rintro e w49 ⟨rfl, hb⟩; have n0_ := Zaa.mk (Zah (g := gb850) (o := .cells #[.int .i64 a0_0, .int .i64 a0_1, .int .i64 a0_2, .slice (some ad853) l0_3.length c0_3, .bool a0_4] 58 (0, 0)) (zbk BK850) hb); have n1_ := Zaa.mk (Zah (g := gb854) (o := .cells #[.int .i64 ((Zag l0_3 x49_2).f0), .int .i64 ((Zag l0_3 x49_2).f1), .int .i64 ((Zag l0_3 x49_2).f2), .slice A853_3 ((Zag l0_3 x49_2).f3).length c853_3] 43 (0, 0)) (zbk BK854) hb); have n2_ := Zaa.mk (Zaf (zb3 HB GE850.out GE854.out) hb); clear BK850; clear BK854; clear HB; have BK850 := n0_; have BK854 := n1_; have HB := n2_; clear n0_ n1_ n2_; (try clear hb); (try clear hb2); (try clear hk); (try clear hi))); try go_wp2_with (first | ((with_reducible refine Zao (N := 6) rfl ?_); refine Zap ?hg (N := 6) ?hd (cs := #[.int .i64 0, .int .i64 0, .int .i64 0, .slice none 0 0]) (t := 43) ?hr ?_; (case hd => rfl); (case hg => rfl); (case hr => first | (go_simp; done) | (go_simp; rfl)); intro gb854 hg w43 hbox hb; have n0_ := Zaa.mk (Zah (g := gb850) (o := .cells #[.int .i64 a0_0, .int .i64 a0_1, .int .i64 a0_2, .slice (some ad853) l0_3.length c0_3, .bool a0_4] 58 (0, 0)) (zbk BK850) hb); have n1_ := Zaa.mk (Zaf (zb2 HB GE850.out) hb); have n2_ := Zaa.mk (hbox); have n3_ := Zaa.mk ((by rw [hg]; exact (Zae (zb2 HB GE850.out)) : w.heap.size ≤ gb854)); have n4_ := Zaa.mk ((by rw [hg]; exact (Zae (zb2 HB GE850.out)) : w.heap.size ≤ gb854)); have n5_ := Zaa.mk ((by rw [hg]; exact Nat.ne_of_lt (Za1 (g := gb850) (o := .cells #[.int .i64 a0_0, .int .i64 a0_1, .int .i64 a0_2, .slice (some ad853) l0_3.length c0_3, .bool a0_4] 58 (0, 0)) (zbk BK850)) : gb850 ≠ gb854)); have n6_ := Zaa.mk ((by rw [hg]; exact Nat.ne_of_gt (Za1 (g := gb850) (o := .cells #[.int .i64 a0_0, .int .i64 a0_1, .int .i64 a0_2, .slice (some ad853) l0_3.length c0_3, .bool a0_4] 58 (0, 0)) (zbk BK850)) : gb854 ≠ gb850)); clear BK850; clear HB; have BK850 := n0_; have HB := n1_; have BK854 := n2_; have GW854 := n3_; have GE854 := n4_; have NB850_854 := n5_; have NB854_850 := n6_; clear n0_ n1_ n2_ n3_ n4_ n5_ n6_; clear hb hbox hg; have hnb44 := NB854_850.out; have hnc44 := NB850_854.out; obtain ⟨hcz45_0, hcz45_1, hcz45_2, hcz45_3⟩ := bc4 BK854.out; obtain ⟨hfz45_0, hfz45_1, hfz45_2, hfz45_3⟩ := bf4 BK854.out) | (go_at_call 82; (with_reducible refine (record_Check.calls ((Zag l0_3 x49_2).f0) ((Zag l0_3 x49_2).f1) ((Zag l0_3 x49_2).f2) _ _ ((Zag l0_3 x49_2).f3) t855 _ ?side1 ?side2 ?side3 A24.out).mono ?_); (case side1 => exact GT.below (by decide) HG.out (zb3 HB GE850.out GE854.out)); (case side2 => exact Kd.C_below HR853_3.out (zb3 HB GE850.out GE854.out)); (case side3 => exact HC853_3.out); rintro e w46 ⟨rfl, hb⟩; have n0_ := Zaa.mk (Zah (g := gb850) (o := .cells #[.int .i64 a0_0, .int .i64 a0_1, .int .i64 a0_2, .slice (some ad853) l0_3.length c0_3, .bool a0_4] 58 (0, 0)) (by (with_reducible repeat (first | refine Zac ?_ _ | refine Zad ?_ | refine Zab ?_ _)); refine Zak ?_ NB850_854.out _; (with_reducible repeat (first | refine Zac ?_ _ | refine Zad ?_ | refine Zab ?_ _)); refine Zak ?_ NB850_854.out _; (with_reducible repeat (first | refine Zac ?_ _ | refine Zad ?_ | refine Zab ?_ _)); refine Zak ?_ NB850_854.out _; (with_reducible repeat (first | refine Zac ?_ _ | refine Zad ?_ | refine Zab ?_ _)); refine Zak ?_ NB850_854.out _; (with_reducible repeat (first | refine Zac ?_ _ | refine Zad ?_ | refine Zab ?_ _)); exact BK850.out) hb); have n1_ := Zaa.mk (Zah (g := gb854) (o := .cells #[.int .i64 ((Zag l0_3 x49_2).f0), .int .i64 ((Zag l0_3 x49_2).f1), .int .i64 ((Zag l0_3 x49_2).f2), .slice A853_3 ((Zag l0_3 x49_2).f3).length c853_3] 43 (0, 0)) (by (with_reducible repeat (first | refine Zac ?_ _ | refine Zad ?_ | refine Zab ?_ _)); refine Zaj (cs := #[.int .i64 ((Zag l0_3 x49_2).f0), .int .i64 ((Zag l0_3 x49_2).f1), .int .i64 ((Zag l0_3 x49_2).f2), .slice none 0 0]) ?_ 3 _ rfl; (with_reducible repeat (first | refine Zac ?_ _ | refine Zad ?_ | refine Zab ?_ _)); refine Zaj (cs := #[.int .i64 ((Zag l0_3 x49_2).f0), .int .i64 ((Zag l0_3 x49_2).f1), .int .i64 0, .slice none 0 0]) ?_ 2 _ rfl; (with_reducible repeat (first | refine Zac ?_ _ | refine Zad ?_ | refine Zab ?_ _)); refine Zaj (cs := #[.int .i64 ((Zag l0_3 x49_2).f0), .int .i64 0, .int .i64 0, .slice none 0 0]) ?_ 1 _ rfl; (with_reducible repeat (first | refine Zac ?_ _ | refine Zad ?_ | refine Zab ?_ _)); refine Zaj (cs := #[.int .i64 0, .int .i64 0, .int .i64 0, .slice none 0 0]) ?_ 0 _ rfl; (with_reducible repeat (first | refine Zac ?_ _ | refine Zad ?_ | refine Zab ?_ _)); exact BK854.out) hb); have n2_ := Zaa.mk (Zaf (zb3 HB GE850.out GE854.out) hb); clear BK850; clear BK854; clear HB; have BK850 := n0_; have BK854 := n1_; have HB := n2_; clear n0_ n1_ n2_; (try clear hb); (try clear hb2); (try clear hk); (try clear hi); obtain ⟨hcz47_0, hcz47_1, hcz47_2, hcz47_3⟩ := bc4 BK854.out; obtain ⟨hfz47_0, hfz47_1, hfz47_2, hfz47_3⟩ := bf4 BK854.out; obtain ⟨hcz48_0, hcz48_1, hcz48_2, hcz48_3, hcz48_4⟩ := bc5 BK850.out; obtain ⟨hfz48_0, hfz48_1, hfz48_2, hfz48_3, hfz48_4⟩ := bf5 BK850.out) | (go_at_call 43; (with_reducible refine (record_Single.calls ((Zag l0_3 x49_2).f0) t856 _ ?side1 A42.out).mono ?_); (case side1 => exact GT.below (by decide) HG.out (zb3 HB GE850.out GE854.out)); rintro e w49 ⟨rfl, hb⟩; have n0_ := Zaa.mk (Zah (g := gb850) (o := .cells #[.int .i64 a0_0, .int .i64 a0_1, .int .i64 a0_2, .slice (some ad853) l0_3.length c0_3, .bool a0_4] 58 (0, 0)) (zbk BK850) hb); have n1_ := Zaa.mk (Zah (g := gb854) (o := .cells #[.int .i64 ((Zag l0_3 x49_2).f0), .int .i64 ((Zag l0_3 x49_2).f1), .int .i64 ((Zag l0_3 x49_2).f2), .slice A853_3 ((Zag l0_3 x49_2).f3).length c853_3] 43 (0, 0)) (zbk BK854) hb); have n2_ := Zaa.mk (Zaf (zb3 HB GE850.out GE854.out) hb); clear BK850; clear BK854; clear HB; have BK850 := n0_; have BK854 := n1_; have HB := n2_; clear n0_ n1_ n2_; (try clear hb); (try clear hb2); (try clear hk); (try clear hi))))
              go_roundg k2
              case measure => have := HJ1.out; have := HK2.out; omega
              case rel => exact ⟨(t856), (wrap64 (x49_2 + 1)), (by first | rfl | (simp; done) | (simp [*]; done)), (by first | rfl | (simp; done) | (simp [*]; done)), H', ⟨by have := HJ1.out; have := HK2.out; omega⟩, ⟨by (with_reducible repeat (first | refine Zac ?_ _ | refine Zad ?_ | refine Zab ?_ _)); exact BK850.out⟩, ⟨(zb3 HB GE850.out GE854.out)⟩⟩
           ·rw [if_neg c27] at H
            have c27b0 : (((Zag l0_3 x49_2).f0) == 1320) = false := beq_eq_false_iff_ne.mpr c27
            have c27b1 : (((Zag l0_3 x49_2).f0) != 1320) = true := bne_iff_ne.mpr c27
            by_cases c50 : x4_2 = true
            ·subst c50
             rw [if_pos rfl] at H
             have H' := Zaa.mk H
             clear H
             have p853 : 0 ≤ (x49_2 : Int) := zod
             have q853 : x49_2 < (l0_3.length : Int) := zod
             obtain ⟨ad853, A853_3, c853_3, e853, hx853_0, hx853_1, hx853_2, hx853_3, hl853_3, hi853_3⟩ := at_T43 HR0_3.out x49_2 p853 q853
             cases e853
             replace hx853_0 := (HB.out.cell (World.block_lt_of_cell? w _ hx853_0)).trans hx853_0
             replace hx853_1 := (HB.out.cell (World.block_lt_of_cell? w _ hx853_1)).trans hx853_1
             replace hx853_2 := (HB.out.cell (World.block_lt_of_cell? w _ hx853_2)).trans hx853_2
             replace hx853_3 := (HB.out.cell (World.block_lt_of_cell? w _ hx853_3)).trans hx853_3
             have HR853_3 := Zaa.mk hi853_3
             have HC853_3 := Zaa.mk hl853_3
             clear hi853_3 hl853_3
             replace p853 := eq_true p853
             replace q853 := eq_true q853
             go_wp2_with (first | ((with_reducible refine Zao (N := 6) rfl ?_); refine Zap ?hg (N := 6) ?hd (cs := #[.int .i64 0, .int .i64 0, .int .i64 0, .slice none 0 0]) (t := 43) ?hr ?_; (case hd => rfl); (case hg => rfl); (case hr => first | (go_simp; done) | (go_simp; rfl)); intro gb854 hg w51 hbox hb; have BK854 := Zaa.mk (hbox); have GW854 := Zaa.mk ((by rw [hg]; exact (Zae (zb2 HB GE850.out)) : w.heap.size ≤ gb854)); have GE854 := Zaa.mk ((by rw [hg]; exact (Zae (zb2 HB GE850.out)) : w.heap.size ≤ gb854)); replace HB := Zaa.mk (Zaf (zb2 HB GE850.out) hb); have NB850_854 := Zaa.mk ((by rw [hg]; exact Nat.ne_of_lt (Za1 (g := gb850) (o := .cells #[.int .i64 a0_0, .int .i64 a0_1, .int .i64 a0_2, .slice (some ad853) l0_3.length c0_3, .bool a0_4] 58 (0, 0)) (zbk BK850)) : gb850 ≠ gb854)); have NB854_850 := Zaa.mk ((by rw [hg]; exact Nat.ne_of_gt (Za1 (g := gb850) (o := .cells #[.int .i64 a0_0, .int .i64 a0_1, .int .i64 a0_2, .slice (some ad853) l0_3.length c0_3, .bool a0_4] 58 (0, 0)) (zbk BK850)) : gb854 ≠ gb850)); replace BK850 := Zaa.mk (Zah (g := gb850) (o := .cells #[.int .i64 a0_0, .int .i64 a0_1, .int .i64 a0_2, .slice (some ad853) l0_3.length c0_3, .bool a0_4] 58 (0, 0)) (zbk BK850) hb); clear hb hbox hg; have hnb52 := NB854_850.out; have hnc52 := NB850_854.out; obtain ⟨hcz53_0, hcz53_1, hcz53_2, hcz53_3⟩ := bc4 BK854.out; obtain ⟨hfz53_0, hfz53_1, hfz53_2, hfz53_3⟩ := bf4 BK854.out) | (go_at_call 82; (with_reducible refine (record_Check.calls ((Zag l0_3 x49_2).f0) ((Zag l0_3 x49_2).f1) ((Zag l0_3 x49_2).f2) _ _ ((Zag l0_3 x49_2).f3) t855 _ ?side1 ?side2 ?side3 A24.out).mono ?_); (case side1 => exact GT.below (by decide) HG.out (zb3 HB GE850.out GE854.out)); (case side2 => exact Kd.C_below HR853_3.out (zb3 HB GE850.out GE854.out)); (case side3 => exact HC853_3.out); rintro e w54 ⟨rfl, hb⟩; replace BK850 := Zaa.mk (Zah (g := gb850) (o := .cells #[.int .i64 a0_0, .int .i64 a0_1, .int .i64 a0_2, .slice (some ad853) l0_3.length c0_3, .bool a0_4] 58 (0, 0)) (by (with_reducible repeat (first | refine Zac ?_ _ | refine Zad ?_ | refine Zab ?_ _)); refine Zak ?_ NB850_854.out _; (with_reducible repeat (first | refine Zac ?_ _ | refine Zad ?_ | refine Zab ?_ _)); refine Zak ?_ NB850_854.out _; (with_reducible repeat (first | refine Zac ?_ _ | refine Zad ?_ | refine Zab ?_ _)); refine Zak ?_ NB850_854.out _; (with_reducible repeat (first | refine Zac ?_ _ | refine Zad ?_ | refine Zab ?_ _)); refine Zak ?_ NB850_854.out _; (with_reducible repeat (first | refine Zac ?_ _ | refine Zad ?_ | refine Zab ?_ _)); exact BK850.out) hb); replace BK854 := Zaa.mk (Zah (g := gb854) (o := .cells #[.int .i64 ((Zag l0_3 x49_2).f0), .int .i64 ((Zag l0_3 x49_2).f1), .int .i64 ((Zag l0_3 x49_2).f2), .slice A853_3 ((Zag l0_3 x49_2).f3).length c853_3] 43 (0, 0)) (by (with_reducible repeat (first | refine Zac ?_ _ | refine Zad ?_ | refine Zab ?_ _)); refine Zaj (cs := #[.int .i64 ((Zag l0_3 x49_2).f0), .int .i64 ((Zag l0_3 x49_2).f1), .int .i64 ((Zag l0_3 x49_2).f2), .slice none 0 0]) ?_ 3 _ rfl; (with_reducible repeat (first | refine Zac ?_ _ | refine Zad ?_ | refine Zab ?_ _)); refine Zaj (cs := #[.int .i64 ((Zag l0_3 x49_2).f0), .int .i64 ((Zag l0_3 x49_2).f1), .int .i64 0, .slice none 0 0]) ?_ 2 _ rfl; (with_reducible repeat (first | refine Zac ?_ _ | refine Zad ?_ | refine Zab ?_ _)); refine Zaj (cs := #[.int .i64 ((Zag l0_3 x49_2).f0), .int .i64 0, .int .i64 0, .slice none 0 0]) ?_ 1 _ rfl; (with_reducible repeat (first | refine Zac ?_ _ | refine Zad ?_ | refine Zab ?_ _)); refine Zaj (cs := #[.int .i64 0, .int .i64 0, .int .i64 0, .slice none 0 0]) ?_ 0 _ rfl; (with_reducible repeat (first | refine Zac ?_ _ | refine Zad ?_ | refine Zab ?_ _)); exact BK854.out) hb); replace HB := Zaa.mk (Zaf (zb3 HB GE850.out GE854.out) hb); (try clear hb); obtain ⟨hcz55_0, hcz55_1, hcz55_2, hcz55_3⟩ := bc4 BK854.out; obtain ⟨hfz55_0, hfz55_1, hfz55_2, hfz55_3⟩ := bf4 BK854.out; obtain ⟨hcz56_0, hcz56_1, hcz56_2, hcz56_3, hcz56_4⟩ := bc5 BK850.out; obtain ⟨hfz56_0, hfz56_1, hfz56_2, hfz56_3, hfz56_4⟩ := bf5 BK850.out))
             repeat (go_quiet (first | ((with_reducible refine Zao (N := 6) rfl ?_); refine Zap ?hg (N := 6) ?hd (cs := #[.int .i64 0, .int .i64 0, .int .i64 0, .slice none 0 0]) (t := 43) ?hr ?_; (case hd => rfl); (case hg => rfl); (case hr => first | (go_simp; done) | (go_simp; rfl)); intro gb854 hg w51 hbox hb; have n0_ := Zaa.mk (Zah (g := gb850) (o := .cells #[.int .i64 a0_0, .int .i64 a0_1, .int .i64 a0_2, .slice (some ad853) l0_3.length c0_3, .bool a0_4] 58 (0, 0)) (zbk BK850) hb); have n1_ := Zaa.mk (Zaf (zb2 HB GE850.out) hb); have n2_ := Zaa.mk (hbox); have n3_ := Zaa.mk ((by rw [hg]; exact (Zae (zb2 HB GE850.out)) : w.heap.size ≤ gb854)); have n4_ := Zaa.mk ((by rw [hg]; exact (Zae (zb2 HB GE850.out)) : w.heap.size ≤ gb854)); have n5_ := Zaa.mk ((by rw [hg]; exact Nat.ne_of_lt (Za1 (g := gb850) (o := .cells #[.int .i64 a0_0, .int .i64 a0_1, .int .i64 a0_2, .slice (some ad853) l0_3.length c0_3, .bool a0_4] 58 (0, 0)) (zbk BK850)) : gb850 ≠ gb854)); have n6_ := Zaa.mk ((by rw [hg]; exact Nat.ne_of_gt (Za1 (g := gb850) (o := .cells #[.int .i64 a0_0, .int .i64 a0_1, .int .i64 a0_2, .slice (some ad853) l0_3.length c0_3, .bool a0_4] 58 (0, 0)) (zbk BK850)) : gb854 ≠ gb850)); clear BK850; clear HB; have BK850 := n0_; have HB := n1_; have BK854 := n2_; have GW854 := n3_; have GE854 := n4_; have NB850_854 := n5_; have NB854_850 := n6_; clear n0_ n1_ n2_ n3_ n4_ n5_ n6_; clear hb hbox hg; have hnb52 := NB854_850.out; have hnc52 := NB850_854.out; obtain ⟨hcz53_0, hcz53_1, hcz53_2, hcz53_3⟩ := bc4 BK854.out; obtain ⟨hfz53_0, hfz53_1, hfz53_2, hfz53_3⟩ := bf4 BK854.out) | (go_at_call 82; (with_reducible refine (record_Check.calls ((Zag l0_3 x49_2).f0) ((Zag l0_3 x49_2).f1) ((Zag l0_3 x49_2).f2) _ _ ((Zag l0_3 x49_2).f3) t855 _ ?side1 ?side2 ?side3 A24.out).mono ?_); (case side1 => exact GT.below (by decide) HG.out (zb3 HB GE850.out GE854.out)); (case side2 => exact Kd.C_below HR853_3.out (zb3 HB GE850.out GE854.out)); (case side3 => exact HC853_3.out); rintro e w54 ⟨rfl, hb⟩; have n0_ := Zaa.mk (Zah (g := gb850) (o := .cells #[.int .i64 a0_0, .int .i64 a0_1, .int .i64 a0_2, .slice (some ad853) l0_3.length c0_3, .bool a0_4] 58 (0, 0)) (by (with_reducible repeat (first | refine Zac ?_ _ | refine Zad ?_ | refine Zab ?_ _)); refine Zak ?_ NB850_854.out _; (with_reducible repeat (first | refine Zac ?_ _ | refine Zad ?_ | refine Zab ?_ _)); refine Zak ?_ NB850_854.out _; (with_reducible repeat (first | refine Zac ?_ _ | refine Zad ?_ | refine Zab ?_ _)); refine Zak ?_ NB850_854.out _; (with_reducible repeat (first | refine Zac ?_ _ | refine Zad ?_ | refine Zab ?_ _)); refine Zak ?_ NB850_854.out _; (with_reducible repeat (first | refine Zac ?_ _ | refine Zad ?_ | refine Zab ?_ _)); exact BK850.out) hb); have n1_ := Zaa.mk (Zah (g := gb854) (o := .cells #[.int .i64 ((Zag l0_3 x49_2).f0), .int .i64 ((Zag l0_3 x49_2).f1), .int .i64 ((Zag l0_3 x49_2).f2), .slice A853_3 ((Zag l0_3 x49_2).f3).length c853_3] 43 (0, 0)) (by (with_reducible repeat (first | refine Zac ?_ _ | refine Zad ?_ | refine Zab ?_ _)); refine Zaj (cs := #[.int .i64 ((Zag l0_3 x49_2).f0), .int .i64 ((Zag l0_3 x49_2).f1), .int .i64 ((Zag l0_3 x49_2).f2), .slice none 0 0]) ?_ 3 _ rfl; (with_reducible repeat (first | refine Zac ?_ _ | refine Zad ?_ | refine Zab ?_ _)); refine Zaj (cs := #[.int .i64 ((Zag l0_3 x49_2).f0), .int .i64 ((Zag l0_3 x49_2).f1), .int .i64 0, .slice none 0 0]) ?_ 2 _ rfl; (with_reducible repeat (first | refine Zac ?_ _ | refine Zad ?_ | refine Zab ?_ _)); refine Zaj (cs := #[.int .i64 ((Zag l0_3 x49_2).f0), .int .i64 0, .int .i64 0, .slice none 0 0]) ?_ 1 _ rfl; (with_reducible repeat (first | refine Zac ?_ _ | refine Zad ?_ | refine Zab ?_ _)); refine Zaj (cs := #[.int .i64 0, .int .i64 0, .int .i64 0, .slice none 0 0]) ?_ 0 _ rfl; (with_reducible repeat (first | refine Zac ?_ _ | refine Zad ?_ | refine Zab ?_ _)); exact BK854.out) hb); have n2_ := Zaa.mk (Zaf (zb3 HB GE850.out GE854.out) hb); clear BK850; clear BK854; clear HB; have BK850 := n0_; have BK854 := n1_; have HB := n2_; clear n0_ n1_ n2_; (try clear hb); (try clear hb2); (try clear hk); (try clear hi); obtain ⟨hcz55_0, hcz55_1, hcz55_2, hcz55_3⟩ := bc4 BK854.out; obtain ⟨hfz55_0, hfz55_1, hfz55_2, hfz55_3⟩ := bf4 BK854.out; obtain ⟨hcz56_0, hcz56_1, hcz56_2, hcz56_3, hcz56_4⟩ := bc5 BK850.out; obtain ⟨hfz56_0, hfz56_1, hfz56_2, hfz56_3, hfz56_4⟩ := bf5 BK850.out)); try go_wp2_with (first | ((with_reducible refine Zao (N := 6) rfl ?_); refine Zap ?hg (N := 6) ?hd (cs := #[.int .i64 0, .int .i64 0, .int .i64 0, .slice none 0 0]) (t := 43) ?hr ?_; (case hd => rfl); (case hg => rfl); (case hr => first | (go_simp; done) | (go_simp; rfl)); intro gb854 hg w51 hbox hb; have n0_ := Zaa.mk (Zah (g := gb850) (o := .cells #[.int .i64 a0_0, .int .i64 a0_1, .int .i64 a0_2, .slice (some ad853) l0_3.length c0_3, .bool a0_4] 58 (0, 0)) (zbk BK850) hb); have n1_ := Zaa.mk (Zaf (zb2 HB GE850.out) hb); have n2_ := Zaa.mk (hbox); have n3_ := Zaa.mk ((by rw [hg]; exact (Zae (zb2 HB GE850.out)) : w.heap.size ≤ gb854)); have n4_ := Zaa.mk ((by rw [hg]; exact (Zae (zb2 HB GE850.out)) : w.heap.size ≤ gb854)); have n5_ := Zaa.mk ((by rw [hg]; exact Nat.ne_of_lt (Za1 (g := gb850) (o := .cells #[.int .i64 a0_0, .int .i64 a0_1, .int .i64 a0_2, .slice (some ad853) l0_3.length c0_3, .bool a0_4] 58 (0, 0)) (zbk BK850)) : gb850 ≠ gb854)); have n6_ := Zaa.mk ((by rw [hg]; exact Nat.ne_of_gt (Za1 (g := gb850) (o := .cells #[.int .i64 a0_0, .int .i64 a0_1, .int .i64 a0_2, .slice (some ad853) l0_3.length c0_3, .bool a0_4] 58 (0, 0)) (zbk BK850)) : gb854 ≠ gb850)); clear BK850; clear HB; have BK850 := n0_; have HB := n1_; have BK854 := n2_; have GW854 := n3_; have GE854 := n4_; have NB850_854 := n5_; have NB854_850 := n6_; clear n0_ n1_ n2_ n3_ n4_ n5_ n6_; clear hb hbox hg; have hnb52 := NB854_850.out; have hnc52 := NB850_854.out; obtain ⟨hcz53_0, hcz53_1, hcz53_2, hcz53_3⟩ := bc4 BK854.out; obtain ⟨hfz53_0, hfz53_1, hfz53_2, hfz53_3⟩ := bf4 BK854.out) | (go_at_call 82; (with_reducible refine (record_Check.calls ((Zag l0_3 x49_2).f0) ((Zag l0_3 x49_2).f1) ((Zag l0_3 x49_2).f2) _ _ ((Zag l0_3 x49_2).f3) t855 _ ?side1 ?side2 ?side3 A24.out).mono ?_); (case side1 => exact GT.below (by decide) HG.out (zb3 HB GE850.out GE854.out)); (case side2 => exact Kd.C_below HR853_3.out (zb3 HB GE850.out GE854.out)); (case side3 => exact HC853_3.out); rintro e w54 ⟨rfl, hb⟩; have n0_ := Zaa.mk (Zah (g := gb850) (o := .cells #[.int .i64 a0_0, .int .i64 a0_1, .int .i64 a0_2, .slice (some ad853) l0_3.length c0_3, .bool a0_4] 58 (0, 0)) (by (with_reducible repeat (first | refine Zac ?_ _ | refine Zad ?_ | refine Zab ?_ _)); refine Zak ?_ NB850_854.out _; (with_reducible repeat (first | refine Zac ?_ _ | refine Zad ?_ | refine Zab ?_ _)); refine Zak ?_ NB850_854.out _; (with_reducible repeat (first | refine Zac ?_ _ | refine Zad ?_ | refine Zab ?_ _)); refine Zak ?_ NB850_854.out _; (with_reducible repeat (first | refine Zac ?_ _ | refine Zad ?_ | refine Zab ?_ _)); refine Zak ?_ NB850_854.out _; (with_reducible repeat (first | refine Zac ?_ _ | refine Zad ?_ | refine Zab ?_ _)); exact BK850.out) hb); have n1_ := Zaa.mk (Zah (g := gb854) (o := .cells #[.int .i64 ((Zag l0_3 x49_2).f0), .int .i64 ((Zag l0_3 x49_2).f1), .int .i64 ((Zag l0_3 x49_2).f2), .slice A853_3 ((Zag l0_3 x49_2).f3).length c853_3] 43 (0, 0)) (by (with_reducible repeat (first | refine Zac ?_ _ | refine Zad ?_ | refine Zab ?_ _)); refine Zaj (cs := #[.int .i64 ((Zag l0_3 x49_2).f0), .int .i64 ((Zag l0_3 x49_2).f1), .int .i64 ((Zag l0_3 x49_2).f2), .slice none 0 0]) ?_ 3 _ rfl; (with_reducible repeat (first | refine Zac ?_ _ | refine Zad ?_ | refine Zab ?_ _)); refine Zaj (cs := #[.int .i64 ((Zag l0_3 x49_2).f0), .int .i64 ((Zag l0_3 x49_2).f1), .int .i64 0, .slice none 0 0]) ?_ 2 _ rfl; (with_reducible repeat (first | refine Zac ?_ _ | refine Zad ?_ | refine Zab ?_ _)); refine Zaj (cs := #[.int .i64 ((Zag l0_3 x49_2).f0), .int .i64 0, .int .i64 0, .slice none 0 0]) ?_ 1 _ rfl; (with_reducible repeat (first | refine Zac ?_ _ | refine Zad ?_ | refine Zab ?_ _)); refine Zaj (cs := #[.int .i64 0, .int .i64 0, .int .i64 0, .slice none 0 0]) ?_ 0 _ rfl; (with_reducible repeat (first | refine Zac ?_ _ | refine Zad ?_ | refine Zab ?_ _)); exact BK854.out) hb); have n2_ := Zaa.mk (Zaf (zb3 HB GE850.out GE854.out) hb); clear BK850; clear BK854; clear HB; have BK850 := n0_; have BK854 := n1_; have HB := n2_; clear n0_ n1_ n2_; (try clear hb); (try clear hb2); (try clear hk); (try clear hi); obtain ⟨hcz55_0, hcz55_1, hcz55_2, hcz55_3⟩ := bc4 BK854.out; obtain ⟨hfz55_0, hfz55_1, hfz55_2, hfz55_3⟩ := bf4 BK854.out; obtain ⟨hcz56_0, hcz56_1, hcz56_2, hcz56_3, hcz56_4⟩ := bc5 BK850.out; obtain ⟨hfz56_0, hfz56_1, hfz56_2, hfz56_3, hfz56_4⟩ := bf5 BK850.out)))
             go_roundg k2
             case measure => have := HJ1.out; have := HK2.out; omega
             case rel => exact ⟨(true), (wrap64 (x49_2 + 1)), (by first | rfl | (simp; done) | (simp [*]; done)), (by first | rfl | (simp; done) | (simp [*]; done)), H', ⟨by have := HJ1.out; have := HK2.out; omega⟩, ⟨by (with_reducible repeat (first | refine Zac ?_ _ | refine Zad ?_ | refine Zab ?_ _)); exact BK850.out⟩, ⟨(zb3 HB GE850.out GE854.out)⟩⟩
            ·replace c50 := Bool.eq_false_iff.mpr c50
             subst c50
             rw [if_neg (show ¬ (false = true) by decide)] at H
             replace H := Option.bind_eq_some_iff.mp H
             obtain ⟨t857, A570, H⟩ := H
             try dsimp only at H
             have A57 := Zaa.mk A570
             clear A570
             have H' := Zaa.mk H
             clear H
             have p853 : 0 ≤ (x49_2 : Int) := zod
             have q853 : x49_2 < (l0_3.length : Int) := zod
             obtain ⟨ad853, A853_3, c853_3, e853, hx853_0, hx853_1, hx853_2, hx853_3, hl853_3, hi853_3⟩ := at_T43 HR0_3.out x49_2 p853 q853
             cases e853
             replace hx853_0 := (HB.out.cell (World.block_lt_of_cell? w _ hx853_0)).trans hx853_0
             replace hx853_1 := (HB.out.cell (World.block_lt_of_cell? w _ hx853_1)).trans hx853_1
             replace hx853_2 := (HB.out.cell (World.block_lt_of_cell? w _ hx853_2)).trans hx853_2
             replace hx853_3 := (HB.out.cell (World.block_lt_of_cell? w _ hx853_3)).trans hx853_3
             have HR853_3 := Zaa.mk hi853_3
             have HC853_3 := Zaa.mk hl853_3
             clear hi853_3 hl853_3
             replace p853 := eq_true p853
             replace q853 := eq_true q853
             go_wp2_with (first | ((with_reducible refine Zao (N := 6) rfl ?_); refine Zap ?hg (N := 6) ?hd (cs := #[.int .i64 0, .int .i64 0, .int .i64 0, .slice none 0 0]) (t := 43) ?hr ?_; (case hd => rfl); (case hg => rfl); (case hr => first | (go_simp; done) | (go_simp; rfl)); intro gb854 hg w58 hbox hb; have BK854 := Zaa.mk (hbox); have GW854 := Zaa.mk ((by rw [hg]; exact (Zae (zb2 HB GE850.out)) : w.heap.size ≤ gb854)); have GE854 := Zaa.mk ((by rw [hg]; exact (Zae (zb2 HB GE850.out)) : w.heap.size ≤ gb854)); replace HB := Zaa.mk (Zaf (zb2 HB GE850.out) hb); have NB850_854 := Zaa.mk ((by rw [hg]; exact Nat.ne_of_lt (Za1 (g := gb850) (o := .cells #[.int .i64 a0_0, .int .i64 a0_1, .int .i64 a0_2, .slice (some ad853) l0_3.length c0_3, .bool a0_4] 58 (0, 0)) (zbk BK850)) : gb850 ≠ gb854)); have NB854_850 := Zaa.mk ((by rw [hg]; exact Nat.ne_of_gt (Za1 (g := gb850) (o := .cells #[.int .i64 a0_0, .int .i64 a0_1, .int .i64 a0_2, .slice (some ad853) l0_3.length c0_3, .bool a0_4] 58 (0, 0)) (zbk BK850)) : gb854 ≠ gb850)); replace BK850 := Zaa.mk (Zah (g := gb850) (o := .cells #[.int .i64 a0_0, .int .i64 a0_1, .int .i64 a0_2, .slice (some ad853) l0_3.length c0_3, .bool a0_4] 58 (0, 0)) (zbk BK850) hb); clear hb hbox hg; have hnb59 := NB854_850.out; have hnc59 := NB850_854.out; obtain ⟨hcz60_0, hcz60_1, hcz60_2, hcz60_3⟩ := bc4 BK854.out; obtain ⟨hfz60_0, hfz60_1, hfz60_2, hfz60_3⟩ := bf4 BK854.out) | (go_at_call 82; (with_reducible refine (record_Check.calls ((Zag l0_3 x49_2).f0) ((Zag l0_3 x49_2).f1) ((Zag l0_3 x49_2).f2) _ _ ((Zag l0_3 x49_2).f3) t855 _ ?side1 ?side2 ?side3 A24.out).mono ?_); (case side1 => exact GT.below (by decide) HG.out (zb3 HB GE850.out GE854.out)); (case side2 => exact Kd.C_below HR853_3.out (zb3 HB GE850.out GE854.out)); (case side3 => exact HC853_3.out); rintro e w61 ⟨rfl, hb⟩; replace BK850 := Zaa.mk (Zah (g := gb850) (o := .cells #[.int .i64 a0_0, .int .i64 a0_1, .int .i64 a0_2, .slice (some ad853) l0_3.length c0_3, .bool a0_4] 58 (0, 0)) (by (with_reducible repeat (first | refine Zac ?_ _ | refine Zad ?_ | refine Zab ?_ _)); refine Zak ?_ NB850_854.out _; (with_reducible repeat (first | refine Zac ?_ _ | refine Zad ?_ | refine Zab ?_ _)); refine Zak ?_ NB850_854.out _; (with_reducible repeat (first | refine Zac ?_ _ | refine Zad ?_ | refine Zab ?_ _)); refine Zak ?_ NB850_854.out _; (with_reducible repeat (first | refine Zac ?_ _ | refine Zad ?_ | refine Zab ?_ _)); refine Zak ?_ NB850_854.out _; (with_reducible repeat (first | refine Zac ?_ _ | refine Zad ?_ | refine Zab ?_ _)); exact BK850.out) hb); replace BK854 := Zaa.mk (Zah (g := gb854) (o := .cells #[.int .i64 ((Zag l0_3 x49_2).f0), .int .i64 ((Zag l0_3 x49_2).f1), .int .i64 ((Zag l0_3 x49_2).f2), .slice A853_3 ((Zag l0_3 x49_2).f3).length c853_3] 43 (0, 0)) (by (with_reducible repeat (first | refine Zac ?_ _ | refine Zad ?_ | refine Zab ?_ _)); refine Zaj (cs := #[.int .i64 ((Zag l0_3 x49_2).f0), .int .i64 ((Zag l0_3 x49_2).f1), .int .i64 ((Zag l0_3 x49_2).f2), .slice none 0 0]) ?_ 3 _ rfl; (with_reducible repeat (first | refine Zac ?_ _ | refine Zad ?_ | refine Zab ?_ _)); refine Zaj (cs := #[.int .i64 ((Zag l0_3 x49_2).f0), .int .i64 ((Zag l0_3 x49_2).f1), .int .i64 0, .slice none 0 0]) ?_ 2 _ rfl; (with_reducible repeat (first | refine Zac ?_ _ | refine Zad ?_ | refine Zab ?_ _)); refine Zaj (cs := #[.int .i64 ((Zag l0_3 x49_2).f0), .int .i64 0, .int .i64 0, .slice none 0 0]) ?_ 1 _ rfl; (with_reducible repeat (first | refine Zac ?_ _ | refine Zad ?_ | refine Zab ?_ _)); refine Zaj (cs := #[.int .i64 0, .int .i64 0, .int .i64 0, .slice none 0 0]) ?_ 0 _ rfl; (with_reducible repeat (first | refine Zac ?_ _ | refine Zad ?_ | refine Zab ?_ _)); exact BK854.out) hb); replace HB := Zaa.mk (Zaf (zb3 HB GE850.out GE854.out) hb); (try clear hb); obtain ⟨hcz62_0, hcz62_1, hcz62_2, hcz62_3⟩ := bc4 BK854.out; obtain ⟨hfz62_0, hfz62_1, hfz62_2, hfz62_3⟩ := bf4 BK854.out; obtain ⟨hcz63_0, hcz63_1, hcz63_2, hcz63_3, hcz63_4⟩ := bc5 BK850.out; obtain ⟨hfz63_0, hfz63_1, hfz63_2, hfz63_3, hfz63_4⟩ := bf5 BK850.out) | (go_at_call 43; (with_reducible refine (record_Single.calls ((Zag l0_3 x49_2).f0) t857 _ ?side1 A57.out).mono ?_); (case side1 => exact GT.below (by decide) HG.out (zb3 HB GE850.out GE854.out)); rintro e w64 ⟨rfl, hb⟩; replace BK850 := Zaa.mk (Zah (g := gb850) (o := .cells #[.int .i64 a0_0, .int .i64 a0_1, .int .i64 a0_2, .slice (some ad853) l0_3.length c0_3, .bool a0_4] 58 (0, 0)) (zbk BK850) hb); replace BK854 := Zaa.mk (Zah (g := gb854) (o := .cells #[.int .i64 ((Zag l0_3 x49_2).f0), .int .i64 ((Zag l0_3 x49_2).f1), .int .i64 ((Zag l0_3 x49_2).f2), .slice A853_3 ((Zag l0_3 x49_2).f3).length c853_3] 43 (0, 0)) (zbk BK854) hb); replace HB := Zaa.mk (Zaf (zb3 HB GE850.out GE854.out) hb); (try clear hb)))
             repeat (go_quiet (first | ((with_reducible refine Zao (N := 6) rfl ?_); refine Zap ?hg (N := 6) ?hd (cs := #[.int .i64 0, .int .i64 0, .int .i64 0, .slice none 0 0]) (t := 43) ?hr ?_; (case hd => rfl); (case hg => rfl); (case hr => first | (go_simp; done) | (go_simp; rfl)); intro gb854 hg w58 hbox hb; have n0_ := Zaa.mk (Zah (g := gb850) (o := .cells #[.int .i64 a0_0, .int .i64 a0_1, .int .i64 a0_2, .slice (some ad853) l0_3.length c0_3, .bool a0_4] 58 (0, 0)) (zbk BK850) hb); have n1_ := Zaa.mk (Zaf (zb2 HB GE850.out) hb); have n2_ := Zaa.mk (hbox); have n3_ := Zaa.mk ((by rw [hg]; exact (Zae (zb2 HB GE850.out)) : w.heap.size ≤ gb854)); have n4_ := Zaa.mk ((by rw [hg]; exact (Zae (zb2 HB GE850.out)) : w.heap.size ≤ gb854)); have n5_ := Zaa.mk ((by rw [hg]; exact Nat.ne_of_lt (Za1 (g := gb850) (o := .cells #[.int .i64 a0_0, .int .i64 a0_1, .int .i64 a0_2, .slice (some ad853) l0_3.length c0_3, .bool a0_4] 58 (0, 0)) (zbk BK850)) : gb850 ≠ gb854)); have n6_ := Zaa.mk ((by rw [hg]; exact Nat.ne_of_gt (Za1 (g := gb850) (o := .cells #[.int .i64 a0_0, .int .i64 a0_1, .int .i64 a0_2, .slice (some ad853) l0_3.length c0_3, .bool a0_4] 58 (0, 0)) (zbk BK850)) : gb854 ≠ gb850)); clear BK850; clear HB; have BK850 := n0_; have HB := n1_; have BK854 := n2_; have GW854 := n3_; have GE854 := n4_; have NB850_854 := n5_; have NB854_850 := n6_; clear n0_ n1_ n2_ n3_ n4_ n5_ n6_; clear hb hbox hg; have hnb59 := NB854_850.out; have hnc59 := NB850_854.out; obtain ⟨hcz60_0, hcz60_1, hcz60_2, hcz60_3⟩ := bc4 BK854.out; obtain ⟨hfz60_0, hfz60_1, hfz60_2, hfz60_3⟩ := bf4 BK854.out) | (go_at_call 82; (with_reducible refine (record_Check.calls ((Zag l0_3 x49_2).f0) ((Zag l0_3 x49_2).f1) ((Zag l0_3 x49_2).f2) _ _ ((Zag l0_3 x49_2).f3) t855 _ ?side1 ?side2 ?side3 A24.out).mono ?_); (case side1 => exact GT.below (by decide) HG.out (zb3 HB GE850.out GE854.out)); (case side2 => exact Kd.C_below HR853_3.out (zb3 HB GE850.out GE854.out)); (case side3 => exact HC853_3.out); rintro e w61 ⟨rfl, hb⟩; have n0_ := Zaa.mk (Zah (g := gb850) (o := .cells #[.int .i64 a0_0, .int .i64 a0_1, .int .i64 a0_2, .slice (some ad853) l0_3.length c0_3, .bool a0_4] 58 (0, 0)) (by (with_reducible repeat (first | refine Zac ?_ _ | refine Zad ?_ | refine Zab ?_ _)); refine Zak ?_ NB850_854.out _; (with_reducible repeat (first | refine Zac ?_ _ | refine Zad ?_ | refine Zab ?_ _)); refine Zak ?_ NB850_854.out _; (with_reducible repeat (first | refine Zac ?_ _ | refine Zad ?_ | refine Zab ?_ _)); refine Zak ?_ NB850_854.out _; (with_reducible repeat (first | refine Zac ?_ _ | refine Zad ?_ | refine Zab ?_ _)); refine Zak ?_ NB850_854.out _; (with_reducible repeat (first | refine Zac ?_ _ | refine Zad ?_ | refine Zab ?_ _)); exact BK850.out) hb); have n1_ := Zaa.mk (Zah (g := gb854) (o := .cells #[.int .i64 ((Zag l0_3 x49_2).f0), .int .i64 ((Zag l0_3 x49_2).f1), .int .i64 ((Zag l0_3 x49_2).f2), .slice A853_3 ((Zag l0_3 x49_2).f3).length c853_3] 43 (0, 0)) (by (with_reducible repeat (first | refine Zac ?_ _ | refine Zad ?_ | refine Zab ?_ _)); refine Zaj (cs := #[.int .i64 ((Zag l0_3 x49_2).f0), .int .i64 ((Zag l0_3 x49_2).f1), .int .i64 ((Zag l0_3 x49_2).f2), .slice none 0 0]) ?_ 3 _ rfl; (with_reducible repeat (first | refine Zac ?_ _ | refine Zad ?_ | refine Zab ?_ _)); refine Zaj (cs := #[.int .i64 ((Zag l0_3 x49_2).f0), .int .i64 ((Zag l0_3 x49_2).f1), .int .i64 0, .slice none 0 0]) ?_ 2 _ rfl; (with_reducible repeat (first | refine Zac ?_ _ | refine Zad ?_ | refine Zab ?_ _)); refine Zaj (cs := #[.int .i64 ((Zag l0_3 x49_2).f0), .int .i64 0, .int .i64 0, .slice none 0 0]) ?_ 1 _ rfl; (with_reducible repeat (first | refine Zac ?_ _ | refine Zad ?_ | refine Zab ?_ _)); refine Zaj (cs := #[.int .i64 0, .int .i64 0, .int .i64 0, .slice none 0 0]) ?_ 0 _ rfl; (with_reducible repeat (first | refine Zac ?_ _ | refine Zad ?_ | refine Zab ?_ _)); exact BK854.out) hb); have n2_ := Zaa.mk (Zaf (zb3 HB GE850.out GE854.out) hb); clear BK850; clear BK854; clear HB; have BK850 := n0_; have BK854 := n1_; have HB := n2_; clear n0_ n1_ n2_; (try clear hb); (try clear hb2); (try clear hk); (try clear hi); obtain ⟨hcz62_0, hcz62_1, hcz62_2, hcz62_3⟩ := bc4 BK854.out; obtain ⟨hfz62_0, hfz62_1, hfz62_2, hfz62_3⟩ := bf4 BK854.out; obtain ⟨hcz63_0, hcz63_1, hcz63_2, hcz63_3, hcz63_4⟩ := bc5 BK850.out; obtain ⟨hfz63_0, hfz63_1, hfz63_2, hfz63_3, hfz63_4⟩ := bf5 BK850.out) | (go_at_call 43; (with_reducible refine (record_Single.calls ((Zag l0_3 x49_2).f0) t857 _ ?side1 A57.out).mono ?_); (case side1 => exact GT.below (by decide) HG.out (zb3 HB GE850.out GE854.out)); rintro e w64 ⟨rfl, hb⟩; have n0_ := Zaa.mk (Zah (g := gb850) (o := .cells #[.int .i64 a0_0, .int .i64 a0_1, .int .i64 a0_2, .slice (some ad853) l0_3.length c0_3, .bool a0_4] 58 (0, 0)) (zbk BK850) hb); have n1_ := Zaa.mk (Zah (g := gb854) (o := .cells #[.int .i64 ((Zag l0_3 x49_2).f0), .int .i64 ((Zag l0_3 x49_2).f1), .int .i64 ((Zag l0_3 x49_2).f2), .slice A853_3 ((Zag l0_3 x49_2).f3).length c853_3] 43 (0, 0)) (zbk BK854) hb); have n2_ := Zaa.mk (Zaf (zb3 HB GE850.out GE854.out) hb); clear BK850; clear BK854; clear HB; have BK850 := n0_; have BK854 := n1_; have HB := n2_; clear n0_ n1_ n2_; (try clear hb); (try clear hb2); (try clear hk); (try clear hi))); try go_wp2_with (first | ((with_reducible refine Zao (N := 6) rfl ?_); refine Zap ?hg (N := 6) ?hd (cs := #[.int .i64 0, .int .i64 0, .int .i64 0, .slice none 0 0]) (t := 43) ?hr ?_; (case hd => rfl); (case hg => rfl); (case hr => first | (go_simp; done) | (go_simp; rfl)); intro gb854 hg w58 hbox hb; have n0_ := Zaa.mk (Zah (g := gb850) (o := .cells #[.int .i64 a0_0, .int .i64 a0_1, .int .i64 a0_2, .slice (some ad853) l0_3.length c0_3, .bool a0_4] 58 (0, 0)) (zbk BK850) hb); have n1_ := Zaa.mk (Zaf (zb2 HB GE850.out) hb); have n2_ := Zaa.mk (hbox); have n3_ := Zaa.mk ((by rw [hg]; exact (Zae (zb2 HB GE850.out)) : w.heap.size ≤ gb854)); have n4_ := Zaa.mk ((by rw [hg]; exact (Zae (zb2 HB GE850.out)) : w.heap.size ≤ gb854)); have n5_ := Zaa.mk ((by rw [hg]; exact Nat.ne_of_lt (Za1 (g := gb850) (o := .cells #[.int .i64 a0_0, .int .i64 a0_1, .int .i64 a0_2, .slice (some ad853) l0_3.length c0_3, .bool a0_4] 58 (0, 0)) (zbk BK850)) : gb850 ≠ gb854)); have n6_ := Zaa.mk ((by rw [hg]; exact Nat.ne_of_gt (Za1 (g := gb850) (o := .cells #[.int .i64 a0_0, .int .i64 a0_1, .int .i64 a0_2, .slice (some ad853) l0_3.length c0_3, .bool a0_4] 58 (0, 0)) (zbk BK850)) : gb854 ≠ gb850)); clear BK850; clear HB; have BK850 := n0_; have HB := n1_; have BK854 := n2_; have GW854 := n3_; have GE854 := n4_; have NB850_854 := n5_; have NB854_850 := n6_; clear n0_ n1_ n2_ n3_ n4_ n5_ n6_; clear hb hbox hg; have hnb59 := NB854_850.out; have hnc59 := NB850_854.out; obtain ⟨hcz60_0, hcz60_1, hcz60_2, hcz60_3⟩ := bc4 BK854.out; obtain ⟨hfz60_0, hfz60_1, hfz60_2, hfz60_3⟩ := bf4 BK854.out) | (go_at_call 82; (with_reducible refine (record_Check.calls ((Zag l0_3 x49_2).f0) ((Zag l0_3 x49_2).f1) ((Zag l0_3 x49_2).f2) _ _ ((Zag l0_3 x49_2).f3) t855 _ ?side1 ?side2 ?side3 A24.out).mono ?_); (case side1 => exact GT.below (by decide) HG.out (zb3 HB GE850.out GE854.out)); (case side2 => exact Kd.C_below HR853_3.out (zb3 HB GE850.out GE854.out)); (case side3 => exact HC853_3.out); rintro e w61 ⟨rfl, hb⟩; have n0_ := Zaa.mk (Zah (g := gb850) (o := .cells #[.int .i64 a0_0, .int .i64 a0_1, .int .i64 a0_2, .slice (some ad853) l0_3.length c0_3, .bool a0_4] 58 (0, 0)) (by (with_reducible repeat (first | refine Zac ?_ _ | refine Zad ?_ | refine Zab ?_ _)); refine Zak ?_ NB850_854.out _; (with_reducible repeat (first | refine Zac ?_ _ | refine Zad ?_ | refine Zab ?_ _)); refine Zak ?_ NB850_854.out _; (with_reducible repeat (first | refine Zac ?_ _ | refine Zad ?_ | refine Zab ?_ _)); refine Zak ?_ NB850_854.out _; (with_reducible repeat (first | refine Zac ?_ _ | refine Zad ?_ | refine Zab ?_ _)); refine Zak ?_ NB850_854.out _; (with_reducible repeat (first | refine Zac ?_ _ | refine Zad ?_ | refine Zab ?_ _)); exact BK850.out) hb); have n1_ := Zaa.mk (Zah (g := gb854) (o := .cells #[.int .i64 ((Zag l0_3 x49_2).f0), .int .i64 ((Zag l0_3 x49_2).f1), .int .i64 ((Zag l0_3 x49_2).f2), .slice A853_3 ((Zag l0_3 x49_2).f3).length c853_3] 43 (0, 0)) (by (with_reducible repeat (first | refine Zac ?_ _ | refine Zad ?_ | refine Zab ?_ _)); refine Zaj (cs := #[.int .i64 ((Zag l0_3 x49_2).f0), .int .i64 ((Zag l0_3 x49_2).f1), .int .i64 ((Zag l0_3 x49_2).f2), .slice none 0 0]) ?_ 3 _ rfl; (with_reducible repeat (first | refine Zac ?_ _ | refine Zad ?_ | refine Zab ?_ _)); refine Zaj (cs := #[.int .i64 ((Zag l0_3 x49_2).f0), .int .i64 ((Zag l0_3 x49_2).f1), .int .i64 0, .slice none 0 0]) ?_ 2 _ rfl; (with_reducible repeat (first | refine Zac ?_ _ | refine Zad ?_ | refine Zab ?_ _)); refine Zaj (cs := #[.int .i64 ((Zag l0_3 x49_2).f0), .int .i64 0, .int .i64 0, .slice none 0 0]) ?_ 1 _ rfl; (with_reducible repeat (first | refine Zac ?_ _ | refine Zad ?_ | refine Zab ?_ _)); refine Zaj (cs := #[.int .i64 0, .int .i64 0, .int .i64 0, .slice none 0 0]) ?_ 0 _ rfl; (with_reducible repeat (first | refine Zac ?_ _ | refine Zad ?_ | refine Zab ?_ _)); exact BK854.out) hb); have n2_ := Zaa.mk (Zaf (zb3 HB GE850.out GE854.out) hb); clear BK850; clear BK854; clear HB; have BK850 := n0_; have BK854 := n1_; have HB := n2_; clear n0_ n1_ n2_; (try clear hb); (try clear hb2); (try clear hk); (try clear hi); obtain ⟨hcz62_0, hcz62_1, hcz62_2, hcz62_3⟩ := bc4 BK854.out; obtain ⟨hfz62_0, hfz62_1, hfz62_2, hfz62_3⟩ := bf4 BK854.out; obtain ⟨hcz63_0, hcz63_1, hcz63_2, hcz63_3, hcz63_4⟩ := bc5 BK850.out; obtain ⟨hfz63_0, hfz63_1, hfz63_2, hfz63_3, hfz63_4⟩ := bf5 BK850.out) | (go_at_call 43; (with_reducible refine (record_Single.calls ((Zag l0_3 x49_2).f0) t857 _ ?side1 A57.out).mono ?_); (case side1 => exact GT.below (by decide) HG.out (zb3 HB GE850.out GE854.out)); rintro e w64 ⟨rfl, hb⟩; have n0_ := Zaa.mk (Zah (g := gb850) (o := .cells #[.int .i64 a0_0, .int .i64 a0_1, .int .i64 a0_2, .slice (some ad853) l0_3.length c0_3, .bool a0_4] 58 (0, 0)) (zbk BK850) hb); have n1_ := Zaa.mk (Zah (g := gb854) (o := .cells #[.int .i64 ((Zag l0_3 x49_2).f0), .int .i64 ((Zag l0_3 x49_2).f1), .int .i64 ((Zag l0_3 x49_2).f2), .slice A853_3 ((Zag l0_3 x49_2).f3).length c853_3] 43 (0, 0)) (zbk BK854) hb); have n2_ := Zaa.mk (Zaf (zb3 HB GE850.out GE854.out) hb); clear BK850; clear BK854; clear HB; have BK850 := n0_; have BK854 := n1_; have HB := n2_; clear n0_ n1_ n2_; (try clear hb); (try clear hb2); (try clear hk); (try clear hi))))
             go_roundg k2
             case measure => have := HJ1.out; have := HK2.out; omega
             case rel => exact ⟨(t857), (wrap64 (x49_2 + 1)), (by first | rfl | (simp; done) | (simp [*]; done)), (by first | rfl | (simp; done) | (simp [*]; done)), H', ⟨by have := HJ1.out; have := HK2.out; omega⟩, ⟨by (with_reducible repeat (first | refine Zac ?_ _ | refine Zad ?_ | refine Zab ?_ _)); exact BK850.out⟩, ⟨(zb3 HB GE850.out GE854.out)⟩⟩
          ·rw [if_neg c26] at H
           have c26b0 : (((Zag l0_3 x49_2).f2) == a0_1) = false := beq_eq_false_iff_ne.mpr c26
           have c26b1 : (((Zag l0_3 x49_2).f2) != a0_1) = true := bne_iff_ne.mpr c26
           obtain rfl := Option.some.inj H
           have p853 : 0 ≤ (x49_2 : Int) := zod
           have q853 : x49_2 < (l0_3.length : Int) := zod
           obtain ⟨ad853, A853_3, c853_3, e853, hx853_0, hx853_1, hx853_2, hx853_3, hl853_3, hi853_3⟩ := at_T43 HR0_3.out x49_2 p853 q853
           cases e853
           replace hx853_0 := (HB.out.cell (World.block_lt_of_cell? w _ hx853_0)).trans hx853_0
           replace hx853_1 := (HB.out.cell (World.block_lt_of_cell? w _ hx853_1)).trans hx853_1
           replace hx853_2 := (HB.out.cell (World.block_lt_of_cell? w _ hx853_2)).trans hx853_2
           replace hx853_3 := (HB.out.cell (World.block_lt_of_cell? w _ hx853_3)).trans hx853_3
           have HR853_3 := Zaa.mk hi853_3
           have HC853_3 := Zaa.mk hl853_3
           clear hi853_3 hl853_3
           replace p853 := eq_true p853
           replace q853 := eq_true q853
           go_wp2_with (first | ((with_reducible refine Zao (N := 6) rfl ?_); refine Zap ?hg (N := 6) ?hd (cs := #[.int .i64 0, .int .i64 0, .int .i64 0, .slice none 0 0]) (t := 43) ?hr ?_; (case hd => rfl); (case hg => rfl); (case hr => first | (go_simp; done) | (go_simp; rfl)); intro gb854 hg w65 hbox hb; have BK854 := Zaa.mk (hbox); have GW854 := Zaa.mk ((by rw [hg]; exact (Zae (zb2 HB GE850.out)) : w.heap.size ≤ gb854)); have GE854 := Zaa.mk ((by rw [hg]; exact (Zae (zb2 HB GE850.out)) : w.heap.size ≤ gb854)); replace HB := Zaa.mk (Zaf (zb2 HB GE850.out) hb); have NB850_854 := Zaa.mk ((by rw [hg]; exact Nat.ne_of_lt (Za1 (g := gb850) (o := .cells #[.int .i64 a0_0, .int .i64 a0_1, .int .i64 a0_2, .slice (some ad853) l0_3.length c0_3, .bool a0_4] 58 (0, 0)) (zbk BK850)) : gb850 ≠ gb854)); have NB854_850 := Zaa.mk ((by rw [hg]; exact Nat.ne_of_gt (Za1 (g := gb850) (o := .cells #[.int .i64 a0_0, .int .i64 a0_1, .int .i64 a0_2, .slice (some ad853) l0_3.length c0_3, .bool a0_4] 58 (0, 0)) (zbk BK850)) : gb854 ≠ gb850)); replace BK850 := Zaa.mk (Zah (g := gb850) (o := .cells #[.int .i64 a0_0, .int .i64 a0_1, .int .i64 a0_2, .slice (some ad853) l0_3.length c0_3, .bool a0_4] 58 (0, 0)) (zbk BK850) hb); clear hb hbox hg; have hnb66 := NB854_850.out; have hnc66 := NB850_854.out; obtain ⟨hcz67_0, hcz67_1, hcz67_2, hcz67_3⟩ := bc4 BK854.out; obtain ⟨hfz67_0, hfz67_1, hfz67_2, hfz67_3⟩ := bf4 BK854.out) | (go_at_call 82; (with_reducible refine (record_Check.calls ((Zag l0_3 x49_2).f0) ((Zag l0_3 x49_2).f1) ((Zag l0_3 x49_2).f2) _ _ ((Zag l0_3 x49_2).f3) t855 _ ?side1 ?side2 ?side3 A24.out).mono ?_); (case side1 => exact GT.below (by decide) HG.out (zb3 HB GE850.out GE854.out)); (case side2 => exact Kd.C_below HR853_3.out (zb3 HB GE850.out GE854.out)); (case side3 => exact HC853_3.out); rintro e w68 ⟨rfl, hb⟩; replace BK850 := Zaa.mk (Zah (g := gb850) (o := .cells #[.int .i64 a0_0, .int .i64 a0_1, .int .i64 a0_2, .slice (some ad853) l0_3.length c0_3, .bool a0_4] 58 (0, 0)) (by (with_reducible repeat (first | refine Zac ?_ _ | refine Zad ?_ | refine Zab ?_ _)); refine Zak ?_ NB850_854.out _; (with_reducible repeat (first | refine Zac ?_ _ | refine Zad ?_ | refine Zab ?_ _)); refine Zak ?_ NB850_854.out _; (with_reducible repeat (first | refine Zac ?_ _ | refine Zad ?_ | refine Zab ?_ _)); refine Zak ?_ NB850_854.out _; (with_reducible repeat (first | refine Zac ?_ _ | refine Zad ?_ | refine Zab ?_ _)); refine Zak ?_ NB850_854.out _; (with_reducible repeat (first | refine Zac ?_ _ | refine Zad ?_ | refine Zab ?_ _)); exact BK850.out) hb); replace BK854 := Zaa.mk (Zah (g := gb854) (o := .cells #[.int .i64 ((Zag l0_3 x49_2).f0), .int .i64 ((Zag l0_3 x49_2).f1), .int .i64 ((Zag l0_3 x49_2).f2), .slice A853_3 ((Zag l0_3 x49_2).f3).length c853_3] 43 (0, 0)) (by (with_reducible repeat (first | refine Zac ?_ _ | refine Zad ?_ | refine Zab ?_ _)); refine Zaj (cs := #[.int .i64 ((Zag l0_3 x49_2).f0), .int .i64 ((Zag l0_3 x49_2).f1), .int .i64 ((Zag l0_3 x49_2).f2), .slice none 0 0]) ?_ 3 _ rfl; (with_reducible repeat (first | refine Zac ?_ _ | refine Zad ?_ | refine Zab ?_ _)); refine Zaj (cs := #[.int .i64 ((Zag l0_3 x49_2).f0), .int .i64 ((Zag l0_3 x49_2).f1), .int .i64 0, .slice none 0 0]) ?_ 2 _ rfl; (with_reducible repeat (first | refine Zac ?_ _ | refine Zad ?_ | refine Zab ?_ _)); refine Zaj (cs := #[.int .i64 ((Zag l0_3 x49_2).f0), .int .i64 0, .int .i64 0, .slice none 0 0]) ?_ 1 _ rfl; (with_reducible repeat (first | refine Zac ?_ _ | refine Zad ?_ | refine Zab ?_ _)); refine Zaj (cs := #[.int .i64 0, .int .i64 0, .int .i64 0, .slice none 0 0]) ?_ 0 _ rfl; (with_reducible repeat (first | refine Zac ?_ _ | refine Zad ?_ | refine Zab ?_ _)); exact BK854.out) hb); replace HB := Zaa.mk (Zaf (zb3 HB GE850.out GE854.out) hb); (try clear hb); obtain ⟨hcz69_0, hcz69_1, hcz69_2, hcz69_3⟩ := bc4 BK854.out; obtain ⟨hfz69_0, hfz69_1, hfz69_2, hfz69_3⟩ := bf4 BK854.out; obtain ⟨hcz70_0, hcz70_1, hcz70_2, hcz70_3, hcz70_4⟩ := bc5 BK850.out; obtain ⟨hfz70_0, hfz70_1, hfz70_2, hfz70_3, hfz70_4⟩ := bf5 BK850.out))
           repeat (go_quiet (first | ((with_reducible refine Zao (N := 6) rfl ?_); refine Zap ?hg (N := 6) ?hd (cs := #[.int .i64 0, .int .i64 0, .int .i64 0, .slice none 0 0]) (t := 43) ?hr ?_; (case hd => rfl); (case hg => rfl); (case hr => first | (go_simp; done) | (go_simp; rfl)); intro gb854 hg w65 hbox hb; have n0_ := Zaa.mk (Zah (g := gb850) (o := .cells #[.int .i64 a0_0, .int .i64 a0_1, .int .i64 a0_2, .slice (some ad853) l0_3.length c0_3, .bool a0_4] 58 (0, 0)) (zbk BK850) hb); have n1_ := Zaa.mk (Zaf (zb2 HB GE850.out) hb); have n2_ := Zaa.mk (hbox); have n3_ := Zaa.mk ((by rw [hg]; exact (Zae (zb2 HB GE850.out)) : w.heap.size ≤ gb854)); have n4_ := Zaa.mk ((by rw [hg]; exact (Zae (zb2 HB GE850.out)) : w.heap.size ≤ gb854)); have n5_ := Zaa.mk ((by rw [hg]; exact Nat.ne_of_lt (Za1 (g := gb850) (o := .cells #[.int .i64 a0_0, .int .i64 a0_1, .int .i64 a0_2, .slice (some ad853) l0_3.length c0_3, .bool a0_4] 58 (0, 0)) (zbk BK850)) : gb850 ≠ gb854)); have n6_ := Zaa.mk ((by rw [hg]; exact Nat.ne_of_gt (Za1 (g := gb850) (o := .cells #[.int .i64 a0_0, .int .i64 a0_1, .int .i64 a0_2, .slice (some ad853) l0_3.length c0_3, .bool a0_4] 58 (0, 0)) (zbk BK850)) : gb854 ≠ gb850)); clear BK850; clear HB; have BK850 := n0_; have HB := n1_; have BK854 := n2_; have GW854 := n3_; have GE854 := n4_; have NB850_854 := n5_; have NB854_850 := n6_; clear n0_ n1_ n2_ n3_ n4_ n5_ n6_; clear hb hbox hg; have hnb66 := NB854_850.out; have hnc66 := NB850_854.out; obtain ⟨hcz67_0, hcz67_1, hcz67_2, hcz67_3⟩ := bc4 BK854.out; obtain ⟨hfz67_0, hfz67_1, hfz67_2, hfz67_3⟩ := bf4 BK854.out) | (go_at_call 82; (with_reducible refine (record_Check.calls ((Zag l0_3 x49_2).f0) ((Zag l0_3 x49_2).f1) ((Zag l0_3 x49_2).f2) _ _ ((Zag l0_3 x49_2).f3) t855 _ ?side1 ?side2 ?side3 A24.out).mono ?_); (case side1 => exact GT.below (by decide) HG.out (zb3 HB GE850.out GE854.out)); (case side2 => exact Kd.C_below HR853_3.out (zb3 HB GE850.out GE854.out)); (case side3 => exact HC853_3.out); rintro e w68 ⟨rfl, hb⟩; have n0_ := Zaa.mk (Zah (g := gb850) (o := .cells #[.int .i64 a0_0, .int .i64 a0_1, .int .i64 a0_2, .slice (some ad853) l0_3.length c0_3, .bool a0_4] 58 (0, 0)) (by (with_reducible repeat (first | refine Zac ?_ _ | refine Zad ?_ | refine Zab ?_ _)); refine Zak ?_ NB850_854.out _; (with_reducible repeat (first | refine Zac ?_ _ | refine Zad ?_ | refine Zab ?_ _)); refine Zak ?_ NB850_854.out _; (with_reducible repeat (first | refine Zac ?_ _ | refine Zad ?_ | refine Zab ?_ _)); refine Zak ?_ NB850_854.out _; (with_reducible repeat (first | refine Zac ?_ _ | refine Zad ?_ | refine Zab ?_ _)); refine Zak ?_ NB850_854.out _; (with_reducible repeat (first | refine Zac ?_ _ | refine Zad ?_ | refine Zab ?_ _)); exact BK850.out) hb); have n1_ := Zaa.mk (Zah (g := gb854) (o := .cells #[.int .i64 ((Zag l0_3 x49_2).f0), .int .i64 ((Zag l0_3 x49_2).f1), .int .i64 ((Zag l0_3 x49_2).f2), .slice A853_3 ((Zag l0_3 x49_2).f3).length c853_3] 43 (0, 0)) (by (with_reducible repeat (first | refine Zac ?_ _ | refine Zad ?_ | refine Zab ?_ _)); refine Zaj (cs := #[.int .i64 ((Zag l0_3 x49_2).f0), .int .i64 ((Zag l0_3 x49_2).f1), .int .i64 ((Zag l0_3 x49_2).f2), .slice none 0 0]) ?_ 3 _ rfl; (with_reducible repeat (first | refine Zac ?_ _ | refine Zad ?_ | refine Zab ?_ _)); refine Zaj (cs := #[.int .i64 ((Zag l0_3 x49_2).f0), .int .i64 ((Zag l0_3 x49_2).f1), .int .i64 0, .slice none 0 0]) ?_ 2 _ rfl; (with_reducible repeat (first | refine Zac ?_ _ | refine Zad ?_ | refine Zab ?_ _)); refine Zaj (cs := #[.int .i64 ((Zag l0_3 x49_2).f0), .int .i64 0, .int .i64 0, .slice none 0 0]) ?_ 1 _ rfl; (with_reducible repeat (first | refine Zac ?_ _ | refine Zad ?_ | refine Zab ?_ _)); refine Zaj (cs := #[.int .i64 0, .int .i64 0, .int .i64 0, .slice none 0 0]) ?_ 0 _ rfl; (with_reducible repeat (first | refine Zac ?_ _ | refine Zad ?_ | refine Zab ?_ _)); exact BK854.out) hb); have n2_ := Zaa.mk (Zaf (zb3 HB GE850.out GE854.out) hb); clear BK850; clear BK854; clear HB; have BK850 := n0_; have BK854 := n1_; have HB := n2_; clear n0_ n1_ n2_; (try clear hb); (try clear hb2); (try clear hk); (try clear hi); obtain ⟨hcz69_0, hcz69_1, hcz69_2, hcz69_3⟩ := bc4 BK854.out; obtain ⟨hfz69_0, hfz69_1, hfz69_2, hfz69_3⟩ := bf4 BK854.out; obtain ⟨hcz70_0, hcz70_1, hcz70_2, hcz70_3, hcz70_4⟩ := bc5 BK850.out; obtain ⟨hfz70_0, hfz70_1, hfz70_2, hfz70_3, hfz70_4⟩ := bf5 BK850.out)); try go_wp2_with (first | ((with_reducible refine Zao (N := 6) rfl ?_); refine Zap ?hg (N := 6) ?hd (cs := #[.int .i64 0, .int .i64 0, .int .i64 0, .slice none 0 0]) (t := 43) ?hr ?_; (case hd => rfl); (case hg => rfl); (case hr => first | (go_simp; done) | (go_simp; rfl)); intro gb854 hg w65 hbox hb; have n0_ := Zaa.mk (Zah (g := gb850) (o := .cells #[.int .i64 a0_0, .int .i64 a0_1, .int .i64 a0_2, .slice (some ad853) l0_3.length c0_3, .bool a0_4] 58 (0, 0)) (zbk BK850) hb); have n1_ := Zaa.mk (Zaf (zb2 HB GE850.out) hb); have n2_ := Zaa.mk (hbox); have n3_ := Zaa.mk ((by rw [hg]; exact (Zae (zb2 HB GE850.out)) : w.heap.size ≤ gb854)); have n4_ := Zaa.mk ((by rw [hg]; exact (Zae (zb2 HB GE850.out)) : w.heap.size ≤ gb854)); have n5_ := Zaa.mk ((by rw [hg]; exact Nat.ne_of_lt (Za1 (g := gb850) (o := .cells #[.int .i64 a0_0, .int .i64 a0_1, .int .i64 a0_2, .slice (some ad853) l0_3.length c0_3, .bool a0_4] 58 (0, 0)) (zbk BK850)) : gb850 ≠ gb854)); have n6_ := Zaa.mk ((by rw [hg]; exact Nat.ne_of_gt (Za1 (g := gb850) (o := .cells #[.int .i64 a0_0, .int .i64 a0_1, .int .i64 a0_2, .slice (some ad853) l0_3.length c0_3, .bool a0_4] 58 (0, 0)) (zbk BK850)) : gb854 ≠ gb850)); clear BK850; clear HB; have BK850 := n0_; have HB := n1_; have BK854 := n2_; have GW854 := n3_; have GE854 := n4_; have NB850_854 := n5_; have NB854_850 := n6_; clear n0_ n1_ n2_ n3_ n4_ n5_ n6_; clear hb hbox hg; have hnb66 := NB854_850.out; have hnc66 := NB850_854.out; obtain ⟨hcz67_0, hcz67_1, hcz67_2, hcz67_3⟩ := bc4 BK854.out; obtain ⟨hfz67_0, hfz67_1, hfz67_2, hfz67_3⟩ := bf4 BK854.out) | (go_at_call 82; (with_reducible refine (record_Check.calls ((Zag l0_3 x49_2).f0) ((Zag l0_3 x49_2).f1) ((Zag l0_3 x49_2).f2) _ _ ((Zag l0_3 x49_2).f3) t855 _ ?side1 ?side2 ?side3 A24.out).mono ?_); (case side1 => exact GT.below (by decide) HG.out (zb3 HB GE850.out GE854.out)); (case side2 => exact Kd.C_below HR853_3.out (zb3 HB GE850.out GE854.out)); (case side3 => exact HC853_3.out); rintro e w68 ⟨rfl, hb⟩; have n0_ := Zaa.mk (Zah (g := gb850) (o := .cells #[.int .i64 a0_0, .int .i64 a0_1, .int .i64 a0_2, .slice (some ad853) l0_3.length c0_3, .bool a0_4] 58 (0, 0)) (by (with_reducible repeat (first | refine Zac ?_ _ | refine Zad ?_ | refine Zab ?_ _)); refine Zak ?_ NB850_854.out _; (with_reducible repeat (first | refine Zac ?_ _ | refine Zad ?_ | refine Zab ?_ _)); refine Zak ?_ NB850_854.out _; (with_reducible repeat (first | refine Zac ?_ _ | refine Zad ?_ | refine Zab ?_ _)); refine Zak ?_ NB850_854.out _; (with_reducible repeat (first | refine Zac ?_ _ | refine Zad ?_ | refine Zab ?_ _)); refine Zak ?_ NB850_854.out _; (with_reducible repeat (first | refine Zac ?_ _ | refine Zad ?_ | refine Zab ?_ _)); exact BK850.out) hb); have n1_ := Zaa.mk (Zah (g := gb854) (o := .cells #[.int .i64 ((Zag l0_3 x49_2).f0), .int .i64 ((Zag l0_3 x49_2).f1), .int .i64 ((Zag l0_3 x49_2).f2), .slice A853_3 ((Zag l0_3 x49_2).f3).length c853_3] 43 (0, 0)) (by (with_reducible repeat (first | refine Zac ?_ _ | refine Zad ?_ | refine Zab ?_ _)); refine Zaj (cs := #[.int .i64 ((Zag l0_3 x49_2).f0), .int .i64 ((Zag l0_3 x49_2).f1), .int .i64 ((Zag l0_3 x49_2).f2), .slice none 0 0]) ?_ 3 _ rfl; (with_reducible repeat (first | refine Zac ?_ _ | refine Zad ?_ | refine Zab ?_ _)); refine Zaj (cs := #[.int .i64 ((Zag l0_3 x49_2).f0), .int .i64 ((Zag l0_3 x49_2).f1), .int .i64 0, .slice none 0 0]) ?_ 2 _ rfl; (with_reducible repeat (first | refine Zac ?_ _ | refine Zad ?_ | refine Zab ?_ _)); refine Zaj (cs := #[.int .i64 ((Zag l0_3 x49_2).f0), .int .i64 0, .int .i64 0, .slice none 0 0]) ?_ 1 _ rfl; (with_reducible repeat (first | refine Zac ?_ _ | refine Zad ?_ | refine Zab ?_ _)); refine Zaj (cs := #[.int .i64 0, .int .i64 0, .int .i64 0, .slice none 0 0]) ?_ 0 _ rfl; (with_reducible repeat (first | refine Zac ?_ _ | refine Zad ?_ | refine Zab ?_ _)); exact BK854.out) hb); have n2_ := Zaa.mk (Zaf (zb3 HB GE850.out GE854.out) hb); clear BK850; clear BK854; clear HB; have BK850 := n0_; have BK854 := n1_; have HB := n2_; clear n0_ n1_ n2_; (try clear hb); (try clear hb2); (try clear hk); (try clear hi); obtain ⟨hcz69_0, hcz69_1, hcz69_2, hcz69_3⟩ := bc4 BK854.out; obtain ⟨hfz69_0, hfz69_1, hfz69_2, hfz69_3⟩ := bf4 BK854.out; obtain ⟨hcz70_0, hcz70_1, hcz70_2, hcz70_3, hcz70_4⟩ := bc5 BK850.out; obtain ⟨hfz70_0, hfz70_1, hfz70_2, hfz70_3, hfz70_4⟩ := bf5 BK850.out)))
           go_ret
           exact ⟨by first | rfl | (simp [errW_none, errW_some] <;> rfl) | (simp [*, errW_none, errW_some] <;> rfl), (zb3 HB GE850.out GE854.out)⟩
         ·rw [if_neg c25] at H
          have c25b0 : (t855 == 0) = false := beq_eq_false_iff_ne.mpr c25
          have c25b1 : (t855 != 0) = true := bne_iff_ne.mpr c25
          obtain rfl := Option.some.inj H
          have p853 : 0 ≤ (x49_2 : Int) := zod
          have q853 : x49_2 < (l0_3.length : Int) := zod
          obtain ⟨ad853, A853_3, c853_3, e853, hx853_0, hx853_1, hx853_2, hx853_3, hl853_3, hi853_3⟩ := at_T43 HR0_3.out x49_2 p853 q853
          cases e853
          replace hx853_0 := (HB.out.cell (World.block_lt_of_cell? w _ hx853_0)).trans hx853_0
          replace hx853_1 := (HB.out.cell (World.block_lt_of_cell? w _ hx853_1)).trans hx853_1
          replace hx853_2 := (HB.out.cell (World.block_lt_of_cell? w _ hx853_2)).trans hx853_2
          replace hx853_3 := (HB.out.cell (World.block_lt_of_cell? w _ hx853_3)).trans hx853_3
          have HR853_3 := Zaa.mk hi853_3
          have HC853_3 := Zaa.mk hl853_3
          clear hi853_3 hl853_3
          replace p853 := eq_true p853
          replace q853 := eq_true q853
          go_wp2_with (first | ((with_reducible refine Zao (N := 6) rfl ?_); refine Zap ?hg (N := 6) ?hd (cs := #[.int .i64 0, .int .i64 0, .int .i64 0, .slice none 0 0]) (t := 43) ?hr ?_; (case hd => rfl); (case hg => rfl); (case hr => first | (go_simp; done) | (go_simp; rfl)); intro gb854 hg w71 hbox hb; have BK854 := Zaa.mk (hbox); have GW854 := Zaa.mk ((by rw [hg]; exact (Zae (zb2 HB GE850.out)) : w.heap.size ≤ gb854)); have GE854 := Zaa.mk ((by rw [hg]; exact (Zae (zb2 HB GE850.out)) : w.heap.size ≤ gb854)); replace HB := Zaa.mk (Zaf (zb2 HB GE850.out) hb); have NB850_854 := Zaa.mk ((by rw [hg]; exact Nat.ne_of_lt (Za1 (g := gb850) (o := .cells #[.int .i64 a0_0, .int .i64 a0_1, .int .i64 a0_2, .slice (some ad853) l0_3.length c0_3, .bool a0_4] 58 (0, 0)) (zbk BK850)) : gb850 ≠ gb854)); have NB854_850 := Zaa.mk ((by rw [hg]; exact Nat.ne_of_gt (Za1 (g := gb850) (o := .cells #[.int .i64 a0_0, .int .i64 a0_1, .int .i64 a0_2, .slice (some ad853) l0_3.length c0_3, .bool a0_4] 58 (0, 0)) (zbk BK850)) : gb854 ≠ gb850)); replace BK850 := Zaa.mk (Zah (g := gb850) (o := .cells #[.int .i64 a0_0, .int .i64 a0_1, .int .i64 a0_2, .slice (some ad853) l0_3.length c0_3, .bool a0_4] 58 (0, 0)) (zbk BK850) hb); clear hb hbox hg; have hnb72 := NB854_850.out; have hnc72 := NB850_854.out; obtain ⟨hcz73_0, hcz73_1, hcz73_2, hcz73_3⟩ := bc4 BK854.out; obtain ⟨hfz73_0, hfz73_1, hfz73_2, hfz73_3⟩ := bf4 BK854.out) | (go_at_call 82; (with_reducible refine (record_Check.calls ((Zag l0_3 x49_2).f0) ((Zag l0_3 x49_2).f1) ((Zag l0_3 x49_2).f2) _ _ ((Zag l0_3 x49_2).f3) t855 _ ?side1 ?side2 ?side3 A24.out).mono ?_); (case side1 => exact GT.below (by decide) HG.out (zb3 HB GE850.out GE854.out)); (case side2 => exact Kd.C_below HR853_3.out (zb3 HB GE850.out GE854.out)); (case side3 => exact HC853_3.out); rintro e w74 ⟨rfl, hb⟩; replace BK850 := Zaa.mk (Zah (g := gb850) (o := .cells #[.int .i64 a0_0, .int .i64 a0_1, .int .i64 a0_2, .slice (some ad853) l0_3.length c0_3, .bool a0_4] 58 (0, 0)) (by (with_reducible repeat (first | refine Zac ?_ _ | refine Zad ?_ | refine Zab ?_ _)); refine Zak ?_ NB850_854.out _; (with_reducible repeat (first | refine Zac ?_ _ | refine Zad ?_ | refine Zab ?_ _)); refine Zak ?_ NB850_854.out _; (with_reducible repeat (first | refine Zac ?_ _ | refine Zad ?_ | refine Zab ?_ _)); refine Zak ?_ NB850_854.out _; (with_reducible repeat (first | refine Zac ?_ _ | refine Zad ?_ | refine Zab ?_ _)); refine Zak ?_ NB850_854.out _; (with_reducible repeat (first | refine Zac ?_ _ | refine Zad ?_ | refine Zab ?_ _)); exact BK850.out) hb); replace BK854 := Zaa.mk (Zah (g := gb854) (o := .cells #[.int .i64 ((Zag l0_3 x49_2).f0), .int .i64 ((Zag l0_3 x49_2).f1), .int .i64 ((Zag l0_3 x49_2).f2), .slice A853_3 ((Zag l0_3 x49_2).f3).length c853_3] 43 (0, 0)) (by (with_reducible repeat (first | refine Zac ?_ _ | refine Zad ?_ | refine Zab ?_ _)); refine Zaj (cs := #[.int .i64 ((Zag l0_3 x49_2).f0), .int .i64 ((Zag l0_3 x49_2).f1), .int .i64 ((Zag l0_3 x49_2).f2), .slice none 0 0]) ?_ 3 _ rfl; (with_reducible repeat (first | refine Zac ?_ _ | refine Zad ?_ | refine Zab ?_ _)); refine Zaj (cs := #[.int .i64 ((Zag l0_3 x49_2).f0), .int .i64 ((Zag l0_3 x49_2).f1), .int .i64 0, .slice none 0 0]) ?_ 2 _ rfl; (with_reducible repeat (first | refine Zac ?_ _ | refine Zad ?_ | refine Zab ?_ _)); refine Zaj (cs := #[.int .i64 ((Zag l0_3 x49_2).f0), .int .i64 0, .int .i64 0, .slice none 0 0]) ?_ 1 _ rfl; (with_reducible repeat (first | refine Zac ?_ _ | refine Zad ?_ | refine Zab ?_ _)); refine Zaj (cs := #[.int .i64 0, .int .i64 0, .int .i64 0, .slice none 0 0]) ?_ 0 _ rfl; (with_reducible repeat (first | refine Zac ?_ _ | refine Zad ?_ | refine Zab ?_ _)); exact BK854.out) hb); replace HB := Zaa.mk (Zaf (zb3 HB GE850.out GE854.out) hb); (try clear hb)))
          repeat (go_quiet (first | ((with_reducible refine Zao (N := 6) rfl ?_); refine Zap ?hg (N := 6) ?hd (cs := #[.int .i64 0, .int .i64 0, .int .i64 0, .slice none 0 0]) (t := 43) ?hr ?_; (case hd => rfl); (case hg => rfl); (case hr => first | (go_simp; done) | (go_simp; rfl)); intro gb854 hg w71 hbox hb; have n0_ := Zaa.mk (Zah (g := gb850) (o := .cells #[.int .i64 a0_0, .int .i64 a0_1, .int .i64 a0_2, .slice (some ad853) l0_3.length c0_3, .bool a0_4] 58 (0, 0)) (zbk BK850) hb); have n1_ := Zaa.mk (Zaf (zb2 HB GE850.out) hb); have n2_ := Zaa.mk (hbox); have n3_ := Zaa.mk ((by rw [hg]; exact (Zae (zb2 HB GE850.out)) : w.heap.size ≤ gb854)); have n4_ := Zaa.mk ((by rw [hg]; exact (Zae (zb2 HB GE850.out)) : w.heap.size ≤ gb854)); have n5_ := Zaa.mk ((by rw [hg]; exact Nat.ne_of_lt (Za1 (g := gb850) (o := .cells #[.int .i64 a0_0, .int .i64 a0_1, .int .i64 a0_2, .slice (some ad853) l0_3.length c0_3, .bool a0_4] 58 (0, 0)) (zbk BK850)) : gb850 ≠ gb854)); have n6_ := Zaa.mk ((by rw [hg]; exact Nat.ne_of_gt (Za1 (g := gb850) (o := .cells #[.int .i64 a0_0, .int .i64 a0_1, .int .i64 a0_2, .slice (some ad853) l0_3.length c0_3, .bool a0_4] 58 (0, 0)) (zbk BK850)) : gb854 ≠ gb850)); clear BK850; clear HB; have BK850 := n0_; have HB := n1_; have BK854 := n2_; have GW854 := n3_; have GE854 := n4_; have NB850_854 := n5_; have NB854_850 := n6_; clear n0_ n1_ n2_ n3_ n4_ n5_ n6_; clear hb hbox hg; have hnb72 := NB854_850.out; have hnc72 := NB850_854.out; obtain ⟨hcz73_0, hcz73_1, hcz73_2, hcz73_3⟩ := bc4 BK854.out; obtain ⟨hfz73_0, hfz73_1, hfz73_2, hfz73_3⟩ := bf4 BK854.out) | (go_at_call 82; (with_reducible refine (record_Check.calls ((Zag l0_3 x49_2).f0) ((Zag l0_3 x49_2).f1) ((Zag l0_3 x49_2).f2) _ _ ((Zag l0_3 x49_2).f3) t855 _ ?side1 ?side2 ?side3 A24.out).mono ?_); (case side1 => exact GT.below (by decide) HG.out (zb3 HB GE850.out GE854.out)); (case side2 => exact Kd.C_below HR853_3.out (zb3 HB GE850.out GE854.out)); (case side3 => exact HC853_3.out); rintro e w74 ⟨rfl, hb⟩; have n0_ := Zaa.mk (Zah (g := gb850) (o := .cells #[.int .i64 a0_0, .int .i64 a0_1, .int .i64 a0_2, .slice (some ad853) l0_3.length c0_3, .bool a0_4] 58 (0, 0)) (by (with_reducible repeat (first | refine Zac ?_ _ | refine Zad ?_ | refine Zab ?_ _)); refine Zak ?_ NB850_854.out _; (with_reducible repeat (first | refine Zac ?_ _ | refine Zad ?_ | refine Zab ?_ _)); refine Zak ?_ NB850_854.out _; (with_reducible repeat (first | refine Zac ?_ _ | refine Zad ?_ | refine Zab ?_ _)); refine Zak ?_ NB850_854.out _; (with_reducible repeat (first | refine Zac ?_ _ | refine Zad ?_ | refine Zab ?_ _)); refine Zak ?_ NB850_854.out _; (with_reducible repeat (first | refine Zac ?_ _ | refine Zad ?_ | refine Zab ?_ _)); exact BK850.out) hb); have n1_ := Zaa.mk (Zah (g := gb854) (o := .cells #[.int .i64 ((Zag l0_3 x49_2).f0), .int .i64 ((Zag l0_3 x49_2).f1), .int .i64 ((Zag l0_3 x49_2).f2), .slice A853_3 ((Zag l0_3 x49_2).f3).length c853_3] 43 (0, 0)) (by (with_reducible repeat (first | refine Zac ?_ _ | refine Zad ?_ | refine Zab ?_ _)); refine Zaj (cs := #[.int .i64 ((Zag l0_3 x49_2).f0), .int .i64 ((Zag l0_3 x49_2).f1), .int .i64 ((Zag l0_3 x49_2).f2), .slice none 0 0]) ?_ 3 _ rfl; (with_reducible repeat (first | refine Zac ?_ _ | refine Zad ?_ | refine Zab ?_ _)); refine Zaj (cs := #[.int .i64 ((Zag l0_3 x49_2).f0), .int .i64 ((Zag l0_3 x49_2).f1), .int .i64 0, .slice none 0 0]) ?_ 2 _ rfl; (with_reducible repeat (first | refine Zac ?_ _ | refine Zad ?_ | refine Zab ?_ _)); refine Zaj (cs := #[.int .i64 ((Zag l0_3 x49_2).f0), .int .i64 0, .int .i64 0, .slice none 0 0]) ?_ 1 _ rfl; (with_reducible repeat (first | refine Zac ?_ _ | refine Zad ?_ | refine Zab ?_ _)); refine Zaj (cs := #[.int .i64 0, .int .i64 0, .int .i64 0, .slice none 0 0]) ?_ 0 _ rfl; (with_reducible repeat (first | refine Zac ?_ _ | refine Zad ?_ | refine Zab ?_ _)); exact BK854.out) hb); have n2_ := Zaa.mk (Zaf (zb3 HB GE850.out GE854.out) hb); clear BK850; clear BK854; clear HB; have BK850 := n0_; have BK854 := n1_; have HB := n2_; clear n0_ n1_ n2_; (try clear hb); (try clear hb2); (try clear hk); (try clear hi))); try go_wp2_with (first | ((with_reducible refine Zao (N := 6) rfl ?_); refine Zap ?hg (N := 6) ?hd (cs := #[.int .i64 0, .int .i64 0, .int .i64 0, .slice none 0 0]) (t := 43) ?hr ?_; (case hd => rfl); (case hg => rfl); (case hr => first | (go_simp; done) | (go_simp; rfl)); intro gb854 hg w71 hbox hb; have n0_ := Zaa.mk (Zah (g := gb850) (o := .cells #[.int .i64 a0_0, .int .i64 a0_1, .int .i64 a0_2, .slice (some ad853) l0_3.length c0_3, .bool a0_4] 58 (0, 0)) (zbk BK850) hb); have n1_ := Zaa.mk (Zaf (zb2 HB GE850.out) hb); have n2_ := Zaa.mk (hbox); have n3_ := Zaa.mk ((by rw [hg]; exact (Zae (zb2 HB GE850.out)) : w.heap.size ≤ gb854)); have n4_ := Zaa.mk ((by rw [hg]; exact (Zae (zb2 HB GE850.out)) : w.heap.size ≤ gb854)); have n5_ := Zaa.mk ((by rw [hg]; exact Nat.ne_of_lt (Za1 (g := gb850) (o := .cells #[.int .i64 a0_0, .int .i64 a0_1, .int .i64 a0_2, .slice (some ad853) l0_3.length c0_3, .bool a0_4] 58 (0, 0)) (zbk BK850)) : gb850 ≠ gb854)); have n6_ := Zaa.mk ((by rw [hg]; exact Nat.ne_of_gt (Za1 (g := gb850) (o := .cells #[.int .i64 a0_0, .int .i64 a0_1, .int .i64 a0_2, .slice (some ad853) l0_3.length c0_3, .bool a0_4] 58 (0, 0)) (zbk BK850)) : gb854 ≠ gb850)); clear BK850; clear HB; have BK850 := n0_; have HB := n1_; have BK854 := n2_; have GW854 := n3_; have GE854 := n4_; have NB850_854 := n5_; have NB854_850 := n6_; clear n0_ n1_ n2_ n3_ n4_ n5_ n6_; clear hb hbox hg; have hnb72 := NB854_850.out; have hnc72 := NB850_854.out; obtain ⟨hcz73_0, hcz73_1, hcz73_2, hcz73_3⟩ := bc4 BK854.out; obtain ⟨hfz73_0, hfz73_1, hfz73_2, hfz73_3⟩ := bf4 BK854.out) | (go_at_call 82; (with_reducible refine (record_Check.calls ((Zag l0_3 x49_2).f0) ((Zag l0_3 x49_2).f1) ((Zag l0_3 x49_2).f2) _ _ ((Zag l0_3 x49_2).f3) t855 _ ?side1 ?side2 ?side3 A24.out).mono ?_); (case side1 => exact GT.below (by decide) HG.out (zb3 HB GE850.out GE854.out)); (case side2 => exact Kd.C_below HR853_3.out (zb3 HB GE850.out GE854.out)); (case side3 => exact HC853_3.out); rintro e w74 ⟨rfl, hb⟩; have n0_ := Zaa.mk (Zah (g := gb850) (o := .cells #[.int .i64 a0_0, .int .i64 a0_1, .int .i64 a0_2, .slice (some ad853) l0_3.length c0_3, .bool a0_4] 58 (0, 0)) (by (with_reducible repeat (first | refine Zac ?_ _ | refine Zad ?_ | refine Zab ?_ _)); refine Zak ?_ NB850_854.out _; (with_reducible repeat (first | refine Zac ?_ _ | refine Zad ?_ | refine Zab ?_ _)); refine Zak ?_ NB850_854.out _; (with_reducible repeat (first | refine Zac ?_ _ | refine Zad ?_ | refine Zab ?_ _)); refine Zak ?_ NB850_854.out _; (with_reducible repeat (first | refine Zac ?_ _ | refine Zad ?_ | refine Zab ?_ _)); refine Zak ?_ NB850_854.out _; (with_reducible repeat (first | refine Zac ?_ _ | refine Zad ?_ | refine Zab ?_ _)); exact BK850.out) hb); have n1_ := Zaa.mk (Zah (g := gb854) (o := .cells #[.int .i64 ((Zag l0_3 x49_2).f0), .int .i64 ((Zag l0_3 x49_2).f1), .int .i64 ((Zag l0_3 x49_2).f2), .slice A853_3 ((Zag l0_3 x49_2).f3).length c853_3] 43 (0, 0)) (by (with_reducible repeat (first | refine Zac ?_ _ | refine Zad ?_ | refine Zab ?_ _)); refine Zaj (cs := #[.int .i64 ((Zag l0_3 x49_2).f0), .int .i64 ((Zag l0_3 x49_2).f1), .int .i64 ((Zag l0_3 x49_2).f2), .slice none 0 0]) ?_ 3 _ rfl; (with_reducible repeat (first | refine Zac ?_ _ | refine Zad ?_ | refine Zab ?_ _)); refine Zaj (cs := #[.int .i64 ((Zag l0_3 x49_2).f0), .int .i64 ((Zag l0_3 x49_2).f1), .int .i64 0, .slice none 0 0]) ?_ 2 _ rfl; (with_reducible repeat (first | refine Zac ?_ _ | refine Zad ?_ | refine Zab ?_ _)); refine Zaj (cs := #[.int .i64 ((Zag l0_3 x49_2).f0), .int .i64 0, .int .i64 0, .slice none 0 0]) ?_ 1 _ rfl; (with_reducible repeat (first | refine Zac ?_ _ | refine Zad ?_ | refine Zab ?_ _)); refine Zaj (cs := #[.int .i64 0, .int .i64 0, .int .i64 0, .slice none 0 0]) ?_ 0 _ rfl; (with_reducible repeat (first | refine Zac ?_ _ | refine Zad ?_ | refine Zab ?_ _)); exact BK854.out) hb); have n2_ := Zaa.mk (Zaf (zb3 HB GE850.out GE854.out) hb); clear BK850; clear BK854; clear HB; have BK850 := n0_; have BK854 := n1_; have HB := n2_; clear n0_ n1_ n2_; (try clear hb); (try clear hb2); (try clear hk); (try clear hi))))
          go_ret
          exact ⟨by first | rfl | (simp [errW_none, errW_some] <;> rfl) | (simp [*, errW_none, errW_some] <;> rfl), (zb3 HB GE850.out GE854.out)⟩
        ·rw [if_neg c23] at H
         exact absurd H (by simp)
       ·rw [if_neg c22] at H
        exact absurd H (by simp)
      ·rw [if_neg c21] at H
       have c21b0 : decide (x49_2 < (l0_3.length : Int)) = false := decide_eq_false c21
       clear c21
       by_cases c75 : x4_2 = true
       ·subst c75
        rw [if_pos rfl] at H
        by_cases c76 : (l0_3.length : Int) > 1
        ·rw [if_pos c76] at H
         have c76b0 : decide (1 < (l0_3.length : Int)) = true := decide_eq_true c76
         have c76b1 : decide (1 < l0_3.length) = true := decide_eq_true (by omega)
         clear c76
         obtain rfl := Option.some.inj H
         go_wp2
         repeat (go_quiet (fail); try go_wp2)
         go_ret
         exact ⟨by first | rfl | (simp [errW_none, errW_some] <;> rfl) | (simp [*, errW_none, errW_some] <;> rfl), (zb2 HB GE850.out)⟩
        ·rw [if_neg c76] at H
         have c76b0 : decide (1 < (l0_3.length : Int)) = false := decide_eq_false c76
         have c76b1 : decide (1 < l0_3.length) = false := decide_eq_false (by omega)
         clear c76
         by_cases c77 : (a0_4 != true) = true
         ·rw [if_pos c77] at H
          have c77b0 : (a0_4 != true) = true := c77
          (try (have c77b1 : decide (a0_4 = true) = false := by simpa using c77))
          (try (have c77b2 : (a0_4 == true) = false := by simpa using c77))
          (try (have c77b3 : ¬ (a0_4 = true) := by simpa using c77))
          clear c77
          obtain rfl := Option.some.inj H
          obtain ⟨hcz78_0, hcz78_1, hcz78_2, hcz78_3, hcz78_4⟩ := bc5 BK850.out
          obtain ⟨hfz78_0, hfz78_1, hfz78_2, hfz78_3, hfz78_4⟩ := bf5 BK850.out
          go_wp2
          repeat (go_quiet (fail); try go_wp2)
          go_ret
          exact ⟨by first | rfl | (simp [errW_none, errW_some] <;> rfl) | (simp [*, errW_none, errW_some] <;> rfl), (zb2 HB GE850.out)⟩
         ·rw [if_neg c77] at H
          have c77b0 : (a0_4 != true) = false := by simpa using c77
          (try (have c77b1 : decide (a0_4 = true) = true := by simpa using c77))
          (try (have c77b2 : (a0_4 == true) = true := by simpa using c77))
          clear c77
          obtain rfl := Option.some.inj H
          obtain ⟨hcz79_0, hcz79_1, hcz79_2, hcz79_3, hcz79_4⟩ := bc5 BK850.out
          obtain ⟨hfz79_0, hfz79_1, hfz79_2, hfz79_3, hfz79_4⟩ := bf5 BK850.out
          go_wp2
          repeat (go_quiet (fail); try go_wp2)
          go_ret
          exact ⟨by first | rfl | (simp [errW_none, errW_some] <;> rfl) | (simp [*, errW_none, errW_some] <;> rfl), (zb2 HB GE850.out)⟩
       ·replace c75 := Bool.eq_false_iff.mpr c75
        subst c75
        rw [if_neg (show ¬ (false = true) by decide)] at H
        obtain ⟨ji80, hji80⟩ : ∃ j_ : Int, (wrap64 ((l0_3.length : Int) - 1)) = j_ := ⟨_, rfl⟩
        replace H : (if 0 ≤ (ji80) then (if (ji80) < (l0_3.length : Int) then (if (a0_4 != (((Zag l0_3 (ji80)).f0) == 1320)) = true then (some 251) else (some 0)) else (none)) else (none)) = some r := by first | (rw [hji80] at H; exact H) | (simp only [hji80] at H ⊢; exact H)
        have hji80w : (IntKind.i64.wrap ((l0_3.length : Int) - 1)) = ji80 := (Zav _).trans hji80
        by_cases c81 : 0 ≤ (ji80)
        ·rw [if_pos c81] at H
         have c81b0 : decide (0 ≤ (ji80)) = true := decide_eq_true c81
         clear c81
         by_cases c82 : (ji80) < (l0_3.length : Int)
         ·rw [if_pos c82] at H
          have c82b0 : decide ((ji80) < (l0_3.length : Int)) = true := decide_eq_true c82
          clear c82
          by_cases c83 : (a0_4 != (((Zag l0_3 (ji80)).f0) == 1320)) = true
          ·rw [if_pos c83] at H
           have c83b0 : (a0_4 != (((Zag l0_3 (ji80)).f0) == 1320)) = true := c83
           (try (have c83b1 : decide (a0_4 = (((Zag l0_3 (ji80)).f0) == 1320)) = false := by simpa using c83))
           (try (have c83b2 : (a0_4 == (((Zag l0_3 (ji80)).f0) == 1320)) = false := by simpa using c83))
           (try (have c83b3 : ¬ (a0_4 = (((Zag l0_3 (ji80)).f0) == 1320)) := by simpa using c83))
           clear c83
           obtain rfl := Option.some.inj H
           obtain ⟨hcz84_0, hcz84_1, hcz84_2, hcz84_3, hcz84_4⟩ := bc5 BK850.out
           obtain ⟨hfz84_0, hfz84_1, hfz84_2, hfz84_3, hfz84_4⟩ := bf5 BK850.out
           have p852 : 0 ≤ ((ji80) : Int) := zod
           have q852 : (ji80) < (l0_3.length : Int) := zod
           obtain ⟨ad852, A852_3, c852_3, e852, hx852_0, hx852_1, hx852_2, hx852_3, hl852_3, hi852_3⟩ := at_T43 HR0_3.out (ji80) p852 q852
           cases e852
           replace hx852_0 := (HB.out.cell (World.block_lt_of_cell? w _ hx852_0)).trans hx852_0
           replace hx852_1 := (HB.out.cell (World.block_lt_of_cell? w _ hx852_1)).trans hx852_1
           replace hx852_2 := (HB.out.cell (World.block_lt_of_cell? w _ hx852_2)).trans hx852_2
           replace hx852_3 := (HB.out.cell (World.block_lt_of_cell? w _ hx852_3)).trans hx852_3
           have HR852_3 := Zaa.mk hi852_3
           have HC852_3 := Zaa.mk hl852_3
           clear hi852_3 hl852_3
           replace p852 := eq_true p852
           replace q852 := eq_true q852
           go_wp2
           repeat (go_quiet (fail); try go_wp2)
           go_ret
           exact ⟨by first | rfl | (simp [errW_none, errW_some] <;> rfl) | (simp only [← hji80]; first | rfl | (simp [errW_none, errW_some] <;> rfl)) | (simp [*, errW_none, errW_some] <;> rfl), (zb2 HB GE850.out)⟩
          ·rw [if_neg c83] at H
           have c83b0 : (a0_4 != (((Zag l0_3 (ji80)).f0) == 1320)) = false := by simpa using c83
           (try (have c83b1 : decide (a0_4 = (((Zag l0_3 (ji80)).f0) == 1320)) = true := by simpa using c83))
           (try (have c83b2 : (a0_4 == (((Zag l0_3 (ji80)).f0) == 1320)) = true := by simpa using c83))
           clear c83
           obtain rfl := Option.some.inj H
           obtain ⟨hcz85_0, hcz85_1, hcz85_2, hcz85_3, hcz85_4⟩ := bc5 BK850.out
           obtain ⟨hfz85_0, hfz85_1, hfz85_2, hfz85_3, hfz85_4⟩ := bf5 BK850.out
           have p852 : 0 ≤ ((ji80) : Int) := zod
           have q852 : (ji80) < (l0_3.length : Int) := zod
           obtain ⟨ad852, A852_3, c852_3, e852, hx852_0, hx852_1, hx852_2, hx852_3, hl852_3, hi852_3⟩ := at_T43 HR0_3.out (ji80) p852 q852
           cases e852
           replace hx852_0 := (HB.out.cell (World.block_lt_of_cell? w _ hx852_0)).trans hx852_0
           replace hx852_1 := (HB.out.cell (World.block_lt_of_cell? w _ hx852_1)).trans hx852_1
           replace hx852_2 := (HB.out.cell (World.block_lt_of_cell? w _ hx852_2)).trans hx852_2
           replace hx852_3 := (HB.out.cell (World.block_lt_of_cell? w _ hx852_3)).trans hx852_3
           have HR852_3 := Zaa.mk hi852_3
           have HC852_3 := Zaa.mk hl852_3
           clear hi852_3 hl852_3
           replace p852 := eq_true p852
           replace q852 := eq_true q852
           go_wp2
           repeat (go_quiet (fail); try go_wp2)
           go_ret
           exact ⟨by first | rfl | (simp [errW_none, errW_some] <;> rfl) | (simp only [← hji80]; first | rfl | (simp [errW_none, errW_some] <;> rfl)) | (simp [*, errW_none, errW_some] <;> rfl), (zb2 HB GE850.out)⟩
         ·rw [if_neg c82] at H
          exact absurd H (by simp)
        ·rw [if_neg c81] at H
         exact absurd H (by simp)
end Go.Proofs.YtkfddpbmclbdhaaDoor.PA
end
section
namespace Go.Proofs.YtkfddpbmclbdhaaDoor.PA
open Go.RowKit Go.Proofs.YtkfddpbmclbdhaaDoorW.PrintWords Go.Proofs.YtkfddpbmclbdhaaDoorW.PrintLast Go.Proofs.YtkfddpbmclbdhaaDoorW.PrintMore
attribute [local go_sem] Zaz Zax Za5 Za4 Zas Zar Zay Zaw   -- for this text's walks alone
set_option linter.unusedVariables false
set_option linter.unusedSimpArgs false
def logfile_HostName.l0 : Nat → ByteArray → Int → Option (Bool)
 | 0, _, _ => none
 | k + 1, x0, x3 => if x3 < (x0.size : Int) then (if 0 ≤ x3 then (if (bt x0 x3) < 97 then (if (bt x0 x3) < 48 then (some false) else (if (bt x0 x3) > 57 then (some false) else (logfile_HostName.l0 k x0 (wrap64 (x3 + 1))))) else (if (bt x0 x3) > 122 then (if (bt x0 x3) < 48 then (some false) else (if (bt x0 x3) > 57 then (some false) else (logfile_HostName.l0 k x0 (wrap64 (x3 + 1))))) else (logfile_HostName.l0 k x0 (wrap64 (x3 + 1))))) else (none)) else (if (x0.size : Int) > 0 then (some (decide ((x0.size : Int) ≤ 16))) else (some false))
def logfile_HostName.f (k : Nat) (a0 : ByteArray) : Option (Bool) := logfile_HostName.l0 k a0 0
theorem logfile_HostName.mono_l : ∀ k, (∀ y0 y1, LeO (logfile_HostName.l0 k y0 y1) (logfile_HostName.l0 (k + 1) y0 y1))
 | 0 => fun _ _ r h => by simp [logfile_HostName.l0] at h
 | k + 1 => by
  have ih0 := logfile_HostName.mono_l k
  ·intro y0 y1
   unfold logfile_HostName.l0
   repeat' first
   | (with_reducible exact ih0 _ _)
   | (with_reducible exact LeO.refl _)
   | (with_reducible exact LeO.none _)
   | (with_reducible refine LeO.ite ?_ ?_)
   | (with_reducible refine LeO.bind ?_ (fun _ => ?_))
   | exact ih0 _ _
   | exact LeO.none _
   | refine LeO.ite ?_ ?_
   | refine LeO.bind ?_ (fun _ => ?_)
theorem logfile_HostName.mono : ∀ a0 k, LeO (logfile_HostName.f k a0) (logfile_HostName.f (k + 1) a0) := by
 intro a0 k
 have ih0 := logfile_HostName.mono_l k
 unfold logfile_HostName.f
 repeat' first
   | (with_reducible exact ih0 _ _)
   | (with_reducible exact LeO.refl _)
   | (with_reducible exact LeO.none _)
   | (with_reducible refine LeO.ite ?_ ?_)
   | (with_reducible refine LeO.bind ?_ (fun _ => ?_))
   | exact ih0 _ _
   | exact LeO.none _
   | refine LeO.ite ?_ ?_
   | refine LeO.bind ?_ (fun _ => ?_)
set_option maxHeartbeats 8000000 in
set_option maxRecDepth 100000 in
theorem logfile_HostName.calls (k : Nat) (a0 : ByteArray) (r : Bool) (w : World) (h : logfile_HostName.f k a0 = some r) :
  Calls Tryd.prog 54 #[.string a0] w fun e w' => e = .returned (.bool r) ∧ Zat w w' := by
 unfold logfile_HostName.f at h
 have H := h
 clear h
 have H' := Zaa.mk H
 clear H
 go_enter Tryd.func54, Tryd.ntmps54
 go_wp2
 go_loopg [3] k (fun kq v3 w' => ∃ (x3_1 : Int), v3 = .int .i64 x3_1 ∧ Zaa (logfile_HostName.l0 kq a0 x3_1 = some r) ∧ Zaa (kq ≤ k) ∧ Zat w w')
 case atStart => exact ⟨(0), (by first | rfl | (simp; done) | (simp [*]; done)), H', ⟨Nat.le_refl _⟩, by repeat (first | exact Zat.refl _ | apply Zat.step)⟩
 case round =>
  clear H'
  obtain ⟨x3_1, rfl, HA, HK1, ⟨m1, rfl⟩⟩ := hrel
  cases gk with
  | zero => exact absurd HA.out (by simp [logfile_HostName.l0])
  | succ k1 =>
   have H := HA.out
   clear HA
   simp only [logfile_HostName.l0] at H
   by_cases c2 : x3_1 < (a0.size : Int)
   ·rw [if_pos c2] at H
    have c2b0 : decide (x3_1 < (a0.size : Int)) = true := decide_eq_true c2
    clear c2
    by_cases c3 : 0 ≤ x3_1
    ·rw [if_pos c3] at H
     have c3b0 : decide (0 ≤ x3_1) = true := decide_eq_true c3
     clear c3
     by_cases c5 : (bt a0 x3_1) < 97
     ·rw [if_pos c5] at H
      have c5b0 : decide ((bt a0 x3_1) < 97) = true := decide_eq_true c5
      clear c5
      by_cases c6 : (bt a0 x3_1) < 48
      ·rw [if_pos c6] at H
       have c6b0 : decide ((bt a0 x3_1) < 48) = true := decide_eq_true c6
       clear c6
       obtain rfl := Option.some.inj H
       have p4 : 0 ≤ (x3_1 : Int) := zod
       have q4 : x3_1 < (a0.size : Int) := zod
       have hx4 := Zbc a0 x3_1
       replace p4 := eq_true p4
       replace q4 := eq_true q4
       go_wp2
       go_ret
       exact ⟨by first | rfl | (simp; done) | (simp [*]; done), by repeat (first | exact Zat.refl _ | apply Zat.step)⟩
      ·rw [if_neg c6] at H
       have c6b0 : decide ((bt a0 x3_1) < 48) = false := decide_eq_false c6
       clear c6
       by_cases c7 : (bt a0 x3_1) > 57
       ·rw [if_pos c7] at H
        have c7b0 : decide (57 < (bt a0 x3_1)) = true := decide_eq_true c7
        clear c7
        obtain rfl := Option.some.inj H
        have p4 : 0 ≤ (x3_1 : Int) := zod
        have q4 : x3_1 < (a0.size : Int) := zod
        have hx4 := Zbc a0 x3_1
        replace p4 := eq_true p4
        replace q4 := eq_true q4
        go_wp2
        go_ret
        exact ⟨by first | rfl | (simp; done) | (simp [*]; done), by repeat (first | exact Zat.refl _ | apply Zat.step)⟩
       ·rw [if_neg c7] at H
        have c7b0 : decide (57 < (bt a0 x3_1)) = false := decide_eq_false c7
        clear c7
        have H' := Zaa.mk H
        clear H
        have p4 : 0 ≤ (x3_1 : Int) := zod
        have q4 : x3_1 < (a0.size : Int) := zod
        have hx4 := Zbc a0 x3_1
        replace p4 := eq_true p4
        replace q4 := eq_true q4
        go_wp2
        go_roundg k1
        case measure => have := HK1.out; omega
        case rel => exact ⟨(wrap64 (x3_1 + 1)), (by first | rfl | (simp; done) | (simp [*]; done)), H', ⟨by have := HK1.out; omega⟩, by repeat (first | exact Zat.refl _ | apply Zat.step)⟩
     ·rw [if_neg c5] at H
      have c5b0 : decide ((bt a0 x3_1) < 97) = false := decide_eq_false c5
      clear c5
      by_cases c8 : (bt a0 x3_1) > 122
      ·rw [if_pos c8] at H
       have c8b0 : decide (122 < (bt a0 x3_1)) = true := decide_eq_true c8
       clear c8
       by_cases c9 : (bt a0 x3_1) < 48
       ·rw [if_pos c9] at H
        have c9b0 : decide ((bt a0 x3_1) < 48) = true := decide_eq_true c9
        clear c9
        obtain rfl := Option.some.inj H
        have p4 : 0 ≤ (x3_1 : Int) := zod
        have q4 : x3_1 < (a0.size : Int) := zod
        have hx4 := Zbc a0 x3_1
        replace p4 := eq_true p4
        replace q4 := eq_true q4
        go_wp2
        go_ret
        exact ⟨by first | rfl | (simp; done) | (simp [*]; done), by repeat (first | exact Zat.refl _ | apply Zat.step)⟩
       ·rw [if_neg c9] at H
        have c9b0 : decide ((bt a0 x3_1) < 48) = false := decide_eq_false c9
        clear c9
        by_cases c10 : (bt a0 x3_1) > 57
        ·rw [if_pos c10] at H
         have c10b0 : decide (57 < (bt a0 x3_1)) = true := decide_eq_true c10
         clear c10
         obtain rfl := Option.some.inj H
         have p4 : 0 ≤ (x3_1 : Int) := zod
         have q4 : x3_1 < (a0.size : Int) := zod
         have hx4 := Zbc a0 x3_1
         replace p4 := eq_true p4
         replace q4 := eq_true q4
         go_wp2
         go_ret
         exact ⟨by first | rfl | (simp; done) | (simp [*]; done), by repeat (first | exact Zat.refl _ | apply Zat.step)⟩
        ·rw [if_neg c10] at H
         have c10b0 : decide (57 < (bt a0 x3_1)) = false := decide_eq_false c10
         clear c10
         have H' := Zaa.mk H
         clear H
         have p4 : 0 ≤ (x3_1 : Int) := zod
         have q4 : x3_1 < (a0.size : Int) := zod
         have hx4 := Zbc a0 x3_1
         replace p4 := eq_true p4
         replace q4 := eq_true q4
         go_wp2
         go_roundg k1
         case measure => have := HK1.out; omega
         case rel => exact ⟨(wrap64 (x3_1 + 1)), (by first | rfl | (simp; done) | (simp [*]; done)), H', ⟨by have := HK1.out; omega⟩, by repeat (first | exact Zat.refl _ | apply Zat.step)⟩
      ·rw [if_neg c8] at H
       have c8b0 : decide (122 < (bt a0 x3_1)) = false := decide_eq_false c8
       clear c8
       have H' := Zaa.mk H
       clear H
       have p4 : 0 ≤ (x3_1 : Int) := zod
       have q4 : x3_1 < (a0.size : Int) := zod
       have hx4 := Zbc a0 x3_1
       replace p4 := eq_true p4
       replace q4 := eq_true q4
       go_wp2
       go_roundg k1
       case measure => have := HK1.out; omega
       case rel => exact ⟨(wrap64 (x3_1 + 1)), (by first | rfl | (simp; done) | (simp [*]; done)), H', ⟨by have := HK1.out; omega⟩, by repeat (first | exact Zat.refl _ | apply Zat.step)⟩
    ·rw [if_neg c3] at H
     exact absurd H (by simp)
   ·rw [if_neg c2] at H
    have c2b0 : decide (x3_1 < (a0.size : Int)) = false := decide_eq_false c2
    clear c2
    by_cases c11 : (a0.size : Int) > 0
    ·rw [if_pos c11] at H
     have c11b0 : decide (0 < (a0.size : Int)) = true := decide_eq_true c11
     have c11b1 : decide (0 < a0.size) = true := decide_eq_true (by omega)
     clear c11
     obtain rfl := Option.some.inj H
     go_wp2
     go_ret
     exact ⟨by first | rfl | (simp; done) | (simp [*]; done), by repeat (first | exact Zat.refl _ | apply Zat.step)⟩
    ·rw [if_neg c11] at H
     have c11b0 : decide (0 < (a0.size : Int)) = false := decide_eq_false c11
     have c11b1 : decide (0 < a0.size) = false := decide_eq_false (by omega)
     clear c11
     obtain rfl := Option.some.inj H
     go_wp2
     go_ret
     exact ⟨by first | rfl | (simp; done) | (simp [*]; done), by repeat (first | exact Zat.refl _ | apply Zat.step)⟩
end Go.Proofs.YtkfddpbmclbdhaaDoor.PA
end
section
namespace Go.Proofs.YtkfddpbmclbdhaaDoor.PA
open Go.RowKit Go.Proofs.YtkfddpbmclbdhaaDoorW.PrintWords Go.Proofs.YtkfddpbmclbdhaaDoorW.PrintLast Go.Proofs.YtkfddpbmclbdhaaDoorW.PrintMore
attribute [local go_sem] Zaz Zax Za5 Za4 Zas Zar Zay Zaw   -- for this text's walks alone
set_option linter.unusedVariables false
set_option linter.unusedSimpArgs false
def logfile_noRemote.f (a0_0 : ByteArray) (a0_1 : Int) (a0_2 : Int) (l0_3 : List Int) : Option (Bool) := if a0_0.toList = ([] : List UInt8) then (if a0_1 = 0 then (if a0_2 = 0 then (some ((l0_3.length : Int) == 0)) else (some false)) else (some false)) else (some false)
set_option maxHeartbeats 8000000 in
set_option maxRecDepth 100000 in
theorem logfile_noRemote.calls (a0_0 : ByteArray) (a0_1 : Int) (a0_2 : Int) (A0_3 : Option Addr) (c0_3 : Nat) (l0_3 : List Int) (r : Bool) (w : World) (hr0_3 : Kd.C (Kd.int .u8) w A0_3 l0_3.length l0_3) (hc0_3 : l0_3.length ≤ c0_3) (h : logfile_noRemote.f a0_0 a0_1 a0_2 l0_3 = some r) :
  Calls Tryd.prog 100 #[.agg #[.string a0_0, .int .i64 a0_1, .int .i64 a0_2, .slice A0_3 l0_3.length c0_3]] w fun e w' => e = .returned (.bool r) ∧ Below w.heap.size w w' := by
 have hu62 := Tryd.underlying62
 have HR0_3 := Zaa.mk hr0_3
 have HC0_3 := Zaa.mk hc0_3
 clear hr0_3 hc0_3
 have HB := Zaa.mk (Below.refl w.heap.size w)
 unfold logfile_noRemote.f at h
 have H := h
 clear h
 by_cases c2 : a0_0.toList = ([] : List UInt8)
 ·rw [if_pos c2] at H
  have c2b0 : (a0_0.toList == ([] : List UInt8)) = true := beq_iff_eq.mpr c2
  have c2b1 : (a0_0.toList != ([] : List UInt8)) = false := bne_eq_false_iff_eq.mpr c2
  clear c2
  by_cases c3 : a0_1 = 0
  ·rw [if_pos c3] at H
   have c3b0 : (a0_1 == 0) = true := beq_iff_eq.mpr c3
   have c3b1 : (a0_1 != 0) = false := bne_eq_false_iff_eq.mpr c3
   clear c3
   by_cases c4 : a0_2 = 0
   ·rw [if_pos c4] at H
    have c4b0 : (a0_2 == 0) = true := beq_iff_eq.mpr c4
    have c4b1 : (a0_2 != 0) = false := bne_eq_false_iff_eq.mpr c4
    clear c4
    obtain rfl := Option.some.inj H
    go_enter Tryd.func100, Tryd.ntmps100
    go_wp2_with (first | ((with_reducible refine Zao (N := 1) rfl ?_); (try (refine Za3 (by rfl) ?_; dsimp only)); refine Zap ?hg (N := 1) ?hd (cs := #[.string a0_0, .int .i64 a0_1, .int .i64 a0_2, .slice A0_3 l0_3.length c0_3]) (t := 62) ?hr ?_; (case hd => rfl); (case hg => rfl); (case hr => first | (go_simp; done) | (go_simp; rfl)); intro gb858 hg w5 hbox hb; have BK858 := Zaa.mk (hbox); have GW858 := Zaa.mk ((by rw [hg]; exact (Zae (zb1 HB)) : w.heap.size ≤ gb858)); have GE858 := Zaa.mk ((by rw [hg]; exact (Zae (zb1 HB)) : w.heap.size ≤ gb858)); replace HB := Zaa.mk (Zaf (zb1 HB) hb); clear hb hbox hg; obtain ⟨hcz6_0, hcz6_1, hcz6_2, hcz6_3⟩ := bc4 BK858.out; obtain ⟨hfz6_0, hfz6_1, hfz6_2, hfz6_3⟩ := bf4 BK858.out))
    go_ret
    exact ⟨by first | rfl | (simp [errW_none, errW_some] <;> rfl) | (simp [*, errW_none, errW_some] <;> rfl), (zb2 HB GE858.out)⟩
   ·rw [if_neg c4] at H
    have c4b0 : (a0_2 == 0) = false := beq_eq_false_iff_ne.mpr c4
    have c4b1 : (a0_2 != 0) = true := bne_iff_ne.mpr c4
    obtain rfl := Option.some.inj H
    go_enter Tryd.func100, Tryd.ntmps100
    go_wp2_with (first | ((with_reducible refine Zao (N := 1) rfl ?_); (try (refine Za3 (by rfl) ?_; dsimp only)); refine Zap ?hg (N := 1) ?hd (cs := #[.string a0_0, .int .i64 a0_1, .int .i64 a0_2, .slice A0_3 l0_3.length c0_3]) (t := 62) ?hr ?_; (case hd => rfl); (case hg => rfl); (case hr => first | (go_simp; done) | (go_simp; rfl)); intro gb858 hg w7 hbox hb; have BK858 := Zaa.mk (hbox); have GW858 := Zaa.mk ((by rw [hg]; exact (Zae (zb1 HB)) : w.heap.size ≤ gb858)); have GE858 := Zaa.mk ((by rw [hg]; exact (Zae (zb1 HB)) : w.heap.size ≤ gb858)); replace HB := Zaa.mk (Zaf (zb1 HB) hb); clear hb hbox hg; obtain ⟨hcz8_0, hcz8_1, hcz8_2, hcz8_3⟩ := bc4 BK858.out; obtain ⟨hfz8_0, hfz8_1, hfz8_2, hfz8_3⟩ := bf4 BK858.out))
    go_ret
    exact ⟨by first | rfl | (simp [errW_none, errW_some] <;> rfl) | (simp [*, errW_none, errW_some] <;> rfl), (zb2 HB GE858.out)⟩
  ·rw [if_neg c3] at H
   have c3b0 : (a0_1 == 0) = false := beq_eq_false_iff_ne.mpr c3
   have c3b1 : (a0_1 != 0) = true := bne_iff_ne.mpr c3
   obtain rfl := Option.some.inj H
   go_enter Tryd.func100, Tryd.ntmps100
   go_wp2_with (first | ((with_reducible refine Zao (N := 1) rfl ?_); (try (refine Za3 (by rfl) ?_; dsimp only)); refine Zap ?hg (N := 1) ?hd (cs := #[.string a0_0, .int .i64 a0_1, .int .i64 a0_2, .slice A0_3 l0_3.length c0_3]) (t := 62) ?hr ?_; (case hd => rfl); (case hg => rfl); (case hr => first | (go_simp; done) | (go_simp; rfl)); intro gb858 hg w9 hbox hb; have BK858 := Zaa.mk (hbox); have GW858 := Zaa.mk ((by rw [hg]; exact (Zae (zb1 HB)) : w.heap.size ≤ gb858)); have GE858 := Zaa.mk ((by rw [hg]; exact (Zae (zb1 HB)) : w.heap.size ≤ gb858)); replace HB := Zaa.mk (Zaf (zb1 HB) hb); clear hb hbox hg; obtain ⟨hcz10_0, hcz10_1, hcz10_2, hcz10_3⟩ := bc4 BK858.out; obtain ⟨hfz10_0, hfz10_1, hfz10_2, hfz10_3⟩ := bf4 BK858.out))
   go_ret
   exact ⟨by first | rfl | (simp [errW_none, errW_some] <;> rfl) | (simp [*, errW_none, errW_some] <;> rfl), (zb2 HB GE858.out)⟩
 ·rw [if_neg c2] at H
  have c2b0 : (a0_0.toList == ([] : List UInt8)) = false := beq_eq_false_iff_ne.mpr c2
  have c2b1 : (a0_0.toList != ([] : List UInt8)) = true := bne_iff_ne.mpr c2
  obtain rfl := Option.some.inj H
  go_enter Tryd.func100, Tryd.ntmps100
  go_wp2_with (first | ((with_reducible refine Zao (N := 1) rfl ?_); (try (refine Za3 (by rfl) ?_; dsimp only)); refine Zap ?hg (N := 1) ?hd (cs := #[.string a0_0, .int .i64 a0_1, .int .i64 a0_2, .slice A0_3 l0_3.length c0_3]) (t := 62) ?hr ?_; (case hd => rfl); (case hg => rfl); (case hr => first | (go_simp; done) | (go_simp; rfl)); intro gb858 hg w11 hbox hb; have BK858 := Zaa.mk (hbox); have GW858 := Zaa.mk ((by rw [hg]; exact (Zae (zb1 HB)) : w.heap.size ≤ gb858)); have GE858 := Zaa.mk ((by rw [hg]; exact (Zae (zb1 HB)) : w.heap.size ≤ gb858)); replace HB := Zaa.mk (Zaf (zb1 HB) hb); clear hb hbox hg; obtain ⟨hcz12_0, hcz12_1, hcz12_2, hcz12_3⟩ := bc4 BK858.out; obtain ⟨hfz12_0, hfz12_1, hfz12_2, hfz12_3⟩ := bf4 BK858.out))
  go_ret
  exact ⟨by first | rfl | (simp [errW_none, errW_some] <;> rfl) | (simp [*, errW_none, errW_some] <;> rfl), (zb2 HB GE858.out)⟩
end Go.Proofs.YtkfddpbmclbdhaaDoor.PA
end
section
namespace Go.Proofs.YtkfddpbmclbdhaaDoor.PA
open Go.RowKit Go.Proofs.YtkfddpbmclbdhaaDoorW.PrintWords Go.Proofs.YtkfddpbmclbdhaaDoorW.PrintLast Go.Proofs.YtkfddpbmclbdhaaDoorW.PrintMore
attribute [local go_sem] Zaz Zax Za5 Za4 Zas Zar Zay Zaw   -- for this text's walks alone
set_option linter.unusedVariables false
set_option linter.unusedSimpArgs false
def logfile_within.f (a0 : Int) (a1 : Int) (a2 : Int) : Option (Bool) := if a0 ≥ a1 then (some (decide (a0 ≤ a2))) else (some false)
set_option maxHeartbeats 8000000 in
set_option maxRecDepth 100000 in
theorem logfile_within.calls (a0 : Int) (a1 : Int) (a2 : Int) (r : Bool) (w : World) (h : logfile_within.f a0 a1 a2 = some r) :
  Calls Tryd.prog 101 #[.int .i64 a0, .int .i64 a1, .int .i64 a2] w fun e w' => e = .returned (.bool r) ∧ Zat w w' := by
 unfold logfile_within.f at h
 have H := h
 clear h
 by_cases c4 : a0 ≥ a1
 ·rw [if_pos c4] at H
  have c4b0 : decide (a1 ≤ a0) = true := decide_eq_true c4
  clear c4
  obtain rfl := Option.some.inj H
  go_enter Tryd.func101, Tryd.ntmps101
  go_wp2
  go_ret
  exact ⟨by first | rfl | (simp; done) | (simp [*]; done), by repeat (first | exact Zat.refl _ | apply Zat.step)⟩
 ·rw [if_neg c4] at H
  have c4b0 : decide (a1 ≤ a0) = false := decide_eq_false c4
  clear c4
  obtain rfl := Option.some.inj H
  go_enter Tryd.func101, Tryd.ntmps101
  go_wp2
  go_ret
  exact ⟨by first | rfl | (simp; done) | (simp [*]; done), by repeat (first | exact Zat.refl _ | apply Zat.step)⟩
end Go.Proofs.YtkfddpbmclbdhaaDoor.PA
end
section
namespace Go.Proofs.YtkfddpbmclbdhaaDoor.PA
open Go.RowKit Go.Proofs.YtkfddpbmclbdhaaDoorW.PrintWords Go.Proofs.YtkfddpbmclbdhaaDoorW.PrintLast Go.Proofs.YtkfddpbmclbdhaaDoorW.PrintMore
attribute [local go_sem] Zaz Zax Za5 Za4 Zas Zar Zay Zaw   -- for this text's walks alone
set_option linter.unusedVariables false
set_option linter.unusedSimpArgs false
def logfile_noEvent.f (a0_0 : Int) (a0_1 : Int) (a0_2 : Int) (l0_3 : List (S43)) (a0_4 : Bool) : Option (Bool) := if a0_0 = 0 then (if a0_1 = 0 then (if a0_2 = 0 then (if a0_4 = true then (some false) else (some ((l0_3.length : Int) == 0))) else (some false)) else (some false)) else (some false)
set_option maxHeartbeats 8000000 in
set_option maxRecDepth 100000 in
theorem logfile_noEvent.calls (a0_0 : Int) (a0_1 : Int) (a0_2 : Int) (A0_3 : Option Addr) (c0_3 : Nat) (l0_3 : List (S43)) (a0_4 : Bool) (r : Bool) (w : World) (hr0_3 : Kd.C k43 w A0_3 l0_3.length l0_3) (hc0_3 : l0_3.length ≤ c0_3) (h : logfile_noEvent.f a0_0 a0_1 a0_2 l0_3 a0_4 = some r) :
  Calls Tryd.prog 102 #[.agg #[.int .i64 a0_0, .int .i64 a0_1, .int .i64 a0_2, .slice A0_3 l0_3.length c0_3, .bool a0_4]] w fun e w' => e = .returned (.bool r) ∧ Below w.heap.size w w' := by
 have hu58 := Tryd.underlying58
 have HR0_3 := Zaa.mk hr0_3
 have HC0_3 := Zaa.mk hc0_3
 clear hr0_3 hc0_3
 have HB := Zaa.mk (Below.refl w.heap.size w)
 unfold logfile_noEvent.f at h
 have H := h
 clear h
 by_cases c2 : a0_0 = 0
 ·rw [if_pos c2] at H
  have c2b0 : (a0_0 == 0) = true := beq_iff_eq.mpr c2
  have c2b1 : (a0_0 != 0) = false := bne_eq_false_iff_eq.mpr c2
  clear c2
  by_cases c3 : a0_1 = 0
  ·rw [if_pos c3] at H
   have c3b0 : (a0_1 == 0) = true := beq_iff_eq.mpr c3
   have c3b1 : (a0_1 != 0) = false := bne_eq_false_iff_eq.mpr c3
   clear c3
   by_cases c4 : a0_2 = 0
   ·rw [if_pos c4] at H
    have c4b0 : (a0_2 == 0) = true := beq_iff_eq.mpr c4
    have c4b1 : (a0_2 != 0) = false := bne_eq_false_iff_eq.mpr c4
    clear c4
    by_cases c5 : a0_4 = true
    ·subst c5
     rw [if_pos rfl] at H
     obtain rfl := Option.some.inj H
     go_enter Tryd.func102, Tryd.ntmps102
     go_wp2_with (first | ((with_reducible refine Zao (N := 1) rfl ?_); (try (refine Za3 (by rfl) ?_; dsimp only)); refine Zap ?hg (N := 1) ?hd (cs := #[.int .i64 a0_0, .int .i64 a0_1, .int .i64 a0_2, .slice A0_3 l0_3.length c0_3, .bool true]) (t := 58) ?hr ?_; (case hd => rfl); (case hg => rfl); (case hr => first | (go_simp; done) | (go_simp; rfl)); intro gb859 hg w6 hbox hb; have BK859 := Zaa.mk (hbox); have GW859 := Zaa.mk ((by rw [hg]; exact (Zae (zb1 HB)) : w.heap.size ≤ gb859)); have GE859 := Zaa.mk ((by rw [hg]; exact (Zae (zb1 HB)) : w.heap.size ≤ gb859)); replace HB := Zaa.mk (Zaf (zb1 HB) hb); clear hb hbox hg; obtain ⟨hcz7_0, hcz7_1, hcz7_2, hcz7_3, hcz7_4⟩ := bc5 BK859.out; obtain ⟨hfz7_0, hfz7_1, hfz7_2, hfz7_3, hfz7_4⟩ := bf5 BK859.out))
     go_ret
     exact ⟨by first | rfl | (simp [errW_none, errW_some] <;> rfl) | (simp [*, errW_none, errW_some] <;> rfl), (zb2 HB GE859.out)⟩
    ·replace c5 := Bool.eq_false_iff.mpr c5
     subst c5
     rw [if_neg (show ¬ (false = true) by decide)] at H
     obtain rfl := Option.some.inj H
     go_enter Tryd.func102, Tryd.ntmps102
     go_wp2_with (first | ((with_reducible refine Zao (N := 1) rfl ?_); (try (refine Za3 (by rfl) ?_; dsimp only)); refine Zap ?hg (N := 1) ?hd (cs := #[.int .i64 a0_0, .int .i64 a0_1, .int .i64 a0_2, .slice A0_3 l0_3.length c0_3, .bool false]) (t := 58) ?hr ?_; (case hd => rfl); (case hg => rfl); (case hr => first | (go_simp; done) | (go_simp; rfl)); intro gb859 hg w8 hbox hb; have BK859 := Zaa.mk (hbox); have GW859 := Zaa.mk ((by rw [hg]; exact (Zae (zb1 HB)) : w.heap.size ≤ gb859)); have GE859 := Zaa.mk ((by rw [hg]; exact (Zae (zb1 HB)) : w.heap.size ≤ gb859)); replace HB := Zaa.mk (Zaf (zb1 HB) hb); clear hb hbox hg; obtain ⟨hcz9_0, hcz9_1, hcz9_2, hcz9_3, hcz9_4⟩ := bc5 BK859.out; obtain ⟨hfz9_0, hfz9_1, hfz9_2, hfz9_3, hfz9_4⟩ := bf5 BK859.out))
     go_ret
     exact ⟨by first | rfl | (simp [errW_none, errW_some] <;> rfl) | (simp [*, errW_none, errW_some] <;> rfl), (zb2 HB GE859.out)⟩
   ·rw [if_neg c4] at H
    have c4b0 : (a0_2 == 0) = false := beq_eq_false_iff_ne.mpr c4
    have c4b1 : (a0_2 != 0) = true := bne_iff_ne.mpr c4
    obtain rfl := Option.some.inj H
    go_enter Tryd.func102, Tryd.ntmps102
    go_wp2_with (first | ((with_reducible refine Zao (N := 1) rfl ?_); (try (refine Za3 (by rfl) ?_; dsimp only)); refine Zap ?hg (N := 1) ?hd (cs := #[.int .i64 a0_0, .int .i64 a0_1, .int .i64 a0_2, .slice A0_3 l0_3.length c0_3, .bool a0_4]) (t := 58) ?hr ?_; (case hd => rfl); (case hg => rfl); (case hr => first | (go_simp; done) | (go_simp; rfl)); intro gb859 hg w10 hbox hb; have BK859 := Zaa.mk (hbox); have GW859 := Zaa.mk ((by rw [hg]; exact (Zae (zb1 HB)) : w.heap.size ≤ gb859)); have GE859 := Zaa.mk ((by rw [hg]; exact (Zae (zb1 HB)) : w.heap.size ≤ gb859)); replace HB := Zaa.mk (Zaf (zb1 HB) hb); clear hb hbox hg; obtain ⟨hcz11_0, hcz11_1, hcz11_2, hcz11_3, hcz11_4⟩ := bc5 BK859.out; obtain ⟨hfz11_0, hfz11_1, hfz11_2, hfz11_3, hfz11_4⟩ := bf5 BK859.out))
    go_ret
    exact ⟨by first | rfl | (simp [errW_none, errW_some] <;> rfl) | (simp [*, errW_none, errW_some] <;> rfl), (zb2 HB GE859.out)⟩
  ·rw [if_neg c3] at H
   have c3b0 : (a0_1 == 0) = false := beq_eq_false_iff_ne.mpr c3
   have c3b1 : (a0_1 != 0) = true := bne_iff_ne.mpr c3
   obtain rfl := Option.some.inj H
   go_enter Tryd.func102, Tryd.ntmps102
   go_wp2_with (first | ((with_reducible refine Zao (N := 1) rfl ?_); (try (refine Za3 (by rfl) ?_; dsimp only)); refine Zap ?hg (N := 1) ?hd (cs := #[.int .i64 a0_0, .int .i64 a0_1, .int .i64 a0_2, .slice A0_3 l0_3.length c0_3, .bool a0_4]) (t := 58) ?hr ?_; (case hd => rfl); (case hg => rfl); (case hr => first | (go_simp; done) | (go_simp; rfl)); intro gb859 hg w12 hbox hb; have BK859 := Zaa.mk (hbox); have GW859 := Zaa.mk ((by rw [hg]; exact (Zae (zb1 HB)) : w.heap.size ≤ gb859)); have GE859 := Zaa.mk ((by rw [hg]; exact (Zae (zb1 HB)) : w.heap.size ≤ gb859)); replace HB := Zaa.mk (Zaf (zb1 HB) hb); clear hb hbox hg; obtain ⟨hcz13_0, hcz13_1, hcz13_2, hcz13_3, hcz13_4⟩ := bc5 BK859.out; obtain ⟨hfz13_0, hfz13_1, hfz13_2, hfz13_3, hfz13_4⟩ := bf5 BK859.out))
   go_ret
   exact ⟨by first | rfl | (simp [errW_none, errW_some] <;> rfl) | (simp [*, errW_none, errW_some] <;> rfl), (zb2 HB GE859.out)⟩
 ·rw [if_neg c2] at H
  have c2b0 : (a0_0 == 0) = false := beq_eq_false_iff_ne.mpr c2
  have c2b1 : (a0_0 != 0) = true := bne_iff_ne.mpr c2
  obtain rfl := Option.some.inj H
  go_enter Tryd.func102, Tryd.ntmps102
  go_wp2_with (first | ((with_reducible refine Zao (N := 1) rfl ?_); (try (refine Za3 (by rfl) ?_; dsimp only)); refine Zap ?hg (N := 1) ?hd (cs := #[.int .i64 a0_0, .int .i64 a0_1, .int .i64 a0_2, .slice A0_3 l0_3.length c0_3, .bool a0_4]) (t := 58) ?hr ?_; (case hd => rfl); (case hg => rfl); (case hr => first | (go_simp; done) | (go_simp; rfl)); intro gb859 hg w14 hbox hb; have BK859 := Zaa.mk (hbox); have GW859 := Zaa.mk ((by rw [hg]; exact (Zae (zb1 HB)) : w.heap.size ≤ gb859)); have GE859 := Zaa.mk ((by rw [hg]; exact (Zae (zb1 HB)) : w.heap.size ≤ gb859)); replace HB := Zaa.mk (Zaf (zb1 HB) hb); clear hb hbox hg; obtain ⟨hcz15_0, hcz15_1, hcz15_2, hcz15_3, hcz15_4⟩ := bc5 BK859.out; obtain ⟨hfz15_0, hfz15_1, hfz15_2, hfz15_3, hfz15_4⟩ := bf5 BK859.out))
  go_ret
  exact ⟨by first | rfl | (simp [errW_none, errW_some] <;> rfl) | (simp [*, errW_none, errW_some] <;> rfl), (zb2 HB GE859.out)⟩
end Go.Proofs.YtkfddpbmclbdhaaDoor.PA
end
section
namespace Go.Proofs.YtkfddpbmclbdhaaDoor.PA
open Go.RowKit Go.Proofs.YtkfddpbmclbdhaaDoorW.PrintWords Go.Proofs.YtkfddpbmclbdhaaDoorW.PrintLast Go.Proofs.YtkfddpbmclbdhaaDoorW.PrintMore
attribute [local go_sem] Zaz Zax Za5 Za4 Zas Zar Zay Zaw   -- for this text's walks alone
set_option linter.unusedVariables false
set_option linter.unusedSimpArgs false
attribute [local go_sem high] eqA60
mutual
def logfile_Check.j0 : Nat → Bool → Int → Int → Int → Int → List (S43) → Bool → Int → Int → Int → Int → ByteArray → Int → Int → List Int → Option (Int)
 | 0, _, _, _, _, _, _, _, _, _, _, _, _, _, _, _ => none
 | k + 1, x52, x861000, x861001, x861002, x861003, x861004, x861005, x861006, x861007, x861008, x861009, x861010, x861011, x861012, x861013 => if x52 = true then (some 252) else ((logfile_noEvent.f x861001 x861002 x861003 x861004 x861005).bind fun t868 => (if t868 = true then ((logfile_noRemote.f x861010 x861011 x861012 x861013).bind fun t869 => (if t869 = true then (some 0) else (some 250))) else (some 250)))
def logfile_Check.j1 : Nat → Bool → Int → Int → Int → Int → List (S43) → Bool → Int → Int → Int → Int → ByteArray → Int → Int → List Int → Option (Int)
 | 0, _, _, _, _, _, _, _, _, _, _, _, _, _, _, _ => none
 | k + 1, x89, x861000, x861001, x861002, x861003, x861004, x861005, x861006, x861007, x861008, x861009, x861010, x861011, x861012, x861013 => if x89 = true then (some 253) else ((logfile_noEvent.f x861001 x861002 x861003 x861004 x861005).bind fun t875 => (if t875 = true then (if (!(x861006 == 0) || (!(x861007 == 0) || (!(x861008 == 0) || (!(x861009 == 0))))) = true then (some 250) else (some 0)) else (some 250)))
end
def logfile_Check.f (k : Nat) (a0_0 : Int) (a0_1 : Int) (a0_2 : Int) (a0_3 : Int) (l0_4 : List (S43)) (a0_5 : Bool) (a0_6 : Int) (a0_7 : Int) (a0_8 : Int) (a0_9 : Int) (a0_10 : ByteArray) (a0_11 : Int) (a0_12 : Int) (l0_13 : List Int) : Option (Int) := if a0_0 = 1 then ((logfile_CheckEvent.f k a0_1 a0_2 a0_3 l0_4 a0_5).bind fun t861 => (if t861 = 0 then (if (!(a0_6 == 0) || (!(a0_7 == 0) || (!(a0_8 == 0) || (!(a0_9 == 0))))) = true then (some 250) else ((logfile_noRemote.f a0_10 a0_11 a0_12 l0_13).bind fun t862 => (if t862 = true then (some 0) else (some 250)))) else (some t861))) else (if a0_0 = 2 then ((logfile_within.f a0_6 1 7).bind fun t864 => (if t864 = true then ((logfile_within.f a0_7 0 1099511627776).bind fun t865 => (if t865 = true then ((logfile_within.f a0_8 0 1099511627776).bind fun t866 => (if t866 = true then ((logfile_within.f a0_9 0 1099511627776).bind fun t867 => (logfile_Check.j0 k (!t867) a0_0 a0_1 a0_2 a0_3 l0_4 a0_5 a0_6 a0_7 a0_8 a0_9 a0_10 a0_11 a0_12 l0_13)) else (logfile_Check.j0 k true a0_0 a0_1 a0_2 a0_3 l0_4 a0_5 a0_6 a0_7 a0_8 a0_9 a0_10 a0_11 a0_12 l0_13))) else (logfile_Check.j0 k true a0_0 a0_1 a0_2 a0_3 l0_4 a0_5 a0_6 a0_7 a0_8 a0_9 a0_10 a0_11 a0_12 l0_13))) else (logfile_Check.j0 k true a0_0 a0_1 a0_2 a0_3 l0_4 a0_5 a0_6 a0_7 a0_8 a0_9 a0_10 a0_11 a0_12 l0_13))) else (if a0_0 = 3 then ((logfile_HostName.f k a0_10).bind fun t871 => (if t871 = true then ((logfile_within.f a0_11 1 1099511627776).bind fun t872 => (if t872 = true then ((logfile_within.f a0_12 1 1099511627776).bind fun t873 => (if t873 = true then ((logfile_within.f (l0_13.length : Int) 1 16320).bind fun t874 => (logfile_Check.j1 k (!t874) a0_0 a0_1 a0_2 a0_3 l0_4 a0_5 a0_6 a0_7 a0_8 a0_9 a0_10 a0_11 a0_12 l0_13)) else (logfile_Check.j1 k true a0_0 a0_1 a0_2 a0_3 l0_4 a0_5 a0_6 a0_7 a0_8 a0_9 a0_10 a0_11 a0_12 l0_13))) else (logfile_Check.j1 k true a0_0 a0_1 a0_2 a0_3 l0_4 a0_5 a0_6 a0_7 a0_8 a0_9 a0_10 a0_11 a0_12 l0_13))) else (logfile_Check.j1 k true a0_0 a0_1 a0_2 a0_3 l0_4 a0_5 a0_6 a0_7 a0_8 a0_9 a0_10 a0_11 a0_12 l0_13))) else (some 250)))
theorem logfile_Check.mono_l : ∀ k, (∀ y0 y1 y2 y3 y4 y5 y6 y7 y8 y9 y10 y11 y12 y13 y14, LeO (logfile_Check.j0 k y0 y1 y2 y3 y4 y5 y6 y7 y8 y9 y10 y11 y12 y13 y14) (logfile_Check.j0 (k + 1) y0 y1 y2 y3 y4 y5 y6 y7 y8 y9 y10 y11 y12 y13 y14)) ∧ (∀ y0 y1 y2 y3 y4 y5 y6 y7 y8 y9 y10 y11 y12 y13 y14, LeO (logfile_Check.j1 k y0 y1 y2 y3 y4 y5 y6 y7 y8 y9 y10 y11 y12 y13 y14) (logfile_Check.j1 (k + 1) y0 y1 y2 y3 y4 y5 y6 y7 y8 y9 y10 y11 y12 y13 y14))
 | 0 => ⟨fun _ _ _ _ _ _ _ _ _ _ _ _ _ _ _ r h => by simp [logfile_Check.j0] at h, fun _ _ _ _ _ _ _ _ _ _ _ _ _ _ _ r h => by simp [logfile_Check.j1] at h⟩
 | k + 1 => by
  obtain ⟨ih0, ih1⟩ := logfile_Check.mono_l k
  refine ⟨?_, ?_⟩
  ·intro y0 y1 y2 y3 y4 y5 y6 y7 y8 y9 y10 y11 y12 y13 y14
   unfold logfile_Check.j0
   repeat' first
   | (with_reducible exact ih0 _ _ _ _ _ _ _ _ _ _ _ _ _ _ _)
   | (with_reducible exact ih1 _ _ _ _ _ _ _ _ _ _ _ _ _ _ _)
   | (with_reducible exact logfile_CheckEvent.mono _ _ _ _ _ _)
   | (with_reducible exact logfile_HostName.mono _ _)
   | (with_reducible exact LeO.refl _)
   | (with_reducible exact LeO.none _)
   | (with_reducible refine LeO.ite ?_ ?_)
   | (with_reducible refine LeO.bind ?_ (fun _ => ?_))
   | exact ih0 _ _ _ _ _ _ _ _ _ _ _ _ _ _ _
   | exact ih1 _ _ _ _ _ _ _ _ _ _ _ _ _ _ _
   | exact logfile_CheckEvent.mono _ _ _ _ _ _
   | exact logfile_HostName.mono _ _
   | exact LeO.none _
   | refine LeO.ite ?_ ?_
   | refine LeO.bind ?_ (fun _ => ?_)
  ·intro y0 y1 y2 y3 y4 y5 y6 y7 y8 y9 y10 y11 y12 y13 y14
   unfold logfile_Check.j1
   repeat' first
   | (with_reducible exact ih0 _ _ _ _ _ _ _ _ _ _ _ _ _ _ _)
   | (with_reducible exact ih1 _ _ _ _ _ _ _ _ _ _ _ _ _ _ _)
   | (with_reducible exact logfile_CheckEvent.mono _ _ _ _ _ _)
   | (with_reducible exact logfile_HostName.mono _ _)
   | (with_reducible exact LeO.refl _)
   | (with_reducible exact LeO.none _)
   | (with_reducible refine LeO.ite ?_ ?_)
   | (with_reducible refine LeO.bind ?_ (fun _ => ?_))
   | exact ih0 _ _ _ _ _ _ _ _ _ _ _ _ _ _ _
   | exact ih1 _ _ _ _ _ _ _ _ _ _ _ _ _ _ _
   | exact logfile_CheckEvent.mono _ _ _ _ _ _
   | exact logfile_HostName.mono _ _
   | exact LeO.none _
   | refine LeO.ite ?_ ?_
   | refine LeO.bind ?_ (fun _ => ?_)
theorem logfile_Check.mono : ∀ a0 a1 a2 a3 a4 a5 a6 a7 a8 a9 a10 a11 a12 a13 k, LeO (logfile_Check.f k a0 a1 a2 a3 a4 a5 a6 a7 a8 a9 a10 a11 a12 a13) (logfile_Check.f (k + 1) a0 a1 a2 a3 a4 a5 a6 a7 a8 a9 a10 a11 a12 a13) := by
 intro a0 a1 a2 a3 a4 a5 a6 a7 a8 a9 a10 a11 a12 a13 k
 obtain ⟨ih0, ih1⟩ := logfile_Check.mono_l k
 unfold logfile_Check.f
 repeat' first
   | (with_reducible exact ih0 _ _ _ _ _ _ _ _ _ _ _ _ _ _ _)
   | (with_reducible exact ih1 _ _ _ _ _ _ _ _ _ _ _ _ _ _ _)
   | (with_reducible exact logfile_CheckEvent.mono _ _ _ _ _ _)
   | (with_reducible exact logfile_HostName.mono _ _)
   | (with_reducible exact LeO.refl _)
   | (with_reducible exact LeO.none _)
   | (with_reducible refine LeO.ite ?_ ?_)
   | (with_reducible refine LeO.bind ?_ (fun _ => ?_))
   | exact ih0 _ _ _ _ _ _ _ _ _ _ _ _ _ _ _
   | exact ih1 _ _ _ _ _ _ _ _ _ _ _ _ _ _ _
   | exact logfile_CheckEvent.mono _ _ _ _ _ _
   | exact logfile_HostName.mono _ _
   | exact LeO.none _
   | refine LeO.ite ?_ ?_
   | refine LeO.bind ?_ (fun _ => ?_)
set_option maxHeartbeats 8000000 in
set_option maxRecDepth 100000 in
theorem logfile_Check.calls (k : Nat) (a0_0 : Int) (a0_1 : Int) (a0_2 : Int) (a0_3 : Int) (A0_4 : Option Addr) (c0_4 : Nat) (l0_4 : List (S43)) (a0_5 : Bool) (a0_6 : Int) (a0_7 : Int) (a0_8 : Int) (a0_9 : Int) (a0_10 : ByteArray) (a0_11 : Int) (a0_12 : Int) (A0_13 : Option Addr) (c0_13 : Nat) (l0_13 : List Int) (r : Int) (w : World) (hG : GT 2 w) (hr0_4 : Kd.C k43 w A0_4 l0_4.length l0_4) (hc0_4 : l0_4.length ≤ c0_4) (hr0_13 : Kd.C (Kd.int .u8) w A0_13 l0_13.length l0_13) (hc0_13 : l0_13.length ≤ c0_13) (h : logfile_Check.f k a0_0 a0_1 a0_2 a0_3 l0_4 a0_5 a0_6 a0_7 a0_8 a0_9 a0_10 a0_11 a0_12 l0_13 = some r) :
  Calls Tryd.prog 50 #[.agg #[.int .i64 a0_0, .int .i64 a0_1, .int .i64 a0_2, .int .i64 a0_3, .slice A0_4 l0_4.length c0_4, .bool a0_5, .int .i64 a0_6, .int .i64 a0_7, .int .i64 a0_8, .int .i64 a0_9, .string a0_10, .int .i64 a0_11, .int .i64 a0_12, .slice A0_13 l0_13.length c0_13]] w fun e w' => e = .returned (.int .i64 r) ∧ Below w.heap.size w w' := by
 have hu64 := Tryd.underlying64
 have hu58 := Tryd.underlying58
 have hu60 := Tryd.underlying60
 have hu62 := Tryd.underlying62
 have HR0_4 := Zaa.mk hr0_4
 have HC0_4 := Zaa.mk hc0_4
 clear hr0_4 hc0_4
 have HR0_13 := Zaa.mk hr0_13
 have HC0_13 := Zaa.mk hc0_13
 clear hr0_13 hc0_13
 have HG := Zaa.mk hG
 clear hG
 have HB := Zaa.mk (Below.refl w.heap.size w)
 unfold logfile_Check.f at h
 have H := h
 clear h
 by_cases c2 : a0_0 = 1
 ·rw [if_pos c2] at H
  have c2b0 : (a0_0 == 1) = true := beq_iff_eq.mpr c2
  have c2b1 : (a0_0 != 1) = false := bne_eq_false_iff_eq.mpr c2
  clear c2
  replace H := Option.bind_eq_some_iff.mp H
  obtain ⟨t861, A30, H⟩ := H
  try dsimp only at H
  have A3 := Zaa.mk A30
  clear A30
  by_cases c4 : t861 = 0
  ·rw [if_pos c4] at H
   have c4b0 : (t861 == 0) = true := beq_iff_eq.mpr c4
   have c4b1 : (t861 != 0) = false := bne_eq_false_iff_eq.mpr c4
   clear c4
   by_cases c5 : (!(a0_6 == 0) || (!(a0_7 == 0) || (!(a0_8 == 0) || (!(a0_9 == 0))))) = true
   ·rw [if_pos c5] at H
    have c5b0 : (!(a0_6 == 0) || (!(a0_7 == 0) || (!(a0_8 == 0) || (!(a0_9 == 0))))) = true := c5
    clear c5
    obtain rfl := Option.some.inj H
    go_enter Tryd.func50, Tryd.ntmps50
    go_wp2_with (first | ((with_reducible refine Zao (N := 1) rfl ?_); (try (refine Za3 (by rfl) ?_; dsimp only)); refine Zap ?hg (N := 1) ?hd (cs := #[.int .i64 a0_0, .int .i64 a0_1, .int .i64 a0_2, .int .i64 a0_3, .slice A0_4 l0_4.length c0_4, .bool a0_5, .int .i64 a0_6, .int .i64 a0_7, .int .i64 a0_8, .int .i64 a0_9, .string a0_10, .int .i64 a0_11, .int .i64 a0_12, .slice A0_13 l0_13.length c0_13]) (t := 64) ?hr ?_; (case hd => rfl); (case hg => rfl); (case hr => first | (go_simp; done) | (go_simp; rfl)); intro gb860 hg w6 hbox hb; have BK860 := Zaa.mk (hbox); have GW860 := Zaa.mk ((by rw [hg]; exact (Zae (zb1 HB)) : w.heap.size ≤ gb860)); have GE860 := Zaa.mk ((by rw [hg]; exact (Zae (zb1 HB)) : w.heap.size ≤ gb860)); replace HB := Zaa.mk (Zaf (zb1 HB) hb); clear hb hbox hg; obtain ⟨hcz7_0, hcz7_1, hcz7_2, hcz7_3, hcz7_4, hcz7_5, hcz7_6, hcz7_7, hcz7_8, hcz7_9, hcz7_10, hcz7_11, hcz7_12, hcz7_13⟩ := bc14 BK860.out; obtain ⟨hfz7_0, hfz7_1, hfz7_2, hfz7_3, hfz7_4, hfz7_5, hfz7_6, hfz7_7, hfz7_8, hfz7_9, hfz7_10, hfz7_11, hfz7_12, hfz7_13⟩ := bf14 BK860.out) | ((with_reducible refine Zal (f := 52) rfl ?_); refine Za2 (some 13) rfl rfl Tryd.func52 (by kernel_rfl) rfl #[.agg #[.int .i64 a0_1, .int .i64 a0_2, .int .i64 a0_3, .slice A0_4 l0_4.length c0_4, .bool a0_5]] rfl zam ?_; (with_reducible refine (logfile_CheckEvent.calls k a0_1 a0_2 a0_3 _ _ l0_4 a0_5 t861 _ ?side1 ?side2 ?side3 A3.out).mono ?_); (case side1 => exact GT.below (by decide) HG.out (zb2 HB GE860.out)); (case side2 => repeat (first | exact (Kd.C_below HR0_4.out HB.out) | (with_reducible refine Kd.C_alloc ?_ _) | (with_reducible refine Kd.C_drewN ?_ _) | (with_reducible refine Kd.C_drew ?_))); (case side3 => exact HC0_4.out); rintro e w8 ⟨rfl, hb⟩; refine ⟨_, rfl, ?_⟩; replace BK860 := Zaa.mk (Zah (g := gb860) (o := .cells #[.int .i64 a0_0, .int .i64 a0_1, .int .i64 a0_2, .int .i64 a0_3, .slice A0_4 l0_4.length c0_4, .bool a0_5, .int .i64 a0_6, .int .i64 a0_7, .int .i64 a0_8, .int .i64 a0_9, .string a0_10, .int .i64 a0_11, .int .i64 a0_12, .slice A0_13 l0_13.length c0_13] 64 (0, 0)) (zbk BK860) hb); replace HB := Zaa.mk (Zaf (zb2 HB GE860.out) hb); (try clear hb); obtain ⟨hcz9_0, hcz9_1, hcz9_2, hcz9_3, hcz9_4, hcz9_5, hcz9_6, hcz9_7, hcz9_8, hcz9_9, hcz9_10, hcz9_11, hcz9_12, hcz9_13⟩ := bc14 BK860.out; obtain ⟨hfz9_0, hfz9_1, hfz9_2, hfz9_3, hfz9_4, hfz9_5, hfz9_6, hfz9_7, hfz9_8, hfz9_9, hfz9_10, hfz9_11, hfz9_12, hfz9_13⟩ := bf14 BK860.out))
    go_ret
    exact ⟨by first | rfl | (simp [errW_none, errW_some] <;> rfl) | (simp [*, errW_none, errW_some] <;> rfl), (zb2 HB GE860.out)⟩
   ·rw [if_neg c5] at H
    have c5b0 : (!(a0_6 == 0) || (!(a0_7 == 0) || (!(a0_8 == 0) || (!(a0_9 == 0))))) = false := by simpa using c5
    clear c5
    replace H := Option.bind_eq_some_iff.mp H
    obtain ⟨t862, A100, H⟩ := H
    try dsimp only at H
    have A10 := Zaa.mk A100
    clear A100
    by_cases c11 : t862 = true
    ·subst c11
     rw [if_pos rfl] at H
     obtain rfl := Option.some.inj H
     go_enter Tryd.func50, Tryd.ntmps50
     go_wp2_with (first | ((with_reducible refine Zao (N := 1) rfl ?_); (try (refine Za3 (by rfl) ?_; dsimp only)); refine Zap ?hg (N := 1) ?hd (cs := #[.int .i64 a0_0, .int .i64 a0_1, .int .i64 a0_2, .int .i64 a0_3, .slice A0_4 l0_4.length c0_4, .bool a0_5, .int .i64 a0_6, .int .i64 a0_7, .int .i64 a0_8, .int .i64 a0_9, .string a0_10, .int .i64 a0_11, .int .i64 a0_12, .slice A0_13 l0_13.length c0_13]) (t := 64) ?hr ?_; (case hd => rfl); (case hg => rfl); (case hr => first | (go_simp; done) | (go_simp; rfl)); intro gb860 hg w12 hbox hb; have BK860 := Zaa.mk (hbox); have GW860 := Zaa.mk ((by rw [hg]; exact (Zae (zb1 HB)) : w.heap.size ≤ gb860)); have GE860 := Zaa.mk ((by rw [hg]; exact (Zae (zb1 HB)) : w.heap.size ≤ gb860)); replace HB := Zaa.mk (Zaf (zb1 HB) hb); clear hb hbox hg; obtain ⟨hcz13_0, hcz13_1, hcz13_2, hcz13_3, hcz13_4, hcz13_5, hcz13_6, hcz13_7, hcz13_8, hcz13_9, hcz13_10, hcz13_11, hcz13_12, hcz13_13⟩ := bc14 BK860.out; obtain ⟨hfz13_0, hfz13_1, hfz13_2, hfz13_3, hfz13_4, hfz13_5, hfz13_6, hfz13_7, hfz13_8, hfz13_9, hfz13_10, hfz13_11, hfz13_12, hfz13_13⟩ := bf14 BK860.out) | ((with_reducible refine Zal (f := 52) rfl ?_); refine Za2 (some 13) rfl rfl Tryd.func52 (by kernel_rfl) rfl #[.agg #[.int .i64 a0_1, .int .i64 a0_2, .int .i64 a0_3, .slice A0_4 l0_4.length c0_4, .bool a0_5]] rfl zam ?_; (with_reducible refine (logfile_CheckEvent.calls k a0_1 a0_2 a0_3 _ _ l0_4 a0_5 t861 _ ?side1 ?side2 ?side3 A3.out).mono ?_); (case side1 => exact GT.below (by decide) HG.out (zb2 HB GE860.out)); (case side2 => repeat (first | exact (Kd.C_below HR0_4.out HB.out) | (with_reducible refine Kd.C_alloc ?_ _) | (with_reducible refine Kd.C_drewN ?_ _) | (with_reducible refine Kd.C_drew ?_))); (case side3 => exact HC0_4.out); rintro e w14 ⟨rfl, hb⟩; refine ⟨_, rfl, ?_⟩; replace BK860 := Zaa.mk (Zah (g := gb860) (o := .cells #[.int .i64 a0_0, .int .i64 a0_1, .int .i64 a0_2, .int .i64 a0_3, .slice A0_4 l0_4.length c0_4, .bool a0_5, .int .i64 a0_6, .int .i64 a0_7, .int .i64 a0_8, .int .i64 a0_9, .string a0_10, .int .i64 a0_11, .int .i64 a0_12, .slice A0_13 l0_13.length c0_13] 64 (0, 0)) (zbk BK860) hb); replace HB := Zaa.mk (Zaf (zb2 HB GE860.out) hb); (try clear hb); obtain ⟨hcz15_0, hcz15_1, hcz15_2, hcz15_3, hcz15_4, hcz15_5, hcz15_6, hcz15_7, hcz15_8, hcz15_9, hcz15_10, hcz15_11, hcz15_12, hcz15_13⟩ := bc14 BK860.out; obtain ⟨hfz15_0, hfz15_1, hfz15_2, hfz15_3, hfz15_4, hfz15_5, hfz15_6, hfz15_7, hfz15_8, hfz15_9, hfz15_10, hfz15_11, hfz15_12, hfz15_13⟩ := bf14 BK860.out) | (go_at_call 100; (with_reducible refine (logfile_noRemote.calls a0_10 a0_11 a0_12 _ _ l0_13 true _ ?side1 ?side2 A10.out).mono ?_); (case side1 => repeat (first | exact (Kd.C_below HR0_13.out HB.out) | (with_reducible refine Kd.C_alloc ?_ _) | (with_reducible refine Kd.C_drewN ?_ _) | (with_reducible refine Kd.C_drew ?_))); (case side2 => exact HC0_13.out); rintro e w16 ⟨rfl, hb⟩; replace BK860 := Zaa.mk (Zah (g := gb860) (o := .cells #[.int .i64 a0_0, .int .i64 a0_1, .int .i64 a0_2, .int .i64 a0_3, .slice A0_4 l0_4.length c0_4, .bool a0_5, .int .i64 a0_6, .int .i64 a0_7, .int .i64 a0_8, .int .i64 a0_9, .string a0_10, .int .i64 a0_11, .int .i64 a0_12, .slice A0_13 l0_13.length c0_13] 64 (0, 0)) (zbk BK860) hb); replace HB := Zaa.mk (Zaf (zb2 HB GE860.out) hb); (try clear hb)))
     go_ret
     exact ⟨by first | rfl | (simp [errW_none, errW_some] <;> rfl) | (simp [*, errW_none, errW_some] <;> rfl), (zb2 HB GE860.out)⟩
    ·replace c11 := Bool.eq_false_iff.mpr c11
     subst c11
     rw [if_neg (show ¬ (false = true) by decide)] at H
     obtain rfl := Option.some.inj H
     go_enter Tryd.func50, Tryd.ntmps50
     go_wp2_with (first | ((with_reducible refine Zao (N := 1) rfl ?_); (try (refine Za3 (by rfl) ?_; dsimp only)); refine Zap ?hg (N := 1) ?hd (cs := #[.int .i64 a0_0, .int .i64 a0_1, .int .i64 a0_2, .int .i64 a0_3, .slice A0_4 l0_4.length c0_4, .bool a0_5, .int .i64 a0_6, .int .i64 a0_7, .int .i64 a0_8, .int .i64 a0_9, .string a0_10, .int .i64 a0_11, .int .i64 a0_12, .slice A0_13 l0_13.length c0_13]) (t := 64) ?hr ?_; (case hd => rfl); (case hg => rfl); (case hr => first | (go_simp; done) | (go_simp; rfl)); intro gb860 hg w17 hbox hb; have BK860 := Zaa.mk (hbox); have GW860 := Zaa.mk ((by rw [hg]; exact (Zae (zb1 HB)) : w.heap.size ≤ gb860)); have GE860 := Zaa.mk ((by rw [hg]; exact (Zae (zb1 HB)) : w.heap.size ≤ gb860)); replace HB := Zaa.mk (Zaf (zb1 HB) hb); clear hb hbox hg; obtain ⟨hcz18_0, hcz18_1, hcz18_2, hcz18_3, hcz18_4, hcz18_5, hcz18_6, hcz18_7, hcz18_8, hcz18_9, hcz18_10, hcz18_11, hcz18_12, hcz18_13⟩ := bc14 BK860.out; obtain ⟨hfz18_0, hfz18_1, hfz18_2, hfz18_3, hfz18_4, hfz18_5, hfz18_6, hfz18_7, hfz18_8, hfz18_9, hfz18_10, hfz18_11, hfz18_12, hfz18_13⟩ := bf14 BK860.out) | ((with_reducible refine Zal (f := 52) rfl ?_); refine Za2 (some 13) rfl rfl Tryd.func52 (by kernel_rfl) rfl #[.agg #[.int .i64 a0_1, .int .i64 a0_2, .int .i64 a0_3, .slice A0_4 l0_4.length c0_4, .bool a0_5]] rfl zam ?_; (with_reducible refine (logfile_CheckEvent.calls k a0_1 a0_2 a0_3 _ _ l0_4 a0_5 t861 _ ?side1 ?side2 ?side3 A3.out).mono ?_); (case side1 => exact GT.below (by decide) HG.out (zb2 HB GE860.out)); (case side2 => repeat (first | exact (Kd.C_below HR0_4.out HB.out) | (with_reducible refine Kd.C_alloc ?_ _) | (with_reducible refine Kd.C_drewN ?_ _) | (with_reducible refine Kd.C_drew ?_))); (case side3 => exact HC0_4.out); rintro e w19 ⟨rfl, hb⟩; refine ⟨_, rfl, ?_⟩; replace BK860 := Zaa.mk (Zah (g := gb860) (o := .cells #[.int .i64 a0_0, .int .i64 a0_1, .int .i64 a0_2, .int .i64 a0_3, .slice A0_4 l0_4.length c0_4, .bool a0_5, .int .i64 a0_6, .int .i64 a0_7, .int .i64 a0_8, .int .i64 a0_9, .string a0_10, .int .i64 a0_11, .int .i64 a0_12, .slice A0_13 l0_13.length c0_13] 64 (0, 0)) (zbk BK860) hb); replace HB := Zaa.mk (Zaf (zb2 HB GE860.out) hb); (try clear hb); obtain ⟨hcz20_0, hcz20_1, hcz20_2, hcz20_3, hcz20_4, hcz20_5, hcz20_6, hcz20_7, hcz20_8, hcz20_9, hcz20_10, hcz20_11, hcz20_12, hcz20_13⟩ := bc14 BK860.out; obtain ⟨hfz20_0, hfz20_1, hfz20_2, hfz20_3, hfz20_4, hfz20_5, hfz20_6, hfz20_7, hfz20_8, hfz20_9, hfz20_10, hfz20_11, hfz20_12, hfz20_13⟩ := bf14 BK860.out) | (go_at_call 100; (with_reducible refine (logfile_noRemote.calls a0_10 a0_11 a0_12 _ _ l0_13 false _ ?side1 ?side2 A10.out).mono ?_); (case side1 => repeat (first | exact (Kd.C_below HR0_13.out HB.out) | (with_reducible refine Kd.C_alloc ?_ _) | (with_reducible refine Kd.C_drewN ?_ _) | (with_reducible refine Kd.C_drew ?_))); (case side2 => exact HC0_13.out); rintro e w21 ⟨rfl, hb⟩; replace BK860 := Zaa.mk (Zah (g := gb860) (o := .cells #[.int .i64 a0_0, .int .i64 a0_1, .int .i64 a0_2, .int .i64 a0_3, .slice A0_4 l0_4.length c0_4, .bool a0_5, .int .i64 a0_6, .int .i64 a0_7, .int .i64 a0_8, .int .i64 a0_9, .string a0_10, .int .i64 a0_11, .int .i64 a0_12, .slice A0_13 l0_13.length c0_13] 64 (0, 0)) (zbk BK860) hb); replace HB := Zaa.mk (Zaf (zb2 HB GE860.out) hb); (try clear hb)))
     go_ret
     exact ⟨by first | rfl | (simp [errW_none, errW_some] <;> rfl) | (simp [*, errW_none, errW_some] <;> rfl), (zb2 HB GE860.out)⟩
  ·rw [if_neg c4] at H
   have c4b0 : (t861 == 0) = false := beq_eq_false_iff_ne.mpr c4
   have c4b1 : (t861 != 0) = true := bne_iff_ne.mpr c4
   obtain rfl := Option.some.inj H
   go_enter Tryd.func50, Tryd.ntmps50
   go_wp2_with (first | ((with_reducible refine Zao (N := 1) rfl ?_); (try (refine Za3 (by rfl) ?_; dsimp only)); refine Zap ?hg (N := 1) ?hd (cs := #[.int .i64 a0_0, .int .i64 a0_1, .int .i64 a0_2, .int .i64 a0_3, .slice A0_4 l0_4.length c0_4, .bool a0_5, .int .i64 a0_6, .int .i64 a0_7, .int .i64 a0_8, .int .i64 a0_9, .string a0_10, .int .i64 a0_11, .int .i64 a0_12, .slice A0_13 l0_13.length c0_13]) (t := 64) ?hr ?_; (case hd => rfl); (case hg => rfl); (case hr => first | (go_simp; done) | (go_simp; rfl)); intro gb860 hg w22 hbox hb; have BK860 := Zaa.mk (hbox); have GW860 := Zaa.mk ((by rw [hg]; exact (Zae (zb1 HB)) : w.heap.size ≤ gb860)); have GE860 := Zaa.mk ((by rw [hg]; exact (Zae (zb1 HB)) : w.heap.size ≤ gb860)); replace HB := Zaa.mk (Zaf (zb1 HB) hb); clear hb hbox hg; obtain ⟨hcz23_0, hcz23_1, hcz23_2, hcz23_3, hcz23_4, hcz23_5, hcz23_6, hcz23_7, hcz23_8, hcz23_9, hcz23_10, hcz23_11, hcz23_12, hcz23_13⟩ := bc14 BK860.out; obtain ⟨hfz23_0, hfz23_1, hfz23_2, hfz23_3, hfz23_4, hfz23_5, hfz23_6, hfz23_7, hfz23_8, hfz23_9, hfz23_10, hfz23_11, hfz23_12, hfz23_13⟩ := bf14 BK860.out) | ((with_reducible refine Zal (f := 52) rfl ?_); refine Za2 (some 13) rfl rfl Tryd.func52 (by kernel_rfl) rfl #[.agg #[.int .i64 a0_1, .int .i64 a0_2, .int .i64 a0_3, .slice A0_4 l0_4.length c0_4, .bool a0_5]] rfl zam ?_; (with_reducible refine (logfile_CheckEvent.calls k a0_1 a0_2 a0_3 _ _ l0_4 a0_5 t861 _ ?side1 ?side2 ?side3 A3.out).mono ?_); (case side1 => exact GT.below (by decide) HG.out (zb2 HB GE860.out)); (case side2 => repeat (first | exact (Kd.C_below HR0_4.out HB.out) | (with_reducible refine Kd.C_alloc ?_ _) | (with_reducible refine Kd.C_drewN ?_ _) | (with_reducible refine Kd.C_drew ?_))); (case side3 => exact HC0_4.out); rintro e w24 ⟨rfl, hb⟩; refine ⟨_, rfl, ?_⟩; replace BK860 := Zaa.mk (Zah (g := gb860) (o := .cells #[.int .i64 a0_0, .int .i64 a0_1, .int .i64 a0_2, .int .i64 a0_3, .slice A0_4 l0_4.length c0_4, .bool a0_5, .int .i64 a0_6, .int .i64 a0_7, .int .i64 a0_8, .int .i64 a0_9, .string a0_10, .int .i64 a0_11, .int .i64 a0_12, .slice A0_13 l0_13.length c0_13] 64 (0, 0)) (zbk BK860) hb); replace HB := Zaa.mk (Zaf (zb2 HB GE860.out) hb); (try clear hb)))
   go_ret
   exact ⟨by first | rfl | (simp [errW_none, errW_some] <;> rfl) | (simp [*, errW_none, errW_some] <;> rfl), (zb2 HB GE860.out)⟩
 ·rw [if_neg c2] at H
  have c2b0 : (a0_0 == 1) = false := beq_eq_false_iff_ne.mpr c2
  have c2b1 : (a0_0 != 1) = true := bne_iff_ne.mpr c2
  by_cases c25 : a0_0 = 2
  ·rw [if_pos c25] at H
   have c25b0 : (a0_0 == 2) = true := beq_iff_eq.mpr c25
   have c25b1 : (a0_0 != 2) = false := bne_eq_false_iff_eq.mpr c25
   clear c25
   have HC26 := Zaa.mk H
   clear H
   go_enter Tryd.func50, Tryd.ntmps50
   go_upto_region 11 with (first | ((with_reducible refine Zao (N := 1) rfl ?_); (try (refine Za3 (by rfl) ?_; dsimp only)); refine Zap ?hg (N := 1) ?hd (cs := #[.int .i64 a0_0, .int .i64 a0_1, .int .i64 a0_2, .int .i64 a0_3, .slice A0_4 l0_4.length c0_4, .bool a0_5, .int .i64 a0_6, .int .i64 a0_7, .int .i64 a0_8, .int .i64 a0_9, .string a0_10, .int .i64 a0_11, .int .i64 a0_12, .slice A0_13 l0_13.length c0_13]) (t := 64) ?hr ?_; (case hd => rfl); (case hg => rfl); (case hr => first | (go_simp; done) | (go_simp; rfl)); intro gb860 hg w27 hbox hb; have BK860 := Zaa.mk (hbox); have GW860 := Zaa.mk ((by rw [hg]; exact (Zae (zb1 HB)) : w.heap.size ≤ gb860)); have GE860 := Zaa.mk ((by rw [hg]; exact (Zae (zb1 HB)) : w.heap.size ≤ gb860)); replace HB := Zaa.mk (Zaf (zb1 HB) hb); clear hb hbox hg; obtain ⟨hcz28_0, hcz28_1, hcz28_2, hcz28_3, hcz28_4, hcz28_5, hcz28_6, hcz28_7, hcz28_8, hcz28_9, hcz28_10, hcz28_11, hcz28_12, hcz28_13⟩ := bc14 BK860.out; obtain ⟨hfz28_0, hfz28_1, hfz28_2, hfz28_3, hfz28_4, hfz28_5, hfz28_6, hfz28_7, hfz28_8, hfz28_9, hfz28_10, hfz28_11, hfz28_12, hfz28_13⟩ := bf14 BK860.out) | ((with_reducible refine Zao (N := 5) rfl ?_); (try (refine Za3 (by rfl) ?_; dsimp only)); refine Zap ?hg (N := 5) ?hd (cs := #[.int .i64 0, .int .i64 0, .int .i64 0, .int .i64 0]) (t := 60) ?hr ?_; (case hd => rfl); (case hg => rfl); (case hr => first | (go_simp; done) | (go_simp; rfl)); intro gb863 hg w29 hbox hb; have BK863 := Zaa.mk (hbox); have GW863 := Zaa.mk ((by rw [hg]; exact (Zae (zb2 HB GE860.out)) : w.heap.size ≤ gb863)); have GE863 := Zaa.mk ((by rw [hg]; exact (Zae (zb2 HB GE860.out)) : w.heap.size ≤ gb863)); replace HB := Zaa.mk (Zaf (zb2 HB GE860.out) hb); have NB860_863 := Zaa.mk ((by rw [hg]; exact Nat.ne_of_lt (Za1 (g := gb860) (o := .cells #[.int .i64 a0_0, .int .i64 a0_1, .int .i64 a0_2, .int .i64 a0_3, .slice A0_4 l0_4.length c0_4, .bool a0_5, .int .i64 a0_6, .int .i64 a0_7, .int .i64 a0_8, .int .i64 a0_9, .string a0_10, .int .i64 a0_11, .int .i64 a0_12, .slice A0_13 l0_13.length c0_13] 64 (0, 0)) (zbk BK860)) : gb860 ≠ gb863)); have NB863_860 := Zaa.mk ((by rw [hg]; exact Nat.ne_of_gt (Za1 (g := gb860) (o := .cells #[.int .i64 a0_0, .int .i64 a0_1, .int .i64 a0_2, .int .i64 a0_3, .slice A0_4 l0_4.length c0_4, .bool a0_5, .int .i64 a0_6, .int .i64 a0_7, .int .i64 a0_8, .int .i64 a0_9, .string a0_10, .int .i64 a0_11, .int .i64 a0_12, .slice A0_13 l0_13.length c0_13] 64 (0, 0)) (zbk BK860)) : gb863 ≠ gb860)); replace BK860 := Zaa.mk (Zah (g := gb860) (o := .cells #[.int .i64 a0_0, .int .i64 a0_1, .int .i64 a0_2, .int .i64 a0_3, .slice A0_4 l0_4.length c0_4, .bool a0_5, .int .i64 a0_6, .int .i64 a0_7, .int .i64 a0_8, .int .i64 a0_9, .string a0_10, .int .i64 a0_11, .int .i64 a0_12, .slice A0_13 l0_13.length c0_13] 64 (0, 0)) (zbk BK860) hb); clear hb hbox hg; have hnb30 := NB863_860.out; have hnc30 := NB860_863.out; obtain ⟨hcz31_0, hcz31_1, hcz31_2, hcz31_3⟩ := bc4 BK863.out; obtain ⟨hfz31_0, hfz31_1, hfz31_2, hfz31_3⟩ := bf4 BK863.out))
   (try simp only [Act.put, List.setIfInBounds_toArray, List.set_cons_zero, List.set_cons_succ])
   go_cut [52] (fun v52 wc => ∃ (kq : Nat) (x52_25 : Bool), v52 = .bool x52_25 ∧ Zaa (logfile_Check.j0 kq x52_25 a0_0 a0_1 a0_2 a0_3 l0_4 a0_5 a0_6 a0_7 a0_8 a0_9 a0_10 a0_11 a0_12 l0_13 = some r) ∧ Zaa (kq ≤ k) ∧ Zaa (wc.heap[gb860]? = some (.cells #[.int .i64 a0_0, .int .i64 a0_1, .int .i64 a0_2, .int .i64 a0_3, (.slice A0_4 l0_4.length c0_4), .bool a0_5, .int .i64 a0_6, .int .i64 a0_7, .int .i64 a0_8, .int .i64 a0_9, .string a0_10, .int .i64 a0_11, .int .i64 a0_12, (.slice A0_13 l0_13.length c0_13)] 64 (0, 0))) ∧ Zaa (wc.heap[gb863]? = some (.cells #[.int .i64 a0_6, .int .i64 a0_7, .int .i64 a0_8, .int .i64 a0_9] 60 (0, 0))) ∧ Zaa (Below w.heap.size w wc))
   case first =>
    have H := HC26.out
    clear HC26
    replace H := Option.bind_eq_some_iff.mp H
    obtain ⟨t864, A320, H⟩ := H
    try dsimp only at H
    have A32 := Zaa.mk A320
    clear A320
    by_cases c33 : t864 = true
    ·subst c33
     rw [if_pos rfl] at H
     replace H := Option.bind_eq_some_iff.mp H
     obtain ⟨t865, A340, H⟩ := H
     try dsimp only at H
     have A34 := Zaa.mk A340
     clear A340
     by_cases c35 : t865 = true
     ·subst c35
      rw [if_pos rfl] at H
      replace H := Option.bind_eq_some_iff.mp H
      obtain ⟨t866, A360, H⟩ := H
      try dsimp only at H
      have A36 := Zaa.mk A360
      clear A360
      by_cases c37 : t866 = true
      ·subst c37
       rw [if_pos rfl] at H
       replace H := Option.bind_eq_some_iff.mp H
       obtain ⟨t867, A380, H⟩ := H
       try dsimp only at H
       have A38 := Zaa.mk A380
       clear A380
       have H' := Zaa.mk H
       clear H
       have hnb39 := NB863_860.out
       have hnc39 := NB860_863.out
       obtain ⟨hcz40_0, hcz40_1, hcz40_2, hcz40_3⟩ := bc4 BK863.out
       obtain ⟨hfz40_0, hfz40_1, hfz40_2, hfz40_3⟩ := bf4 BK863.out
       go_wp2_with (first | ((with_reducible refine Zal (f := 101) rfl ?_); refine Za2 (some 33) rfl rfl Tryd.func101 (by kernel_rfl) rfl #[.int .i64 a0_6, .int .i64 1, .int .i64 7] rfl zam ?_; (with_reducible refine (logfile_within.calls a0_6 1 7 true _ A32.out).mono ?_); rintro e w' ⟨rfl, ⟨nd, rfl⟩⟩; refine ⟨_, rfl, ?_⟩) | (go_at_call 101; (with_reducible refine (logfile_within.calls a0_7 0 1099511627776 true _ A34.out).mono ?_); rintro e w' ⟨rfl, ⟨nd, rfl⟩⟩) | (go_at_call 101; (with_reducible refine (logfile_within.calls a0_8 0 1099511627776 true _ A36.out).mono ?_); rintro e w' ⟨rfl, ⟨nd, rfl⟩⟩) | (go_at_call 101; (with_reducible refine (logfile_within.calls a0_9 0 1099511627776 t867 _ A38.out).mono ?_); rintro e w' ⟨rfl, ⟨nd, rfl⟩⟩))
       go_meet
       case rel => exact ⟨_, (!t867), (by first | rfl | (simp; done) | (simp [*]; done)), H', ⟨by first | omega | exact Nat.le_refl _⟩, ⟨by (with_reducible repeat (first | refine Zac ?_ _ | refine Zad ?_ | refine Zab ?_ _)); refine Zak ?_ NB860_863.out _; (with_reducible repeat (first | refine Zac ?_ _ | refine Zad ?_ | refine Zab ?_ _)); refine Zak ?_ NB860_863.out _; (with_reducible repeat (first | refine Zac ?_ _ | refine Zad ?_ | refine Zab ?_ _)); refine Zak ?_ NB860_863.out _; (with_reducible repeat (first | refine Zac ?_ _ | refine Zad ?_ | refine Zab ?_ _)); refine Zak ?_ NB860_863.out _; (with_reducible repeat (first | refine Zac ?_ _ | refine Zad ?_ | refine Zab ?_ _)); exact BK860.out⟩, ⟨by (with_reducible repeat (first | refine Zac ?_ _ | refine Zad ?_ | refine Zab ?_ _)); refine Zaj (cs := #[.int .i64 a0_6, .int .i64 a0_7, .int .i64 a0_8, .int .i64 0]) ?_ 3 _ rfl; (with_reducible repeat (first | refine Zac ?_ _ | refine Zad ?_ | refine Zab ?_ _)); refine Zaj (cs := #[.int .i64 a0_6, .int .i64 a0_7, .int .i64 0, .int .i64 0]) ?_ 2 _ rfl; (with_reducible repeat (first | refine Zac ?_ _ | refine Zad ?_ | refine Zab ?_ _)); refine Zaj (cs := #[.int .i64 a0_6, .int .i64 0, .int .i64 0, .int .i64 0]) ?_ 1 _ rfl; (with_reducible repeat (first | refine Zac ?_ _ | refine Zad ?_ | refine Zab ?_ _)); refine Zaj (cs := #[.int .i64 0, .int .i64 0, .int .i64 0, .int .i64 0]) ?_ 0 _ rfl; (with_reducible repeat (first | refine Zac ?_ _ | refine Zad ?_ | refine Zab ?_ _)); exact BK863.out⟩, ⟨(zb3 HB GE860.out GE863.out)⟩⟩
      ·replace c37 := Bool.eq_false_iff.mpr c37
       subst c37
       rw [if_neg (show ¬ (false = true) by decide)] at H
       have H' := Zaa.mk H
       clear H
       have hnb41 := NB863_860.out
       have hnc41 := NB860_863.out
       obtain ⟨hcz42_0, hcz42_1, hcz42_2, hcz42_3⟩ := bc4 BK863.out
       obtain ⟨hfz42_0, hfz42_1, hfz42_2, hfz42_3⟩ := bf4 BK863.out
       go_wp2_with (first | ((with_reducible refine Zal (f := 101) rfl ?_); refine Za2 (some 33) rfl rfl Tryd.func101 (by kernel_rfl) rfl #[.int .i64 a0_6, .int .i64 1, .int .i64 7] rfl zam ?_; (with_reducible refine (logfile_within.calls a0_6 1 7 true _ A32.out).mono ?_); rintro e w' ⟨rfl, ⟨nd, rfl⟩⟩; refine ⟨_, rfl, ?_⟩) | (go_at_call 101; (with_reducible refine (logfile_within.calls a0_7 0 1099511627776 true _ A34.out).mono ?_); rintro e w' ⟨rfl, ⟨nd, rfl⟩⟩) | (go_at_call 101; (with_reducible refine (logfile_within.calls a0_8 0 1099511627776 false _ A36.out).mono ?_); rintro e w' ⟨rfl, ⟨nd, rfl⟩⟩))
       go_meet
       case rel => exact ⟨_, (true), (by first | rfl | (simp; done) | (simp [*]; done)), H', ⟨by first | omega | exact Nat.le_refl _⟩, ⟨by (with_reducible repeat (first | refine Zac ?_ _ | refine Zad ?_ | refine Zab ?_ _)); refine Zak ?_ NB860_863.out _; (with_reducible repeat (first | refine Zac ?_ _ | refine Zad ?_ | refine Zab ?_ _)); refine Zak ?_ NB860_863.out _; (with_reducible repeat (first | refine Zac ?_ _ | refine Zad ?_ | refine Zab ?_ _)); refine Zak ?_ NB860_863.out _; (with_reducible repeat (first | refine Zac ?_ _ | refine Zad ?_ | refine Zab ?_ _)); refine Zak ?_ NB860_863.out _; (with_reducible repeat (first | refine Zac ?_ _ | refine Zad ?_ | refine Zab ?_ _)); exact BK860.out⟩, ⟨by (with_reducible repeat (first | refine Zac ?_ _ | refine Zad ?_ | refine Zab ?_ _)); refine Zaj (cs := #[.int .i64 a0_6, .int .i64 a0_7, .int .i64 a0_8, .int .i64 0]) ?_ 3 _ rfl; (with_reducible repeat (first | refine Zac ?_ _ | refine Zad ?_ | refine Zab ?_ _)); refine Zaj (cs := #[.int .i64 a0_6, .int .i64 a0_7, .int .i64 0, .int .i64 0]) ?_ 2 _ rfl; (with_reducible repeat (first | refine Zac ?_ _ | refine Zad ?_ | refine Zab ?_ _)); refine Zaj (cs := #[.int .i64 a0_6, .int .i64 0, .int .i64 0, .int .i64 0]) ?_ 1 _ rfl; (with_reducible repeat (first | refine Zac ?_ _ | refine Zad ?_ | refine Zab ?_ _)); refine Zaj (cs := #[.int .i64 0, .int .i64 0, .int .i64 0, .int .i64 0]) ?_ 0 _ rfl; (with_reducible repeat (first | refine Zac ?_ _ | refine Zad ?_ | refine Zab ?_ _)); exact BK863.out⟩, ⟨(zb3 HB GE860.out GE863.out)⟩⟩
     ·replace c35 := Bool.eq_false_iff.mpr c35
      subst c35
      rw [if_neg (show ¬ (false = true) by decide)] at H
      have H' := Zaa.mk H
      clear H
      have hnb43 := NB863_860.out
      have hnc43 := NB860_863.out
      obtain ⟨hcz44_0, hcz44_1, hcz44_2, hcz44_3⟩ := bc4 BK863.out
      obtain ⟨hfz44_0, hfz44_1, hfz44_2, hfz44_3⟩ := bf4 BK863.out
      go_wp2_with (first | ((with_reducible refine Zal (f := 101) rfl ?_); refine Za2 (some 33) rfl rfl Tryd.func101 (by kernel_rfl) rfl #[.int .i64 a0_6, .int .i64 1, .int .i64 7] rfl zam ?_; (with_reducible refine (logfile_within.calls a0_6 1 7 true _ A32.out).mono ?_); rintro e w' ⟨rfl, ⟨nd, rfl⟩⟩; refine ⟨_, rfl, ?_⟩) | (go_at_call 101; (with_reducible refine (logfile_within.calls a0_7 0 1099511627776 false _ A34.out).mono ?_); rintro e w' ⟨rfl, ⟨nd, rfl⟩⟩))
      go_meet
      case rel => exact ⟨_, (true), (by first | rfl | (simp; done) | (simp [*]; done)), H', ⟨by first | omega | exact Nat.le_refl _⟩, ⟨by (with_reducible repeat (first | refine Zac ?_ _ | refine Zad ?_ | refine Zab ?_ _)); refine Zak ?_ NB860_863.out _; (with_reducible repeat (first | refine Zac ?_ _ | refine Zad ?_ | refine Zab ?_ _)); refine Zak ?_ NB860_863.out _; (with_reducible repeat (first | refine Zac ?_ _ | refine Zad ?_ | refine Zab ?_ _)); refine Zak ?_ NB860_863.out _; (with_reducible repeat (first | refine Zac ?_ _ | refine Zad ?_ | refine Zab ?_ _)); refine Zak ?_ NB860_863.out _; (with_reducible repeat (first | refine Zac ?_ _ | refine Zad ?_ | refine Zab ?_ _)); exact BK860.out⟩, ⟨by (with_reducible repeat (first | refine Zac ?_ _ | refine Zad ?_ | refine Zab ?_ _)); refine Zaj (cs := #[.int .i64 a0_6, .int .i64 a0_7, .int .i64 a0_8, .int .i64 0]) ?_ 3 _ rfl; (with_reducible repeat (first | refine Zac ?_ _ | refine Zad ?_ | refine Zab ?_ _)); refine Zaj (cs := #[.int .i64 a0_6, .int .i64 a0_7, .int .i64 0, .int .i64 0]) ?_ 2 _ rfl; (with_reducible repeat (first | refine Zac ?_ _ | refine Zad ?_ | refine Zab ?_ _)); refine Zaj (cs := #[.int .i64 a0_6, .int .i64 0, .int .i64 0, .int .i64 0]) ?_ 1 _ rfl; (with_reducible repeat (first | refine Zac ?_ _ | refine Zad ?_ | refine Zab ?_ _)); refine Zaj (cs := #[.int .i64 0, .int .i64 0, .int .i64 0, .int .i64 0]) ?_ 0 _ rfl; (with_reducible repeat (first | refine Zac ?_ _ | refine Zad ?_ | refine Zab ?_ _)); exact BK863.out⟩, ⟨(zb3 HB GE860.out GE863.out)⟩⟩
    ·replace c33 := Bool.eq_false_iff.mpr c33
     subst c33
     rw [if_neg (show ¬ (false = true) by decide)] at H
     have H' := Zaa.mk H
     clear H
     have hnb45 := NB863_860.out
     have hnc45 := NB860_863.out
     obtain ⟨hcz46_0, hcz46_1, hcz46_2, hcz46_3⟩ := bc4 BK863.out
     obtain ⟨hfz46_0, hfz46_1, hfz46_2, hfz46_3⟩ := bf4 BK863.out
     go_wp2_with (first | ((with_reducible refine Zal (f := 101) rfl ?_); refine Za2 (some 33) rfl rfl Tryd.func101 (by kernel_rfl) rfl #[.int .i64 a0_6, .int .i64 1, .int .i64 7] rfl zam ?_; (with_reducible refine (logfile_within.calls a0_6 1 7 false _ A32.out).mono ?_); rintro e w' ⟨rfl, ⟨nd, rfl⟩⟩; refine ⟨_, rfl, ?_⟩))
     go_meet
     case rel => exact ⟨_, (true), (by first | rfl | (simp; done) | (simp [*]; done)), H', ⟨by first | omega | exact Nat.le_refl _⟩, ⟨by (with_reducible repeat (first | refine Zac ?_ _ | refine Zad ?_ | refine Zab ?_ _)); refine Zak ?_ NB860_863.out _; (with_reducible repeat (first | refine Zac ?_ _ | refine Zad ?_ | refine Zab ?_ _)); refine Zak ?_ NB860_863.out _; (with_reducible repeat (first | refine Zac ?_ _ | refine Zad ?_ | refine Zab ?_ _)); refine Zak ?_ NB860_863.out _; (with_reducible repeat (first | refine Zac ?_ _ | refine Zad ?_ | refine Zab ?_ _)); refine Zak ?_ NB860_863.out _; (with_reducible repeat (first | refine Zac ?_ _ | refine Zad ?_ | refine Zab ?_ _)); exact BK860.out⟩, ⟨by (with_reducible repeat (first | refine Zac ?_ _ | refine Zad ?_ | refine Zab ?_ _)); refine Zaj (cs := #[.int .i64 a0_6, .int .i64 a0_7, .int .i64 a0_8, .int .i64 0]) ?_ 3 _ rfl; (with_reducible repeat (first | refine Zac ?_ _ | refine Zad ?_ | refine Zab ?_ _)); refine Zaj (cs := #[.int .i64 a0_6, .int .i64 a0_7, .int .i64 0, .int .i64 0]) ?_ 2 _ rfl; (with_reducible repeat (first | refine Zac ?_ _ | refine Zad ?_ | refine Zab ?_ _)); refine Zaj (cs := #[.int .i64 a0_6, .int .i64 0, .int .i64 0, .int .i64 0]) ?_ 1 _ rfl; (with_reducible repeat (first | refine Zac ?_ _ | refine Zad ?_ | refine Zab ?_ _)); refine Zaj (cs := #[.int .i64 0, .int .i64 0, .int .i64 0, .int .i64 0]) ?_ 0 _ rfl; (with_reducible repeat (first | refine Zac ?_ _ | refine Zad ?_ | refine Zab ?_ _)); exact BK863.out⟩, ⟨(zb3 HB GE860.out GE863.out)⟩⟩
   case rest =>
    clear HC26
    (try clear c2)
    (try clear c2b0)
    (try clear c2b1)
    (try clear c25)
    (try clear c25b0)
    (try clear c25b1)
    (try clear hcz28_0)
    (try clear hcz28_1)
    (try clear hcz28_10)
    (try clear hcz28_11)
    (try clear hcz28_12)
    (try clear hcz28_13)
    (try clear hcz28_2)
    (try clear hcz28_3)
    (try clear hcz28_4)
    (try clear hcz28_5)
    (try clear hcz28_6)
    (try clear hcz28_7)
    (try clear hcz28_8)
    (try clear hcz28_9)
    (try clear hcz31_0)
    (try clear hcz31_1)
    (try clear hcz31_2)
    (try clear hcz31_3)
    (try clear hfz28_0)
    (try clear hfz28_1)
    (try clear hfz28_10)
    (try clear hfz28_11)
    (try clear hfz28_12)
    (try clear hfz28_13)
    (try clear hfz28_2)
    (try clear hfz28_3)
    (try clear hfz28_4)
    (try clear hfz28_5)
    (try clear hfz28_6)
    (try clear hfz28_7)
    (try clear hfz28_8)
    (try clear hfz28_9)
    (try clear hfz31_0)
    (try clear hfz31_1)
    (try clear hfz31_2)
    (try clear hfz31_3)
    obtain ⟨kq, x52_25, rfl, HA, HJ25, BK860, BK863, HB⟩ := hcut
    cases kq with
    | zero => exact absurd HA.out (by simp [logfile_Check.j0])
    | succ kj25 =>
     have H := HA.out
     clear HA
     simp only [logfile_Check.j0] at H
     by_cases c47 : x52_25 = true
     ·subst c47
      rw [if_pos rfl] at H
      obtain rfl := Option.some.inj H
      go_wp2
      go_ret
      exact ⟨by first | rfl | (simp [errW_none, errW_some] <;> rfl) | (simp [*, errW_none, errW_some] <;> rfl), (zb3 HB GE860.out GE863.out)⟩
     ·replace c47 := Bool.eq_false_iff.mpr c47
      subst c47
      rw [if_neg (show ¬ (false = true) by decide)] at H
      replace H := Option.bind_eq_some_iff.mp H
      obtain ⟨t868, A480, H⟩ := H
      try dsimp only at H
      have A48 := Zaa.mk A480
      clear A480
      by_cases c49 : t868 = true
      ·subst c49
       rw [if_pos rfl] at H
       replace H := Option.bind_eq_some_iff.mp H
       obtain ⟨t869, A500, H⟩ := H
       try dsimp only at H
       have A50 := Zaa.mk A500
       clear A500
       by_cases c51 : t869 = true
       ·subst c51
        rw [if_pos rfl] at H
        obtain rfl := Option.some.inj H
        have hnb52 := NB860_863.out
        have hnc52 := NB863_860.out
        obtain ⟨hcz53_0, hcz53_1, hcz53_2, hcz53_3, hcz53_4, hcz53_5, hcz53_6, hcz53_7, hcz53_8, hcz53_9, hcz53_10, hcz53_11, hcz53_12, hcz53_13⟩ := bc14 BK860.out
        obtain ⟨hfz53_0, hfz53_1, hfz53_2, hfz53_3, hfz53_4, hfz53_5, hfz53_6, hfz53_7, hfz53_8, hfz53_9, hfz53_10, hfz53_11, hfz53_12, hfz53_13⟩ := bf14 BK860.out
        go_wp2_with (first | ((with_reducible refine Zal (f := 102) rfl ?_); refine Za2 (some 55) rfl rfl Tryd.func102 (by kernel_rfl) rfl #[.agg #[.int .i64 a0_1, .int .i64 a0_2, .int .i64 a0_3, .slice A0_4 l0_4.length c0_4, .bool a0_5]] rfl zam ?_; (with_reducible refine (logfile_noEvent.calls a0_1 a0_2 a0_3 _ _ l0_4 a0_5 true _ ?side1 ?side2 A48.out).mono ?_); (case side1 => repeat (first | exact (Kd.C_below HR0_4.out HB.out) | (with_reducible refine Kd.C_alloc ?_ _) | (with_reducible refine Kd.C_drewN ?_ _) | (with_reducible refine Kd.C_drew ?_))); (case side2 => exact HC0_4.out); rintro e w54 ⟨rfl, hb⟩; refine ⟨_, rfl, ?_⟩; replace BK860 := Zaa.mk (Zah (g := gb860) (o := .cells #[.int .i64 a0_0, .int .i64 a0_1, .int .i64 a0_2, .int .i64 a0_3, .slice A0_4 l0_4.length c0_4, .bool a0_5, .int .i64 a0_6, .int .i64 a0_7, .int .i64 a0_8, .int .i64 a0_9, .string a0_10, .int .i64 a0_11, .int .i64 a0_12, .slice A0_13 l0_13.length c0_13] 64 (0, 0)) (zbk BK860) hb); replace BK863 := Zaa.mk (Zah (g := gb863) (o := .cells #[.int .i64 a0_6, .int .i64 a0_7, .int .i64 a0_8, .int .i64 a0_9] 60 (0, 0)) (zbk BK863) hb); replace HB := Zaa.mk (Zaf (zb3 HB GE860.out GE863.out) hb); (try clear hb); obtain ⟨hcz55_0, hcz55_1, hcz55_2, hcz55_3, hcz55_4, hcz55_5, hcz55_6, hcz55_7, hcz55_8, hcz55_9, hcz55_10, hcz55_11, hcz55_12, hcz55_13⟩ := bc14 BK860.out; obtain ⟨hfz55_0, hfz55_1, hfz55_2, hfz55_3, hfz55_4, hfz55_5, hfz55_6, hfz55_7, hfz55_8, hfz55_9, hfz55_10, hfz55_11, hfz55_12, hfz55_13⟩ := bf14 BK860.out) | (go_at_call 100; (with_reducible refine (logfile_noRemote.calls a0_10 a0_11 a0_12 _ _ l0_13 true _ ?side1 ?side2 A50.out).mono ?_); (case side1 => repeat (first | exact (Kd.C_below HR0_13.out HB.out) | (with_reducible refine Kd.C_alloc ?_ _) | (with_reducible refine Kd.C_drewN ?_ _) | (with_reducible refine Kd.C_drew ?_))); (case side2 => exact HC0_13.out); rintro e w56 ⟨rfl, hb⟩; replace BK860 := Zaa.mk (Zah (g := gb860) (o := .cells #[.int .i64 a0_0, .int .i64 a0_1, .int .i64 a0_2, .int .i64 a0_3, .slice A0_4 l0_4.length c0_4, .bool a0_5, .int .i64 a0_6, .int .i64 a0_7, .int .i64 a0_8, .int .i64 a0_9, .string a0_10, .int .i64 a0_11, .int .i64 a0_12, .slice A0_13 l0_13.length c0_13] 64 (0, 0)) (zbk BK860) hb); replace BK863 := Zaa.mk (Zah (g := gb863) (o := .cells #[.int .i64 a0_6, .int .i64 a0_7, .int .i64 a0_8, .int .i64 a0_9] 60 (0, 0)) (zbk BK863) hb); replace HB := Zaa.mk (Zaf (zb3 HB GE860.out GE863.out) hb); (try clear hb)))
        go_ret
        exact ⟨by first | rfl | (simp [errW_none, errW_some] <;> rfl) | (simp [*, errW_none, errW_some] <;> rfl), (zb3 HB GE860.out GE863.out)⟩
       ·replace c51 := Bool.eq_false_iff.mpr c51
        subst c51
        rw [if_neg (show ¬ (false = true) by decide)] at H
        obtain rfl := Option.some.inj H
        have hnb57 := NB860_863.out
        have hnc57 := NB863_860.out
        obtain ⟨hcz58_0, hcz58_1, hcz58_2, hcz58_3, hcz58_4, hcz58_5, hcz58_6, hcz58_7, hcz58_8, hcz58_9, hcz58_10, hcz58_11, hcz58_12, hcz58_13⟩ := bc14 BK860.out
        obtain ⟨hfz58_0, hfz58_1, hfz58_2, hfz58_3, hfz58_4, hfz58_5, hfz58_6, hfz58_7, hfz58_8, hfz58_9, hfz58_10, hfz58_11, hfz58_12, hfz58_13⟩ := bf14 BK860.out
        go_wp2_with (first | ((with_reducible refine Zal (f := 102) rfl ?_); refine Za2 (some 55) rfl rfl Tryd.func102 (by kernel_rfl) rfl #[.agg #[.int .i64 a0_1, .int .i64 a0_2, .int .i64 a0_3, .slice A0_4 l0_4.length c0_4, .bool a0_5]] rfl zam ?_; (with_reducible refine (logfile_noEvent.calls a0_1 a0_2 a0_3 _ _ l0_4 a0_5 true _ ?side1 ?side2 A48.out).mono ?_); (case side1 => repeat (first | exact (Kd.C_below HR0_4.out HB.out) | (with_reducible refine Kd.C_alloc ?_ _) | (with_reducible refine Kd.C_drewN ?_ _) | (with_reducible refine Kd.C_drew ?_))); (case side2 => exact HC0_4.out); rintro e w59 ⟨rfl, hb⟩; refine ⟨_, rfl, ?_⟩; replace BK860 := Zaa.mk (Zah (g := gb860) (o := .cells #[.int .i64 a0_0, .int .i64 a0_1, .int .i64 a0_2, .int .i64 a0_3, .slice A0_4 l0_4.length c0_4, .bool a0_5, .int .i64 a0_6, .int .i64 a0_7, .int .i64 a0_8, .int .i64 a0_9, .string a0_10, .int .i64 a0_11, .int .i64 a0_12, .slice A0_13 l0_13.length c0_13] 64 (0, 0)) (zbk BK860) hb); replace BK863 := Zaa.mk (Zah (g := gb863) (o := .cells #[.int .i64 a0_6, .int .i64 a0_7, .int .i64 a0_8, .int .i64 a0_9] 60 (0, 0)) (zbk BK863) hb); replace HB := Zaa.mk (Zaf (zb3 HB GE860.out GE863.out) hb); (try clear hb); obtain ⟨hcz60_0, hcz60_1, hcz60_2, hcz60_3, hcz60_4, hcz60_5, hcz60_6, hcz60_7, hcz60_8, hcz60_9, hcz60_10, hcz60_11, hcz60_12, hcz60_13⟩ := bc14 BK860.out; obtain ⟨hfz60_0, hfz60_1, hfz60_2, hfz60_3, hfz60_4, hfz60_5, hfz60_6, hfz60_7, hfz60_8, hfz60_9, hfz60_10, hfz60_11, hfz60_12, hfz60_13⟩ := bf14 BK860.out) | (go_at_call 100; (with_reducible refine (logfile_noRemote.calls a0_10 a0_11 a0_12 _ _ l0_13 false _ ?side1 ?side2 A50.out).mono ?_); (case side1 => repeat (first | exact (Kd.C_below HR0_13.out HB.out) | (with_reducible refine Kd.C_alloc ?_ _) | (with_reducible refine Kd.C_drewN ?_ _) | (with_reducible refine Kd.C_drew ?_))); (case side2 => exact HC0_13.out); rintro e w61 ⟨rfl, hb⟩; replace BK860 := Zaa.mk (Zah (g := gb860) (o := .cells #[.int .i64 a0_0, .int .i64 a0_1, .int .i64 a0_2, .int .i64 a0_3, .slice A0_4 l0_4.length c0_4, .bool a0_5, .int .i64 a0_6, .int .i64 a0_7, .int .i64 a0_8, .int .i64 a0_9, .string a0_10, .int .i64 a0_11, .int .i64 a0_12, .slice A0_13 l0_13.length c0_13] 64 (0, 0)) (zbk BK860) hb); replace BK863 := Zaa.mk (Zah (g := gb863) (o := .cells #[.int .i64 a0_6, .int .i64 a0_7, .int .i64 a0_8, .int .i64 a0_9] 60 (0, 0)) (zbk BK863) hb); replace HB := Zaa.mk (Zaf (zb3 HB GE860.out GE863.out) hb); (try clear hb)))
        go_ret
        exact ⟨by first | rfl | (simp [errW_none, errW_some] <;> rfl) | (simp [*, errW_none, errW_some] <;> rfl), (zb3 HB GE860.out GE863.out)⟩
      ·replace c49 := Bool.eq_false_iff.mpr c49
       subst c49
       rw [if_neg (show ¬ (false = true) by decide)] at H
       obtain rfl := Option.some.inj H
       have hnb62 := NB860_863.out
       have hnc62 := NB863_860.out
       obtain ⟨hcz63_0, hcz63_1, hcz63_2, hcz63_3, hcz63_4, hcz63_5, hcz63_6, hcz63_7, hcz63_8, hcz63_9, hcz63_10, hcz63_11, hcz63_12, hcz63_13⟩ := bc14 BK860.out
       obtain ⟨hfz63_0, hfz63_1, hfz63_2, hfz63_3, hfz63_4, hfz63_5, hfz63_6, hfz63_7, hfz63_8, hfz63_9, hfz63_10, hfz63_11, hfz63_12, hfz63_13⟩ := bf14 BK860.out
       go_wp2_with (first | ((with_reducible refine Zal (f := 102) rfl ?_); refine Za2 (some 55) rfl rfl Tryd.func102 (by kernel_rfl) rfl #[.agg #[.int .i64 a0_1, .int .i64 a0_2, .int .i64 a0_3, .slice A0_4 l0_4.length c0_4, .bool a0_5]] rfl zam ?_; (with_reducible refine (logfile_noEvent.calls a0_1 a0_2 a0_3 _ _ l0_4 a0_5 false _ ?side1 ?side2 A48.out).mono ?_); (case side1 => repeat (first | exact (Kd.C_below HR0_4.out HB.out) | (with_reducible refine Kd.C_alloc ?_ _) | (with_reducible refine Kd.C_drewN ?_ _) | (with_reducible refine Kd.C_drew ?_))); (case side2 => exact HC0_4.out); rintro e w64 ⟨rfl, hb⟩; refine ⟨_, rfl, ?_⟩; replace BK860 := Zaa.mk (Zah (g := gb860) (o := .cells #[.int .i64 a0_0, .int .i64 a0_1, .int .i64 a0_2, .int .i64 a0_3, .slice A0_4 l0_4.length c0_4, .bool a0_5, .int .i64 a0_6, .int .i64 a0_7, .int .i64 a0_8, .int .i64 a0_9, .string a0_10, .int .i64 a0_11, .int .i64 a0_12, .slice A0_13 l0_13.length c0_13] 64 (0, 0)) (zbk BK860) hb); replace BK863 := Zaa.mk (Zah (g := gb863) (o := .cells #[.int .i64 a0_6, .int .i64 a0_7, .int .i64 a0_8, .int .i64 a0_9] 60 (0, 0)) (zbk BK863) hb); replace HB := Zaa.mk (Zaf (zb3 HB GE860.out GE863.out) hb); (try clear hb)))
       go_ret
       exact ⟨by first | rfl | (simp [errW_none, errW_some] <;> rfl) | (simp [*, errW_none, errW_some] <;> rfl), (zb3 HB GE860.out GE863.out)⟩
  ·rw [if_neg c25] at H
   have c25b0 : (a0_0 == 2) = false := beq_eq_false_iff_ne.mpr c25
   have c25b1 : (a0_0 != 2) = true := bne_iff_ne.mpr c25
   by_cases c65 : a0_0 = 3
   ·rw [if_pos c65] at H
    have c65b0 : (a0_0 == 3) = true := beq_iff_eq.mpr c65
    have c65b1 : (a0_0 != 3) = false := bne_eq_false_iff_eq.mpr c65
    clear c65
    have HC66 := Zaa.mk H
    clear H
    go_enter Tryd.func50, Tryd.ntmps50
    go_upto_region 16 with (first | ((with_reducible refine Zao (N := 1) rfl ?_); (try (refine Za3 (by rfl) ?_; dsimp only)); refine Zap ?hg (N := 1) ?hd (cs := #[.int .i64 a0_0, .int .i64 a0_1, .int .i64 a0_2, .int .i64 a0_3, .slice A0_4 l0_4.length c0_4, .bool a0_5, .int .i64 a0_6, .int .i64 a0_7, .int .i64 a0_8, .int .i64 a0_9, .string a0_10, .int .i64 a0_11, .int .i64 a0_12, .slice A0_13 l0_13.length c0_13]) (t := 64) ?hr ?_; (case hd => rfl); (case hg => rfl); (case hr => first | (go_simp; done) | (go_simp; rfl)); intro gb860 hg w67 hbox hb; have BK860 := Zaa.mk (hbox); have GW860 := Zaa.mk ((by rw [hg]; exact (Zae (zb1 HB)) : w.heap.size ≤ gb860)); have GE860 := Zaa.mk ((by rw [hg]; exact (Zae (zb1 HB)) : w.heap.size ≤ gb860)); replace HB := Zaa.mk (Zaf (zb1 HB) hb); clear hb hbox hg; obtain ⟨hcz68_0, hcz68_1, hcz68_2, hcz68_3, hcz68_4, hcz68_5, hcz68_6, hcz68_7, hcz68_8, hcz68_9, hcz68_10, hcz68_11, hcz68_12, hcz68_13⟩ := bc14 BK860.out; obtain ⟨hfz68_0, hfz68_1, hfz68_2, hfz68_3, hfz68_4, hfz68_5, hfz68_6, hfz68_7, hfz68_8, hfz68_9, hfz68_10, hfz68_11, hfz68_12, hfz68_13⟩ := bf14 BK860.out) | ((with_reducible refine Zao (N := 6) rfl ?_); (try (refine Za3 (by rfl) ?_; dsimp only)); refine Zap ?hg (N := 6) ?hd (cs := #[.string (⟨#[]⟩ : ByteArray), .int .i64 0, .int .i64 0, .slice none 0 0]) (t := 62) ?hr ?_; (case hd => rfl); (case hg => rfl); (case hr => first | (go_simp; done) | (go_simp; rfl)); intro gb870 hg w69 hbox hb; have BK870 := Zaa.mk (hbox); have GW870 := Zaa.mk ((by rw [hg]; exact (Zae (zb2 HB GE860.out)) : w.heap.size ≤ gb870)); have GE870 := Zaa.mk ((by rw [hg]; exact (Zae (zb2 HB GE860.out)) : w.heap.size ≤ gb870)); replace HB := Zaa.mk (Zaf (zb2 HB GE860.out) hb); have NB860_870 := Zaa.mk ((by rw [hg]; exact Nat.ne_of_lt (Za1 (g := gb860) (o := .cells #[.int .i64 a0_0, .int .i64 a0_1, .int .i64 a0_2, .int .i64 a0_3, .slice A0_4 l0_4.length c0_4, .bool a0_5, .int .i64 a0_6, .int .i64 a0_7, .int .i64 a0_8, .int .i64 a0_9, .string a0_10, .int .i64 a0_11, .int .i64 a0_12, .slice A0_13 l0_13.length c0_13] 64 (0, 0)) (zbk BK860)) : gb860 ≠ gb870)); have NB870_860 := Zaa.mk ((by rw [hg]; exact Nat.ne_of_gt (Za1 (g := gb860) (o := .cells #[.int .i64 a0_0, .int .i64 a0_1, .int .i64 a0_2, .int .i64 a0_3, .slice A0_4 l0_4.length c0_4, .bool a0_5, .int .i64 a0_6, .int .i64 a0_7, .int .i64 a0_8, .int .i64 a0_9, .string a0_10, .int .i64 a0_11, .int .i64 a0_12, .slice A0_13 l0_13.length c0_13] 64 (0, 0)) (zbk BK860)) : gb870 ≠ gb860)); replace BK860 := Zaa.mk (Zah (g := gb860) (o := .cells #[.int .i64 a0_0, .int .i64 a0_1, .int .i64 a0_2, .int .i64 a0_3, .slice A0_4 l0_4.length c0_4, .bool a0_5, .int .i64 a0_6, .int .i64 a0_7, .int .i64 a0_8, .int .i64 a0_9, .string a0_10, .int .i64 a0_11, .int .i64 a0_12, .slice A0_13 l0_13.length c0_13] 64 (0, 0)) (zbk BK860) hb); clear hb hbox hg; have hnb70 := NB870_860.out; have hnc70 := NB860_870.out; obtain ⟨hcz71_0, hcz71_1, hcz71_2, hcz71_3⟩ := bc4 BK870.out; obtain ⟨hfz71_0, hfz71_1, hfz71_2, hfz71_3⟩ := bf4 BK870.out))
    (try simp only [Act.put, List.setIfInBounds_toArray, List.set_cons_zero, List.set_cons_succ])
    go_cut [89] (fun v89 wc => ∃ (kq : Nat) (x89_65 : Bool), v89 = .bool x89_65 ∧ Zaa (logfile_Check.j1 kq x89_65 a0_0 a0_1 a0_2 a0_3 l0_4 a0_5 a0_6 a0_7 a0_8 a0_9 a0_10 a0_11 a0_12 l0_13 = some r) ∧ Zaa (kq ≤ k) ∧ Zaa (wc.heap[gb860]? = some (.cells #[.int .i64 a0_0, .int .i64 a0_1, .int .i64 a0_2, .int .i64 a0_3, (.slice A0_4 l0_4.length c0_4), .bool a0_5, .int .i64 a0_6, .int .i64 a0_7, .int .i64 a0_8, .int .i64 a0_9, .string a0_10, .int .i64 a0_11, .int .i64 a0_12, (.slice A0_13 l0_13.length c0_13)] 64 (0, 0))) ∧ Zaa (wc.heap[gb870]? = some (.cells #[.string a0_10, .int .i64 a0_11, .int .i64 a0_12, (.slice A0_13 l0_13.length c0_13)] 62 (0, 0))) ∧ Zaa (Below w.heap.size w wc))
    case first =>
     have H := HC66.out
     clear HC66
     replace H := Option.bind_eq_some_iff.mp H
     obtain ⟨t871, A720, H⟩ := H
     try dsimp only at H
     have A72 := Zaa.mk A720
     clear A720
     by_cases c73 : t871 = true
     ·subst c73
      rw [if_pos rfl] at H
      replace H := Option.bind_eq_some_iff.mp H
      obtain ⟨t872, A740, H⟩ := H
      try dsimp only at H
      have A74 := Zaa.mk A740
      clear A740
      by_cases c75 : t872 = true
      ·subst c75
       rw [if_pos rfl] at H
       replace H := Option.bind_eq_some_iff.mp H
       obtain ⟨t873, A760, H⟩ := H
       try dsimp only at H
       have A76 := Zaa.mk A760
       clear A760
       by_cases c77 : t873 = true
       ·subst c77
        rw [if_pos rfl] at H
        replace H := Option.bind_eq_some_iff.mp H
        obtain ⟨t874, A780, H⟩ := H
        try dsimp only at H
        have A78 := Zaa.mk A780
        clear A780
        have H' := Zaa.mk H
        clear H
        have hnb79 := NB870_860.out
        have hnc79 := NB860_870.out
        obtain ⟨hcz80_0, hcz80_1, hcz80_2, hcz80_3⟩ := bc4 BK870.out
        obtain ⟨hfz80_0, hfz80_1, hfz80_2, hfz80_3⟩ := bf4 BK870.out
        go_wp2_with (first | ((with_reducible refine Zal (f := 54) rfl ?_); refine Za2 (some 69) rfl rfl Tryd.func54 (by kernel_rfl) rfl #[.string a0_10] rfl zam ?_; (with_reducible refine (logfile_HostName.calls k a0_10 true _ A72.out).mono ?_); rintro e w' ⟨rfl, ⟨nd, rfl⟩⟩; refine ⟨_, rfl, ?_⟩) | (go_at_call 101; (with_reducible refine (logfile_within.calls a0_11 1 1099511627776 true _ A74.out).mono ?_); rintro e w' ⟨rfl, ⟨nd, rfl⟩⟩) | (go_at_call 101; (with_reducible refine (logfile_within.calls a0_12 1 1099511627776 true _ A76.out).mono ?_); rintro e w' ⟨rfl, ⟨nd, rfl⟩⟩) | (go_at_call 101; (with_reducible refine (logfile_within.calls (l0_13.length : Int) 1 16320 t874 _ A78.out).mono ?_); rintro e w' ⟨rfl, ⟨nd, rfl⟩⟩))
        go_meet
        case rel => exact ⟨_, (!t874), (by first | rfl | (simp; done) | (simp [*]; done)), H', ⟨by first | omega | exact Nat.le_refl _⟩, ⟨by (with_reducible repeat (first | refine Zac ?_ _ | refine Zad ?_ | refine Zab ?_ _)); refine Zak ?_ NB860_870.out _; (with_reducible repeat (first | refine Zac ?_ _ | refine Zad ?_ | refine Zab ?_ _)); refine Zak ?_ NB860_870.out _; (with_reducible repeat (first | refine Zac ?_ _ | refine Zad ?_ | refine Zab ?_ _)); refine Zak ?_ NB860_870.out _; (with_reducible repeat (first | refine Zac ?_ _ | refine Zad ?_ | refine Zab ?_ _)); refine Zak ?_ NB860_870.out _; (with_reducible repeat (first | refine Zac ?_ _ | refine Zad ?_ | refine Zab ?_ _)); exact BK860.out⟩, ⟨by (with_reducible repeat (first | refine Zac ?_ _ | refine Zad ?_ | refine Zab ?_ _)); refine Zaj (cs := #[.string a0_10, .int .i64 a0_11, .int .i64 a0_12, .slice none 0 0]) ?_ 3 _ rfl; (with_reducible repeat (first | refine Zac ?_ _ | refine Zad ?_ | refine Zab ?_ _)); refine Zaj (cs := #[.string a0_10, .int .i64 a0_11, .int .i64 0, .slice none 0 0]) ?_ 2 _ rfl; (with_reducible repeat (first | refine Zac ?_ _ | refine Zad ?_ | refine Zab ?_ _)); refine Zaj (cs := #[.string a0_10, .int .i64 0, .int .i64 0, .slice none 0 0]) ?_ 1 _ rfl; (with_reducible repeat (first | refine Zac ?_ _ | refine Zad ?_ | refine Zab ?_ _)); refine Zaj (cs := #[.string (⟨#[]⟩ : ByteArray), .int .i64 0, .int .i64 0, .slice none 0 0]) ?_ 0 _ rfl; (with_reducible repeat (first | refine Zac ?_ _ | refine Zad ?_ | refine Zab ?_ _)); exact BK870.out⟩, ⟨(zb3 HB GE860.out GE870.out)⟩⟩
       ·replace c77 := Bool.eq_false_iff.mpr c77
        subst c77
        rw [if_neg (show ¬ (false = true) by decide)] at H
        have H' := Zaa.mk H
        clear H
        have hnb81 := NB870_860.out
        have hnc81 := NB860_870.out
        obtain ⟨hcz82_0, hcz82_1, hcz82_2, hcz82_3⟩ := bc4 BK870.out
        obtain ⟨hfz82_0, hfz82_1, hfz82_2, hfz82_3⟩ := bf4 BK870.out
        go_wp2_with (first | ((with_reducible refine Zal (f := 54) rfl ?_); refine Za2 (some 69) rfl rfl Tryd.func54 (by kernel_rfl) rfl #[.string a0_10] rfl zam ?_; (with_reducible refine (logfile_HostName.calls k a0_10 true _ A72.out).mono ?_); rintro e w' ⟨rfl, ⟨nd, rfl⟩⟩; refine ⟨_, rfl, ?_⟩) | (go_at_call 101; (with_reducible refine (logfile_within.calls a0_11 1 1099511627776 true _ A74.out).mono ?_); rintro e w' ⟨rfl, ⟨nd, rfl⟩⟩) | (go_at_call 101; (with_reducible refine (logfile_within.calls a0_12 1 1099511627776 false _ A76.out).mono ?_); rintro e w' ⟨rfl, ⟨nd, rfl⟩⟩))
        go_meet
        case rel => exact ⟨_, (true), (by first | rfl | (simp; done) | (simp [*]; done)), H', ⟨by first | omega | exact Nat.le_refl _⟩, ⟨by (with_reducible repeat (first | refine Zac ?_ _ | refine Zad ?_ | refine Zab ?_ _)); refine Zak ?_ NB860_870.out _; (with_reducible repeat (first | refine Zac ?_ _ | refine Zad ?_ | refine Zab ?_ _)); refine Zak ?_ NB860_870.out _; (with_reducible repeat (first | refine Zac ?_ _ | refine Zad ?_ | refine Zab ?_ _)); refine Zak ?_ NB860_870.out _; (with_reducible repeat (first | refine Zac ?_ _ | refine Zad ?_ | refine Zab ?_ _)); refine Zak ?_ NB860_870.out _; (with_reducible repeat (first | refine Zac ?_ _ | refine Zad ?_ | refine Zab ?_ _)); exact BK860.out⟩, ⟨by (with_reducible repeat (first | refine Zac ?_ _ | refine Zad ?_ | refine Zab ?_ _)); refine Zaj (cs := #[.string a0_10, .int .i64 a0_11, .int .i64 a0_12, .slice none 0 0]) ?_ 3 _ rfl; (with_reducible repeat (first | refine Zac ?_ _ | refine Zad ?_ | refine Zab ?_ _)); refine Zaj (cs := #[.string a0_10, .int .i64 a0_11, .int .i64 0, .slice none 0 0]) ?_ 2 _ rfl; (with_reducible repeat (first | refine Zac ?_ _ | refine Zad ?_ | refine Zab ?_ _)); refine Zaj (cs := #[.string a0_10, .int .i64 0, .int .i64 0, .slice none 0 0]) ?_ 1 _ rfl; (with_reducible repeat (first | refine Zac ?_ _ | refine Zad ?_ | refine Zab ?_ _)); refine Zaj (cs := #[.string (⟨#[]⟩ : ByteArray), .int .i64 0, .int .i64 0, .slice none 0 0]) ?_ 0 _ rfl; (with_reducible repeat (first | refine Zac ?_ _ | refine Zad ?_ | refine Zab ?_ _)); exact BK870.out⟩, ⟨(zb3 HB GE860.out GE870.out)⟩⟩
      ·replace c75 := Bool.eq_false_iff.mpr c75
       subst c75
       rw [if_neg (show ¬ (false = true) by decide)] at H
       have H' := Zaa.mk H
       clear H
       have hnb83 := NB870_860.out
       have hnc83 := NB860_870.out
       obtain ⟨hcz84_0, hcz84_1, hcz84_2, hcz84_3⟩ := bc4 BK870.out
       obtain ⟨hfz84_0, hfz84_1, hfz84_2, hfz84_3⟩ := bf4 BK870.out
       go_wp2_with (first | ((with_reducible refine Zal (f := 54) rfl ?_); refine Za2 (some 69) rfl rfl Tryd.func54 (by kernel_rfl) rfl #[.string a0_10] rfl zam ?_; (with_reducible refine (logfile_HostName.calls k a0_10 true _ A72.out).mono ?_); rintro e w' ⟨rfl, ⟨nd, rfl⟩⟩; refine ⟨_, rfl, ?_⟩) | (go_at_call 101; (with_reducible refine (logfile_within.calls a0_11 1 1099511627776 false _ A74.out).mono ?_); rintro e w' ⟨rfl, ⟨nd, rfl⟩⟩))
       go_meet
       case rel => exact ⟨_, (true), (by first | rfl | (simp; done) | (simp [*]; done)), H', ⟨by first | omega | exact Nat.le_refl _⟩, ⟨by (with_reducible repeat (first | refine Zac ?_ _ | refine Zad ?_ | refine Zab ?_ _)); refine Zak ?_ NB860_870.out _; (with_reducible repeat (first | refine Zac ?_ _ | refine Zad ?_ | refine Zab ?_ _)); refine Zak ?_ NB860_870.out _; (with_reducible repeat (first | refine Zac ?_ _ | refine Zad ?_ | refine Zab ?_ _)); refine Zak ?_ NB860_870.out _; (with_reducible repeat (first | refine Zac ?_ _ | refine Zad ?_ | refine Zab ?_ _)); refine Zak ?_ NB860_870.out _; (with_reducible repeat (first | refine Zac ?_ _ | refine Zad ?_ | refine Zab ?_ _)); exact BK860.out⟩, ⟨by (with_reducible repeat (first | refine Zac ?_ _ | refine Zad ?_ | refine Zab ?_ _)); refine Zaj (cs := #[.string a0_10, .int .i64 a0_11, .int .i64 a0_12, .slice none 0 0]) ?_ 3 _ rfl; (with_reducible repeat (first | refine Zac ?_ _ | refine Zad ?_ | refine Zab ?_ _)); refine Zaj (cs := #[.string a0_10, .int .i64 a0_11, .int .i64 0, .slice none 0 0]) ?_ 2 _ rfl; (with_reducible repeat (first | refine Zac ?_ _ | refine Zad ?_ | refine Zab ?_ _)); refine Zaj (cs := #[.string a0_10, .int .i64 0, .int .i64 0, .slice none 0 0]) ?_ 1 _ rfl; (with_reducible repeat (first | refine Zac ?_ _ | refine Zad ?_ | refine Zab ?_ _)); refine Zaj (cs := #[.string (⟨#[]⟩ : ByteArray), .int .i64 0, .int .i64 0, .slice none 0 0]) ?_ 0 _ rfl; (with_reducible repeat (first | refine Zac ?_ _ | refine Zad ?_ | refine Zab ?_ _)); exact BK870.out⟩, ⟨(zb3 HB GE860.out GE870.out)⟩⟩
     ·replace c73 := Bool.eq_false_iff.mpr c73
      subst c73
      rw [if_neg (show ¬ (false = true) by decide)] at H
      have H' := Zaa.mk H
      clear H
      have hnb85 := NB870_860.out
      have hnc85 := NB860_870.out
      obtain ⟨hcz86_0, hcz86_1, hcz86_2, hcz86_3⟩ := bc4 BK870.out
      obtain ⟨hfz86_0, hfz86_1, hfz86_2, hfz86_3⟩ := bf4 BK870.out
      go_wp2_with (first | ((with_reducible refine Zal (f := 54) rfl ?_); refine Za2 (some 69) rfl rfl Tryd.func54 (by kernel_rfl) rfl #[.string a0_10] rfl zam ?_; (with_reducible refine (logfile_HostName.calls k a0_10 false _ A72.out).mono ?_); rintro e w' ⟨rfl, ⟨nd, rfl⟩⟩; refine ⟨_, rfl, ?_⟩))
      go_meet
      case rel => exact ⟨_, (true), (by first | rfl | (simp; done) | (simp [*]; done)), H', ⟨by first | omega | exact Nat.le_refl _⟩, ⟨by (with_reducible repeat (first | refine Zac ?_ _ | refine Zad ?_ | refine Zab ?_ _)); refine Zak ?_ NB860_870.out _; (with_reducible repeat (first | refine Zac ?_ _ | refine Zad ?_ | refine Zab ?_ _)); refine Zak ?_ NB860_870.out _; (with_reducible repeat (first | refine Zac ?_ _ | refine Zad ?_ | refine Zab ?_ _)); refine Zak ?_ NB860_870.out _; (with_reducible repeat (first | refine Zac ?_ _ | refine Zad ?_ | refine Zab ?_ _)); refine Zak ?_ NB860_870.out _; (with_reducible repeat (first | refine Zac ?_ _ | refine Zad ?_ | refine Zab ?_ _)); exact BK860.out⟩, ⟨by (with_reducible repeat (first | refine Zac ?_ _ | refine Zad ?_ | refine Zab ?_ _)); refine Zaj (cs := #[.string a0_10, .int .i64 a0_11, .int .i64 a0_12, .slice none 0 0]) ?_ 3 _ rfl; (with_reducible repeat (first | refine Zac ?_ _ | refine Zad ?_ | refine Zab ?_ _)); refine Zaj (cs := #[.string a0_10, .int .i64 a0_11, .int .i64 0, .slice none 0 0]) ?_ 2 _ rfl; (with_reducible repeat (first | refine Zac ?_ _ | refine Zad ?_ | refine Zab ?_ _)); refine Zaj (cs := #[.string a0_10, .int .i64 0, .int .i64 0, .slice none 0 0]) ?_ 1 _ rfl; (with_reducible repeat (first | refine Zac ?_ _ | refine Zad ?_ | refine Zab ?_ _)); refine Zaj (cs := #[.string (⟨#[]⟩ : ByteArray), .int .i64 0, .int .i64 0, .slice none 0 0]) ?_ 0 _ rfl; (with_reducible repeat (first | refine Zac ?_ _ | refine Zad ?_ | refine Zab ?_ _)); exact BK870.out⟩, ⟨(zb3 HB GE860.out GE870.out)⟩⟩
    case rest =>
     clear HC66
     (try clear c2)
     (try clear c2b0)
     (try clear c2b1)
     (try clear c25)
     (try clear c25b0)
     (try clear c25b1)
     (try clear c65)
     (try clear c65b0)
     (try clear c65b1)
     (try clear hcz68_0)
     (try clear hcz68_1)
     (try clear hcz68_10)
     (try clear hcz68_11)
     (try clear hcz68_12)
     (try clear hcz68_13)
     (try clear hcz68_2)
     (try clear hcz68_3)
     (try clear hcz68_4)
     (try clear hcz68_5)
     (try clear hcz68_6)
     (try clear hcz68_7)
     (try clear hcz68_8)
     (try clear hcz68_9)
     (try clear hcz71_0)
     (try clear hcz71_1)
     (try clear hcz71_2)
     (try clear hcz71_3)
     (try clear hfz68_0)
     (try clear hfz68_1)
     (try clear hfz68_10)
     (try clear hfz68_11)
     (try clear hfz68_12)
     (try clear hfz68_13)
     (try clear hfz68_2)
     (try clear hfz68_3)
     (try clear hfz68_4)
     (try clear hfz68_5)
     (try clear hfz68_6)
     (try clear hfz68_7)
     (try clear hfz68_8)
     (try clear hfz68_9)
     (try clear hfz71_0)
     (try clear hfz71_1)
     (try clear hfz71_2)
     (try clear hfz71_3)
     obtain ⟨kq, x89_65, rfl, HA, HJ65, BK860, BK870, HB⟩ := hcut
     cases kq with
     | zero => exact absurd HA.out (by simp [logfile_Check.j1])
     | succ kj65 =>
      have H := HA.out
      clear HA
      simp only [logfile_Check.j1] at H
      by_cases c87 : x89_65 = true
      ·subst c87
       rw [if_pos rfl] at H
       obtain rfl := Option.some.inj H
       go_wp2
       go_ret
       exact ⟨by first | rfl | (simp [errW_none, errW_some] <;> rfl) | (simp [*, errW_none, errW_some] <;> rfl), (zb3 HB GE860.out GE870.out)⟩
      ·replace c87 := Bool.eq_false_iff.mpr c87
       subst c87
       rw [if_neg (show ¬ (false = true) by decide)] at H
       replace H := Option.bind_eq_some_iff.mp H
       obtain ⟨t875, A880, H⟩ := H
       try dsimp only at H
       have A88 := Zaa.mk A880
       clear A880
       by_cases c89 : t875 = true
       ·subst c89
        rw [if_pos rfl] at H
        by_cases c90 : (!(a0_6 == 0) || (!(a0_7 == 0) || (!(a0_8 == 0) || (!(a0_9 == 0))))) = true
        ·rw [if_pos c90] at H
         have c90b0 : (!(a0_6 == 0) || (!(a0_7 == 0) || (!(a0_8 == 0) || (!(a0_9 == 0))))) = true := c90
         clear c90
         obtain rfl := Option.some.inj H
         have hnb91 := NB860_870.out
         have hnc91 := NB870_860.out
         obtain ⟨hcz92_0, hcz92_1, hcz92_2, hcz92_3, hcz92_4, hcz92_5, hcz92_6, hcz92_7, hcz92_8, hcz92_9, hcz92_10, hcz92_11, hcz92_12, hcz92_13⟩ := bc14 BK860.out
         obtain ⟨hfz92_0, hfz92_1, hfz92_2, hfz92_3, hfz92_4, hfz92_5, hfz92_6, hfz92_7, hfz92_8, hfz92_9, hfz92_10, hfz92_11, hfz92_12, hfz92_13⟩ := bf14 BK860.out
         go_wp2_with (first | ((with_reducible refine Zal (f := 102) rfl ?_); refine Za2 (some 92) rfl rfl Tryd.func102 (by kernel_rfl) rfl #[.agg #[.int .i64 a0_1, .int .i64 a0_2, .int .i64 a0_3, .slice A0_4 l0_4.length c0_4, .bool a0_5]] rfl zam ?_; (with_reducible refine (logfile_noEvent.calls a0_1 a0_2 a0_3 _ _ l0_4 a0_5 true _ ?side1 ?side2 A88.out).mono ?_); (case side1 => repeat (first | exact (Kd.C_below HR0_4.out HB.out) | (with_reducible refine Kd.C_alloc ?_ _) | (with_reducible refine Kd.C_drewN ?_ _) | (with_reducible refine Kd.C_drew ?_))); (case side2 => exact HC0_4.out); rintro e w93 ⟨rfl, hb⟩; refine ⟨_, rfl, ?_⟩; replace BK860 := Zaa.mk (Zah (g := gb860) (o := .cells #[.int .i64 a0_0, .int .i64 a0_1, .int .i64 a0_2, .int .i64 a0_3, .slice A0_4 l0_4.length c0_4, .bool a0_5, .int .i64 a0_6, .int .i64 a0_7, .int .i64 a0_8, .int .i64 a0_9, .string a0_10, .int .i64 a0_11, .int .i64 a0_12, .slice A0_13 l0_13.length c0_13] 64 (0, 0)) (zbk BK860) hb); replace BK870 := Zaa.mk (Zah (g := gb870) (o := .cells #[.string a0_10, .int .i64 a0_11, .int .i64 a0_12, .slice A0_13 l0_13.length c0_13] 62 (0, 0)) (zbk BK870) hb); replace HB := Zaa.mk (Zaf (zb3 HB GE860.out GE870.out) hb); (try clear hb); obtain ⟨hcz94_0, hcz94_1, hcz94_2, hcz94_3, hcz94_4, hcz94_5, hcz94_6, hcz94_7, hcz94_8, hcz94_9, hcz94_10, hcz94_11, hcz94_12, hcz94_13⟩ := bc14 BK860.out; obtain ⟨hfz94_0, hfz94_1, hfz94_2, hfz94_3, hfz94_4, hfz94_5, hfz94_6, hfz94_7, hfz94_8, hfz94_9, hfz94_10, hfz94_11, hfz94_12, hfz94_13⟩ := bf14 BK860.out))
         go_ret
         exact ⟨by first | rfl | (simp [errW_none, errW_some] <;> rfl) | (simp [*, errW_none, errW_some] <;> rfl), (zb3 HB GE860.out GE870.out)⟩
        ·rw [if_neg c90] at H
         have c90b0 : (!(a0_6 == 0) || (!(a0_7 == 0) || (!(a0_8 == 0) || (!(a0_9 == 0))))) = false := by simpa using c90
         clear c90
         obtain rfl := Option.some.inj H
         have hnb95 := NB860_870.out
         have hnc95 := NB870_860.out
         obtain ⟨hcz96_0, hcz96_1, hcz96_2, hcz96_3, hcz96_4, hcz96_5, hcz96_6, hcz96_7, hcz96_8, hcz96_9, hcz96_10, hcz96_11, hcz96_12, hcz96_13⟩ := bc14 BK860.out
         obtain ⟨hfz96_0, hfz96_1, hfz96_2, hfz96_3, hfz96_4, hfz96_5, hfz96_6, hfz96_7, hfz96_8, hfz96_9, hfz96_10, hfz96_11, hfz96_12, hfz96_13⟩ := bf14 BK860.out
         go_wp2_with (first | ((with_reducible refine Zal (f := 102) rfl ?_); refine Za2 (some 92) rfl rfl Tryd.func102 (by kernel_rfl) rfl #[.agg #[.int .i64 a0_1, .int .i64 a0_2, .int .i64 a0_3, .slice A0_4 l0_4.length c0_4, .bool a0_5]] rfl zam ?_; (with_reducible refine (logfile_noEvent.calls a0_1 a0_2 a0_3 _ _ l0_4 a0_5 true _ ?side1 ?side2 A88.out).mono ?_); (case side1 => repeat (first | exact (Kd.C_below HR0_4.out HB.out) | (with_reducible refine Kd.C_alloc ?_ _) | (with_reducible refine Kd.C_drewN ?_ _) | (with_reducible refine Kd.C_drew ?_))); (case side2 => exact HC0_4.out); rintro e w97 ⟨rfl, hb⟩; refine ⟨_, rfl, ?_⟩; replace BK860 := Zaa.mk (Zah (g := gb860) (o := .cells #[.int .i64 a0_0, .int .i64 a0_1, .int .i64 a0_2, .int .i64 a0_3, .slice A0_4 l0_4.length c0_4, .bool a0_5, .int .i64 a0_6, .int .i64 a0_7, .int .i64 a0_8, .int .i64 a0_9, .string a0_10, .int .i64 a0_11, .int .i64 a0_12, .slice A0_13 l0_13.length c0_13] 64 (0, 0)) (zbk BK860) hb); replace BK870 := Zaa.mk (Zah (g := gb870) (o := .cells #[.string a0_10, .int .i64 a0_11, .int .i64 a0_12, .slice A0_13 l0_13.length c0_13] 62 (0, 0)) (zbk BK870) hb); replace HB := Zaa.mk (Zaf (zb3 HB GE860.out GE870.out) hb); (try clear hb); obtain ⟨hcz98_0, hcz98_1, hcz98_2, hcz98_3, hcz98_4, hcz98_5, hcz98_6, hcz98_7, hcz98_8, hcz98_9, hcz98_10, hcz98_11, hcz98_12, hcz98_13⟩ := bc14 BK860.out; obtain ⟨hfz98_0, hfz98_1, hfz98_2, hfz98_3, hfz98_4, hfz98_5, hfz98_6, hfz98_7, hfz98_8, hfz98_9, hfz98_10, hfz98_11, hfz98_12, hfz98_13⟩ := bf14 BK860.out))
         go_ret
         exact ⟨by first | rfl | (simp [errW_none, errW_some] <;> rfl) | (simp [*, errW_none, errW_some] <;> rfl), (zb3 HB GE860.out GE870.out)⟩
       ·replace c89 := Bool.eq_false_iff.mpr c89
        subst c89
        rw [if_neg (show ¬ (false = true) by decide)] at H
        obtain rfl := Option.some.inj H
        have hnb99 := NB860_870.out
        have hnc99 := NB870_860.out
        obtain ⟨hcz100_0, hcz100_1, hcz100_2, hcz100_3, hcz100_4, hcz100_5, hcz100_6, hcz100_7, hcz100_8, hcz100_9, hcz100_10, hcz100_11, hcz100_12, hcz100_13⟩ := bc14 BK860.out
        obtain ⟨hfz100_0, hfz100_1, hfz100_2, hfz100_3, hfz100_4, hfz100_5, hfz100_6, hfz100_7, hfz100_8, hfz100_9, hfz100_10, hfz100_11, hfz100_12, hfz100_13⟩ := bf14 BK860.out
        go_wp2_with (first | ((with_reducible refine Zal (f := 102) rfl ?_); refine Za2 (some 92) rfl rfl Tryd.func102 (by kernel_rfl) rfl #[.agg #[.int .i64 a0_1, .int .i64 a0_2, .int .i64 a0_3, .slice A0_4 l0_4.length c0_4, .bool a0_5]] rfl zam ?_; (with_reducible refine (logfile_noEvent.calls a0_1 a0_2 a0_3 _ _ l0_4 a0_5 false _ ?side1 ?side2 A88.out).mono ?_); (case side1 => repeat (first | exact (Kd.C_below HR0_4.out HB.out) | (with_reducible refine Kd.C_alloc ?_ _) | (with_reducible refine Kd.C_drewN ?_ _) | (with_reducible refine Kd.C_drew ?_))); (case side2 => exact HC0_4.out); rintro e w101 ⟨rfl, hb⟩; refine ⟨_, rfl, ?_⟩; replace BK860 := Zaa.mk (Zah (g := gb860) (o := .cells #[.int .i64 a0_0, .int .i64 a0_1, .int .i64 a0_2, .int .i64 a0_3, .slice A0_4 l0_4.length c0_4, .bool a0_5, .int .i64 a0_6, .int .i64 a0_7, .int .i64 a0_8, .int .i64 a0_9, .string a0_10, .int .i64 a0_11, .int .i64 a0_12, .slice A0_13 l0_13.length c0_13] 64 (0, 0)) (zbk BK860) hb); replace BK870 := Zaa.mk (Zah (g := gb870) (o := .cells #[.string a0_10, .int .i64 a0_11, .int .i64 a0_12, .slice A0_13 l0_13.length c0_13] 62 (0, 0)) (zbk BK870) hb); replace HB := Zaa.mk (Zaf (zb3 HB GE860.out GE870.out) hb); (try clear hb)))
        go_ret
        exact ⟨by first | rfl | (simp [errW_none, errW_some] <;> rfl) | (simp [*, errW_none, errW_some] <;> rfl), (zb3 HB GE860.out GE870.out)⟩
   ·rw [if_neg c65] at H
    have c65b0 : (a0_0 == 3) = false := beq_eq_false_iff_ne.mpr c65
    have c65b1 : (a0_0 != 3) = true := bne_iff_ne.mpr c65
    obtain rfl := Option.some.inj H
    go_enter Tryd.func50, Tryd.ntmps50
    go_wp2_with (first | ((with_reducible refine Zao (N := 1) rfl ?_); (try (refine Za3 (by rfl) ?_; dsimp only)); refine Zap ?hg (N := 1) ?hd (cs := #[.int .i64 a0_0, .int .i64 a0_1, .int .i64 a0_2, .int .i64 a0_3, .slice A0_4 l0_4.length c0_4, .bool a0_5, .int .i64 a0_6, .int .i64 a0_7, .int .i64 a0_8, .int .i64 a0_9, .string a0_10, .int .i64 a0_11, .int .i64 a0_12, .slice A0_13 l0_13.length c0_13]) (t := 64) ?hr ?_; (case hd => rfl); (case hg => rfl); (case hr => first | (go_simp; done) | (go_simp; rfl)); intro gb860 hg w102 hbox hb; have BK860 := Zaa.mk (hbox); have GW860 := Zaa.mk ((by rw [hg]; exact (Zae (zb1 HB)) : w.heap.size ≤ gb860)); have GE860 := Zaa.mk ((by rw [hg]; exact (Zae (zb1 HB)) : w.heap.size ≤ gb860)); replace HB := Zaa.mk (Zaf (zb1 HB) hb); clear hb hbox hg; obtain ⟨hcz103_0, hcz103_1, hcz103_2, hcz103_3, hcz103_4, hcz103_5, hcz103_6, hcz103_7, hcz103_8, hcz103_9, hcz103_10, hcz103_11, hcz103_12, hcz103_13⟩ := bc14 BK860.out; obtain ⟨hfz103_0, hfz103_1, hfz103_2, hfz103_3, hfz103_4, hfz103_5, hfz103_6, hfz103_7, hfz103_8, hfz103_9, hfz103_10, hfz103_11, hfz103_12, hfz103_13⟩ := bf14 BK860.out))
    go_ret
    exact ⟨by first | rfl | (simp [errW_none, errW_some] <;> rfl) | (simp [*, errW_none, errW_some] <;> rfl), (zb2 HB GE860.out)⟩
end Go.Proofs.YtkfddpbmclbdhaaDoor.PA
end
