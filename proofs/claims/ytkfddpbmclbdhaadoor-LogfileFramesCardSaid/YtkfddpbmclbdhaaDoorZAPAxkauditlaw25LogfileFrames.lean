/- Contracts of functions of the program: written by pr2.py (ours, round the print of the kit) out of the translation; conditions: each contract names its own. -/
import Derived.Test.YtkfddpbmclbdhaaDoorZAPAxlogfileCheck
import Derived.Test.YtkfddpbmclbdhaaDoorZAPStep
import Derived.Test.YtkfddpbmclbdhaaDoorZAEForm
import Derived.Test.YtkfddpbmclbdhaaDoorZAPAxkauditref25Head
section
namespace Go.Proofs.YtkfddpbmclbdhaaDoor.PA
open Go.RowKit Go.Proofs.YtkfddpbmclbdhaaDoorW.PrintWords Go.Proofs.YtkfddpbmclbdhaaDoorW.PrintLast Go.Proofs.YtkfddpbmclbdhaaDoorW.PrintMore
attribute [local go_sem] Zaz Zax Za5 Za4 Zas Zar Zay Zaw   -- for this text's walks alone
set_option linter.unusedVariables false
set_option linter.unusedSimpArgs false
mutual
def logfile_Encode.l0 : Nat → List Int → List (S43) → Int → Int → Option (List Int × Int)
 | 0, _, _, _, _ => none
 | k + 1, x5, x62, x63, x64 => if x64 < x63 then (if 0 ≤ x64 then (if x64 < (x62.length : Int) then ((record_Format.f ((Zag x62 x64).f0) ((Zag x62 x64).f1) ((Zag x62 x64).f2) ((Zag x62 x64).f3)).bind fun bt897 => (if bt897.2 = 0 then ((fresh_AppendNumber.f k x5 (bt897.1.size : Int)).bind fun t899 => (if t899.length + bt897.1.size < 140737488355328 then (logfile_Encode.l0 k (t899 ++ bytesOf bt897.1) x62 x63 (wrap64 (x64 + 1))) else (none))) else (some (([] : List Int), 251)))) else (none)) else (none)) else (if (x5.length : Int) > 16320 then (some (([] : List Int), 254)) else (some (x5, 0)))
def logfile_Encode.l1 : Nat → List Int → List Int → Int → Int → Option (List Int × Int)
 | 0, _, _, _, _ => none
 | k + 1, x5, x96, x97, x98 => if x98 < x97 then (if 0 ≤ x98 then (if x98 < (x96.length : Int) then ((fresh_AppendNumber.f k x5 (rd x96 x98)).bind fun t909 => (logfile_Encode.l1 k t909 x96 x97 (wrap64 (x98 + 1)))) else (none)) else (none)) else (if (x5.length : Int) > 16320 then (some (([] : List Int), 254)) else (some (x5, 0)))
end
def logfile_Encode.f (k : Nat) (a0_0 : Int) (a0_1 : Int) (a0_2 : Int) (a0_3 : Int) (l0_4 : List (S43)) (a0_5 : Bool) (a0_6 : Int) (a0_7 : Int) (a0_8 : Int) (a0_9 : Int) (a0_10 : ByteArray) (a0_11 : Int) (a0_12 : Int) (l0_13 : List Int) : Option (List Int × Int) := (logfile_Check.f k a0_0 a0_1 a0_2 a0_3 l0_4 a0_5 a0_6 a0_7 a0_8 a0_9 a0_10 a0_11 a0_12 l0_13).bind fun t885 => (if t885 = 0 then ((fresh_AppendNumber.f k ([] : List Int) a0_0).bind fun t886 => (if a0_0 = 1 then ((fresh_AppendNumber.f k t886 a0_1).bind fun t889 => ((fresh_AppendNumber.f k t889 (l0_4.length : Int)).bind fun t892 => (logfile_Encode.l0 k t892 l0_4 (l0_4.length : Int) 0))) else (if a0_0 = 2 then ((some (([a0_6, a0_7, a0_8, a0_9] : List Int) : List Int)).bind fun y905 => (logfile_Encode.l1 k t886 y905 (y905.length : Int) 0)) else ((fresh_AppendNumber.f k t886 (a0_10.size : Int)).bind fun t912 => (if t912.length + a0_10.size < 140737488355328 then ((fresh_AppendNumber.f k (t912 ++ bytesOf a0_10) a0_11).bind fun t918 => ((fresh_AppendNumber.f k t918 a0_12).bind fun t921 => (if t921.length + l0_13.length < 140737488355328 then (some ((t921 ++ l0_13), 0)) else (none)))) else (none)))))) else (some (([] : List Int), t885)))
theorem logfile_Encode.mono_l : ∀ k, (∀ y0 y1 y2 y3, LeO (logfile_Encode.l0 k y0 y1 y2 y3) (logfile_Encode.l0 (k + 1) y0 y1 y2 y3)) ∧ (∀ y0 y1 y2 y3, LeO (logfile_Encode.l1 k y0 y1 y2 y3) (logfile_Encode.l1 (k + 1) y0 y1 y2 y3))
 | 0 => ⟨fun _ _ _ _ r h => by simp [logfile_Encode.l0] at h, fun _ _ _ _ r h => by simp [logfile_Encode.l1] at h⟩
 | k + 1 => by
  obtain ⟨ih0, ih1⟩ := logfile_Encode.mono_l k
  refine ⟨?_, ?_⟩
  ·intro y0 y1 y2 y3
   unfold logfile_Encode.l0
   repeat' first
   | (with_reducible exact ih0 _ _ _ _)
   | (with_reducible exact ih1 _ _ _ _)
   | (with_reducible exact fresh_AppendNumber.mono _ _ _)
   | (with_reducible exact logfile_Check.mono _ _ _ _ _ _ _ _ _ _ _ _ _ _ _)
   | (with_reducible exact LeO.refl _)
   | (with_reducible exact LeO.none _)
   | (with_reducible refine LeO.ite ?_ ?_)
   | (with_reducible refine LeO.bind ?_ (fun _ => ?_))
   | exact ih0 _ _ _ _
   | exact ih1 _ _ _ _
   | exact fresh_AppendNumber.mono _ _ _
   | exact logfile_Check.mono _ _ _ _ _ _ _ _ _ _ _ _ _ _ _
   | exact LeO.none _
   | refine LeO.ite ?_ ?_
   | refine LeO.bind ?_ (fun _ => ?_)
  ·intro y0 y1 y2 y3
   unfold logfile_Encode.l1
   repeat' first
   | (with_reducible exact ih0 _ _ _ _)
   | (with_reducible exact ih1 _ _ _ _)
   | (with_reducible exact fresh_AppendNumber.mono _ _ _)
   | (with_reducible exact logfile_Check.mono _ _ _ _ _ _ _ _ _ _ _ _ _ _ _)
   | (with_reducible exact LeO.refl _)
   | (with_reducible exact LeO.none _)
   | (with_reducible refine LeO.ite ?_ ?_)
   | (with_reducible refine LeO.bind ?_ (fun _ => ?_))
   | exact ih0 _ _ _ _
   | exact ih1 _ _ _ _
   | exact fresh_AppendNumber.mono _ _ _
   | exact logfile_Check.mono _ _ _ _ _ _ _ _ _ _ _ _ _ _ _
   | exact LeO.none _
   | refine LeO.ite ?_ ?_
   | refine LeO.bind ?_ (fun _ => ?_)
theorem logfile_Encode.mono : ∀ a0 a1 a2 a3 a4 a5 a6 a7 a8 a9 a10 a11 a12 a13 k, LeO (logfile_Encode.f k a0 a1 a2 a3 a4 a5 a6 a7 a8 a9 a10 a11 a12 a13) (logfile_Encode.f (k + 1) a0 a1 a2 a3 a4 a5 a6 a7 a8 a9 a10 a11 a12 a13) := by
 intro a0 a1 a2 a3 a4 a5 a6 a7 a8 a9 a10 a11 a12 a13 k
 obtain ⟨ih0, ih1⟩ := logfile_Encode.mono_l k
 unfold logfile_Encode.f
 repeat' first
   | (with_reducible exact ih0 _ _ _ _)
   | (with_reducible exact ih1 _ _ _ _)
   | (with_reducible exact fresh_AppendNumber.mono _ _ _)
   | (with_reducible exact logfile_Check.mono _ _ _ _ _ _ _ _ _ _ _ _ _ _ _)
   | (with_reducible exact LeO.refl _)
   | (with_reducible exact LeO.none _)
   | (with_reducible refine LeO.ite ?_ ?_)
   | (with_reducible refine LeO.bind ?_ (fun _ => ?_))
   | exact ih0 _ _ _ _
   | exact ih1 _ _ _ _
   | exact fresh_AppendNumber.mono _ _ _
   | exact logfile_Check.mono _ _ _ _ _ _ _ _ _ _ _ _ _ _ _
   | exact LeO.none _
   | refine LeO.ite ?_ ?_
   | refine LeO.bind ?_ (fun _ => ?_)
def logfile_Encode.T6 : Bool × List (List Nat × List Nat) := (true, [([], []), ([], []), ([1], [1]), ([2], [2]), ([3], [3]), ([0, 4], [0, 4]), ([], []), ([6], [6]), ([7], [7]), ([5, 8, 5], [5, 8]), ([9, 9, 0, 1, 2, 3, 4, 5, 6, 7, 8, 9], [0, 9])])
def logfile_Encode.B6 : List Nat := [0, 0, 2, 6, 14, 31, 0, 64, 192, 511, 1023]
theorem logfile_Encode.tab6 : rtab .any (opsOf Tryd.f57 6) = logfile_Encode.T6 := by kernel_rfl
theorem logfile_Encode.bits6 : waitsOk logfile_Encode.T6.2 logfile_Encode.B6 = true := by kernel_rfl
set_option maxHeartbeats 8000000 in
set_option maxRecDepth 100000 in
theorem logfile_Encode.calls (k : Nat) (a0_0 : Int) (a0_1 : Int) (a0_2 : Int) (a0_3 : Int) (A0_4 : Option Addr) (c0_4 : Nat) (l0_4 : List (S43)) (a0_5 : Bool) (a0_6 : Int) (a0_7 : Int) (a0_8 : Int) (a0_9 : Int) (a0_10 : ByteArray) (a0_11 : Int) (a0_12 : Int) (A0_13 : Option Addr) (c0_13 : Nat) (l0_13 : List Int) (r1 : List Int) (r2 : Int) (w : World) (hG : GT 2 w) (hr0_4 : Kd.C k43 w A0_4 l0_4.length l0_4) (hc0_4 : l0_4.length ≤ c0_4) (hr0_13 : Kd.C (Kd.int .u8) w A0_13 l0_13.length l0_13) (hc0_13 : l0_13.length ≤ c0_13) (h : logfile_Encode.f k a0_0 a0_1 a0_2 a0_3 l0_4 a0_5 a0_6 a0_7 a0_8 a0_9 a0_10 a0_11 a0_12 l0_13 = some (r1, r2)) :
  Calls Tryd.prog 57 #[.agg #[.int .i64 a0_0, .int .i64 a0_1, .int .i64 a0_2, .int .i64 a0_3, .slice A0_4 l0_4.length c0_4, .bool a0_5, .int .i64 a0_6, .int .i64 a0_7, .int .i64 a0_8, .int .i64 a0_9, .string a0_10, .int .i64 a0_11, .int .i64 a0_12, .slice A0_13 l0_13.length c0_13]] w fun e w' => ∃ v0_ : Value, e = .returned (.tuple #[v0_, .int .i64 r2]) ∧ Kd.R (Kd.int .u8) 5 w' w.heap.size (fun _ => True) v0_ r1 ∧ Below w.heap.size w w' := by
 have hu64 := Tryd.underlying64
 have hu43 := Tryd.underlying43
 have HR0_4 := Zaa.mk hr0_4
 have HC0_4 := Zaa.mk hc0_4
 clear hr0_4 hc0_4
 have HR0_13 := Zaa.mk hr0_13
 have HC0_13 := Zaa.mk hc0_13
 clear hr0_13 hc0_13
 have HG := Zaa.mk hG
 clear hG
 have HB := Zaa.mk (Below.refl w.heap.size w)
 unfold logfile_Encode.f at h
 have H := h
 clear h
 replace H := Option.bind_eq_some_iff.mp H
 obtain ⟨t885, A20, H⟩ := H
 try dsimp only at H
 have A2 := Zaa.mk A20
 clear A20
 by_cases c3 : t885 = 0
 ·rw [if_pos c3] at H
  have c3b0 : (t885 == 0) = true := beq_iff_eq.mpr c3
  have c3b1 : (t885 != 0) = false := bne_eq_false_iff_eq.mpr c3
  clear c3
  replace H := Option.bind_eq_some_iff.mp H
  obtain ⟨t886, A40, H⟩ := H
  try dsimp only at H
  have A4 := Zaa.mk A40
  clear A40
  by_cases c5 : a0_0 = 1
  ·rw [if_pos c5] at H
   have c5b0 : (a0_0 == 1) = true := beq_iff_eq.mpr c5
   have c5b1 : (a0_0 != 1) = false := bne_eq_false_iff_eq.mpr c5
   clear c5
   replace H := Option.bind_eq_some_iff.mp H
   obtain ⟨t889, A60, H⟩ := H
   try dsimp only at H
   have A6 := Zaa.mk A60
   clear A60
   replace H := Option.bind_eq_some_iff.mp H
   obtain ⟨t892, A70, H⟩ := H
   try dsimp only at H
   have A7 := Zaa.mk A70
   clear A70
   have H' := Zaa.mk H
   clear H
   go_enter Tryd.func57, Tryd.ntmps57
   go_wp2_with (first | ((with_reducible refine Zao (N := 1) rfl ?_); refine Zap ?hg (N := 1) ?hd (cs := #[.int .i64 a0_0, .int .i64 a0_1, .int .i64 a0_2, .int .i64 a0_3, .slice A0_4 l0_4.length c0_4, .bool a0_5, .int .i64 a0_6, .int .i64 a0_7, .int .i64 a0_8, .int .i64 a0_9, .string a0_10, .int .i64 a0_11, .int .i64 a0_12, .slice A0_13 l0_13.length c0_13]) (t := 64) ?hr ?_; (case hd => rfl); (case hg => rfl); (case hr => first | (go_simp; done) | (go_simp; rfl)); intro gb884 hg w8 hbox hb; have BK884 := Zaa.mk (hbox); have GW884 := Zaa.mk ((by rw [hg]; exact (Zae (zb1 HB)) : w.heap.size ≤ gb884)); have GE884 := Zaa.mk ((by rw [hg]; exact (Zae (zb1 HB)) : w.heap.size ≤ gb884)); replace HB := Zaa.mk (Zaf (zb1 HB) hb); clear hb hbox hg; obtain ⟨hcz9_0, hcz9_1, hcz9_2, hcz9_3, hcz9_4, hcz9_5, hcz9_6, hcz9_7, hcz9_8, hcz9_9, hcz9_10, hcz9_11, hcz9_12, hcz9_13⟩ := bc14 BK884.out; obtain ⟨hfz9_0, hfz9_1, hfz9_2, hfz9_3, hfz9_4, hfz9_5, hfz9_6, hfz9_7, hfz9_8, hfz9_9, hfz9_10, hfz9_11, hfz9_12, hfz9_13⟩ := bf14 BK884.out) | ((with_reducible refine Zal (f := 50) rfl ?_); refine Za2 (some 13) rfl rfl Tryd.func50 (by kernel_rfl) rfl #[.agg #[.int .i64 a0_0, .int .i64 a0_1, .int .i64 a0_2, .int .i64 a0_3, .slice A0_4 l0_4.length c0_4, .bool a0_5, .int .i64 a0_6, .int .i64 a0_7, .int .i64 a0_8, .int .i64 a0_9, .string a0_10, .int .i64 a0_11, .int .i64 a0_12, .slice A0_13 l0_13.length c0_13]] rfl zam ?_; (with_reducible refine (logfile_Check.calls k a0_0 a0_1 a0_2 a0_3 _ _ l0_4 a0_5 a0_6 a0_7 a0_8 a0_9 a0_10 a0_11 a0_12 _ _ l0_13 t885 _ ?side1 ?side2 ?side3 ?side4 ?side5 A2.out).mono ?_); (case side1 => exact GT.below (by decide) HG.out (zb2 HB GE884.out)); (case side2 => repeat (first | exact (Kd.C_below HR0_4.out HB.out) | (with_reducible refine Kd.C_alloc ?_ _) | (with_reducible refine Kd.C_drewN ?_ _) | (with_reducible refine Kd.C_drew ?_))); (case side3 => exact HC0_4.out); (case side4 => repeat (first | exact (Kd.C_below HR0_13.out HB.out) | (with_reducible refine Kd.C_alloc ?_ _) | (with_reducible refine Kd.C_drewN ?_ _) | (with_reducible refine Kd.C_drew ?_))); (case side5 => exact HC0_13.out); rintro e w10 ⟨rfl, hb⟩; refine ⟨_, rfl, ?_⟩; replace BK884 := Zaa.mk (Zah (g := gb884) (o := .cells #[.int .i64 a0_0, .int .i64 a0_1, .int .i64 a0_2, .int .i64 a0_3, .slice A0_4 l0_4.length c0_4, .bool a0_5, .int .i64 a0_6, .int .i64 a0_7, .int .i64 a0_8, .int .i64 a0_9, .string a0_10, .int .i64 a0_11, .int .i64 a0_12, .slice A0_13 l0_13.length c0_13] 64 (0, 0)) (zbk BK884) hb); replace HB := Zaa.mk (Zaf (zb2 HB GE884.out) hb); (try clear hb); obtain ⟨hcz11_0, hcz11_1, hcz11_2, hcz11_3, hcz11_4, hcz11_5, hcz11_6, hcz11_7, hcz11_8, hcz11_9, hcz11_10, hcz11_11, hcz11_12, hcz11_13⟩ := bc14 BK884.out; obtain ⟨hfz11_0, hfz11_1, hfz11_2, hfz11_3, hfz11_4, hfz11_5, hfz11_6, hfz11_7, hfz11_8, hfz11_9, hfz11_10, hfz11_11, hfz11_12, hfz11_13⟩ := bf14 BK884.out) | ((with_reducible refine Zal (f := 105) rfl ?_); refine Za2 (some 19) rfl rfl Tryd.func105 (by kernel_rfl) rfl #[.slice none 0 0, .int .i64 a0_0] rfl zam ?_; (refine (fresh_AppendNumber.calls k (fun k_ => some k_ = (.slice none 0 0 : Value).ownBlock) (.slice none 0 0) ([] : List Int) a0_0 t886 w _ ?side1 ?side2 A4.out).mono ?_); (case side1 => repeat (first | (with_reducible first | exact HB.out | apply Zam | apply Zan | apply Zaq | refine Za9 ?_ GE884.out) | exact HB.out)); (case side2 => exact Kd.R_nil _ _ _ _ _); rintro e w12 ⟨v887, rfl, ho0, hb, hkp⟩; refine ⟨_, rfl, ?_⟩; replace BK884 := Zaa.mk (Zbp (zbk BK884) hkp (fun hs_ => (fun e_ => by simp [Value.ownBlock] at e_) hs_)); have HO888 := Zaa.mk (Kd.R_mono (ok' := fun k_ => True) ho0 (fun k_ hk_ => trivial)); replace HB := Zaa.mk (hb); (try clear hb); (try clear hkp); (try clear ho0); obtain ⟨hcz13_0, hcz13_1, hcz13_2, hcz13_3, hcz13_4, hcz13_5, hcz13_6, hcz13_7, hcz13_8, hcz13_9, hcz13_10, hcz13_11, hcz13_12, hcz13_13⟩ := bc14 BK884.out; obtain ⟨hfz13_0, hfz13_1, hfz13_2, hfz13_3, hfz13_4, hfz13_5, hfz13_6, hfz13_7, hfz13_8, hfz13_9, hfz13_10, hfz13_11, hfz13_12, hfz13_13⟩ := bf14 BK884.out; obtain ⟨Ao14, co14, eo14⟩ := Kd.R_slice HO888.out; subst eo14) | ((with_reducible refine Zal (f := 105) rfl ?_); refine Za2 (some 53) rfl rfl Tryd.func105 (by kernel_rfl) rfl #[.slice Ao14 t886.length co14, .int .i64 a0_1] rfl zam ?_; (with_reducible refine (fresh_AppendNumber.calls k (fun k_ => some k_ = (.slice Ao14 t886.length co14 : Value).ownBlock) (.slice Ao14 t886.length co14) t886 a0_1 t889 w _ ?side1 ?side2 A6.out).mono ?_); (case side1 => repeat (first | (with_reducible first | exact HB.out | apply Zam | apply Zan | apply Zaq | refine Za9 ?_ GE884.out) | exact HB.out)); (case side2 => exact Kd.R_tight rfl HO888.out); rintro e w15 ⟨v890, rfl, ho0, hb, hkp⟩; refine ⟨_, rfl, ?_⟩; replace BK884 := Zaa.mk (Zbp (zbk BK884) hkp (fun hs_ => (fun e_ => (Kd.R_ne HO888.out BK884.out (by decide)) e_) hs_)); have HO891 := Zaa.mk (Kd.R_mono (ok' := fun k_ => True) ho0 (fun k_ hk_ => trivial)); replace HB := Zaa.mk (hb); clear HO888; (try clear hb); (try clear hkp); (try clear ho0); obtain ⟨hcz16_0, hcz16_1, hcz16_2, hcz16_3, hcz16_4, hcz16_5, hcz16_6, hcz16_7, hcz16_8, hcz16_9, hcz16_10, hcz16_11, hcz16_12, hcz16_13⟩ := bc14 BK884.out; obtain ⟨hfz16_0, hfz16_1, hfz16_2, hfz16_3, hfz16_4, hfz16_5, hfz16_6, hfz16_7, hfz16_8, hfz16_9, hfz16_10, hfz16_11, hfz16_12, hfz16_13⟩ := bf14 BK884.out; obtain ⟨Ao17, co17, eo17⟩ := Kd.R_slice HO891.out; subst eo17) | ((with_reducible refine Zal (f := 105) rfl ?_); refine Za2 (some 59) rfl rfl Tryd.func105 (by kernel_rfl) rfl #[.slice Ao17 t889.length co17, .int .i64 (l0_4.length : Int)] rfl zam ?_; (with_reducible refine (fresh_AppendNumber.calls k (fun k_ => some k_ = (.slice Ao17 t889.length co17 : Value).ownBlock) (.slice Ao17 t889.length co17) t889 (l0_4.length : Int) t892 w _ ?side1 ?side2 A7.out).mono ?_); (case side1 => repeat (first | (with_reducible first | exact HB.out | apply Zam | apply Zan | apply Zaq | refine Za9 ?_ GE884.out) | exact HB.out)); (case side2 => exact Kd.R_tight rfl HO891.out); rintro e w18 ⟨v893, rfl, ho0, hb, hkp⟩; refine ⟨_, rfl, ?_⟩; replace BK884 := Zaa.mk (Zbp (zbk BK884) hkp (fun hs_ => (fun e_ => (Kd.R_ne HO891.out BK884.out (by decide)) e_) hs_)); have HO894 := Zaa.mk (Kd.R_mono (ok' := fun k_ => True) ho0 (fun k_ hk_ => trivial)); replace HB := Zaa.mk (hb); clear HO891; (try clear hb); (try clear hkp); (try clear ho0); obtain ⟨hcz19_0, hcz19_1, hcz19_2, hcz19_3, hcz19_4, hcz19_5, hcz19_6, hcz19_7, hcz19_8, hcz19_9, hcz19_10, hcz19_11, hcz19_12, hcz19_13⟩ := bc14 BK884.out; obtain ⟨hfz19_0, hfz19_1, hfz19_2, hfz19_3, hfz19_4, hfz19_5, hfz19_6, hfz19_7, hfz19_8, hfz19_9, hfz19_10, hfz19_11, hfz19_12, hfz19_13⟩ := bf14 BK884.out))
   go_loopg [5, 64] k (fun kq v5 v64 w' => ∃ (x5_1 : List Int) (x64_1 : Int), v64 = .int .i64 x64_1 ∧ Zaa (logfile_Encode.l0 kq x5_1 l0_4 (l0_4.length : Int) x64_1 = some (r1, r2)) ∧ Zaa (kq ≤ k) ∧ Zaa (Kd.R (Kd.int .u8) 5 w' w.heap.size (fun _ => True) v5 x5_1) ∧ Zaa (w'.heap[gb884]? = some (.cells #[.int .i64 a0_0, .int .i64 a0_1, .int .i64 a0_2, .int .i64 a0_3, (.slice A0_4 l0_4.length c0_4), .bool a0_5, .int .i64 a0_6, .int .i64 a0_7, .int .i64 a0_8, .int .i64 a0_9, .string a0_10, .int .i64 a0_11, .int .i64 a0_12, (.slice A0_13 l0_13.length c0_13)] 64 (0, 0))) ∧ Zaa (Below w.heap.size w w'))
   case atStart => exact ⟨(t892), (0), (by first | rfl | (simp; done) | (simp [*]; done)), H', ⟨Nat.le_refl _⟩, ⟨by (with_reducible repeat (first | apply Kd.R_alloc | apply Kd.R_drewN | apply Kd.R_drew)); exact HO894.out⟩, ⟨by (with_reducible repeat (first | refine Zac ?_ _ | refine Zad ?_ | refine Zab ?_ _)); exact BK884.out⟩, ⟨(zb2 HB GE884.out)⟩⟩
   case round =>
    clear H'
    (try clear c3)
    (try clear c3b0)
    (try clear c3b1)
    (try clear c5)
    (try clear c5b0)
    (try clear c5b1)
    (try clear hcz11_0)
    (try clear hcz11_1)
    (try clear hcz11_10)
    (try clear hcz11_11)
    (try clear hcz11_12)
    (try clear hcz11_13)
    (try clear hcz11_2)
    (try clear hcz11_3)
    (try clear hcz11_4)
    (try clear hcz11_5)
    (try clear hcz11_6)
    (try clear hcz11_7)
    (try clear hcz11_8)
    (try clear hcz11_9)
    (try clear hcz13_0)
    (try clear hcz13_1)
    (try clear hcz13_10)
    (try clear hcz13_11)
    (try clear hcz13_12)
    (try clear hcz13_13)
    (try clear hcz13_2)
    (try clear hcz13_3)
    (try clear hcz13_4)
    (try clear hcz13_5)
    (try clear hcz13_6)
    (try clear hcz13_7)
    (try clear hcz13_8)
    (try clear hcz13_9)
    (try clear hcz16_0)
    (try clear hcz16_1)
    (try clear hcz16_10)
    (try clear hcz16_11)
    (try clear hcz16_12)
    (try clear hcz16_13)
    (try clear hcz16_2)
    (try clear hcz16_3)
    (try clear hcz16_4)
    (try clear hcz16_5)
    (try clear hcz16_6)
    (try clear hcz16_7)
    (try clear hcz16_8)
    (try clear hcz16_9)
    (try clear hcz19_0)
    (try clear hcz19_1)
    (try clear hcz19_10)
    (try clear hcz19_11)
    (try clear hcz19_12)
    (try clear hcz19_13)
    (try clear hcz19_2)
    (try clear hcz19_3)
    (try clear hcz19_4)
    (try clear hcz19_5)
    (try clear hcz19_6)
    (try clear hcz19_7)
    (try clear hcz19_8)
    (try clear hcz19_9)
    (try clear hcz9_0)
    (try clear hcz9_1)
    (try clear hcz9_10)
    (try clear hcz9_11)
    (try clear hcz9_12)
    (try clear hcz9_13)
    (try clear hcz9_2)
    (try clear hcz9_3)
    (try clear hcz9_4)
    (try clear hcz9_5)
    (try clear hcz9_6)
    (try clear hcz9_7)
    (try clear hcz9_8)
    (try clear hcz9_9)
    (try clear hfz11_0)
    (try clear hfz11_1)
    (try clear hfz11_10)
    (try clear hfz11_11)
    (try clear hfz11_12)
    (try clear hfz11_13)
    (try clear hfz11_2)
    (try clear hfz11_3)
    (try clear hfz11_4)
    (try clear hfz11_5)
    (try clear hfz11_6)
    (try clear hfz11_7)
    (try clear hfz11_8)
    (try clear hfz11_9)
    (try clear hfz13_0)
    (try clear hfz13_1)
    (try clear hfz13_10)
    (try clear hfz13_11)
    (try clear hfz13_12)
    (try clear hfz13_13)
    (try clear hfz13_2)
    (try clear hfz13_3)
    (try clear hfz13_4)
    (try clear hfz13_5)
    (try clear hfz13_6)
    (try clear hfz13_7)
    (try clear hfz13_8)
    (try clear hfz13_9)
    (try clear hfz16_0)
    (try clear hfz16_1)
    (try clear hfz16_10)
    (try clear hfz16_11)
    (try clear hfz16_12)
    (try clear hfz16_13)
    (try clear hfz16_2)
    (try clear hfz16_3)
    (try clear hfz16_4)
    (try clear hfz16_5)
    (try clear hfz16_6)
    (try clear hfz16_7)
    (try clear hfz16_8)
    (try clear hfz16_9)
    (try clear hfz19_0)
    (try clear hfz19_1)
    (try clear hfz19_10)
    (try clear hfz19_11)
    (try clear hfz19_12)
    (try clear hfz19_13)
    (try clear hfz19_2)
    (try clear hfz19_3)
    (try clear hfz19_4)
    (try clear hfz19_5)
    (try clear hfz19_6)
    (try clear hfz19_7)
    (try clear hfz19_8)
    (try clear hfz19_9)
    (try clear hfz9_0)
    (try clear hfz9_1)
    (try clear hfz9_10)
    (try clear hfz9_11)
    (try clear hfz9_12)
    (try clear hfz9_13)
    (try clear hfz9_2)
    (try clear hfz9_3)
    (try clear hfz9_4)
    (try clear hfz9_5)
    (try clear hfz9_6)
    (try clear hfz9_7)
    (try clear hfz9_8)
    (try clear hfz9_9)
    obtain ⟨x5_1, x64_1, rfl, HA, HK1, HO_5, BK884, HB⟩ := hrel
    cases gk with
    | zero => exact absurd HA.out (by simp [logfile_Encode.l0])
    | succ k1 =>
     have H := HA.out
     clear HA
     simp only [logfile_Encode.l0] at H
     by_cases c20 : x64_1 < (l0_4.length : Int)
     ·rw [if_pos c20] at H
      have c20b0 : decide (x64_1 < (l0_4.length : Int)) = true := decide_eq_true c20
      clear c20
      by_cases c21 : 0 ≤ x64_1
      ·rw [if_pos c21] at H
       have c21b0 : decide (0 ≤ x64_1) = true := decide_eq_true c21
       clear c21
       by_cases c22 : x64_1 < (l0_4.length : Int)
       ·rw [if_pos c22] at H
        have c22b0 : decide (x64_1 < (l0_4.length : Int)) = true := decide_eq_true c22
        clear c22
        replace H := Option.bind_eq_some_iff.mp H
        obtain ⟨⟨t897, t898⟩, A230, H⟩ := H
        try dsimp only at H
        have A23 := Zaa.mk A230
        clear A230
        by_cases c24 : t898 = 0
        ·rw [if_pos c24] at H
         have c24b0 : (t898 == 0) = true := beq_iff_eq.mpr c24
         have c24b1 : (t898 != 0) = false := bne_eq_false_iff_eq.mpr c24
         clear c24
         replace H := Option.bind_eq_some_iff.mp H
         obtain ⟨t899, A250, H⟩ := H
         try dsimp only at H
         have A25 := Zaa.mk A250
         clear A250
         by_cases c26 : t899.length + t897.size < 140737488355328
         ·rw [if_pos c26] at H
          have LMc26 := Zaa.mk c26
          clear c26
          obtain ⟨y902, hy902⟩ : ∃ y_ : List Int, y_ = (t899 ++ bytesOf t897) := ⟨_, rfl⟩
          replace H : (logfile_Encode.l0 k1 y902 l0_4 (l0_4.length : Int) (wrap64 (x64_1 + 1))) = some (r1, r2) := by first | (rw [hy902]; with_reducible exact H) | (have H2_ := (Option.bind_some _ _).symm.trans H; rw [hy902]; with_reducible exact H2_) | (have H2_ := (Option.bind_some _ _).symm.trans H; with_reducible exact H2_) | with_reducible exact H | (rw [hy902]; exact H) | exact H
          have Ny902 := Zaa.mk hy902
          clear hy902
          have H' := Zaa.mk H
          clear H
          have p895 : 0 ≤ (x64_1 : Int) := zod
          have q895 : x64_1 < (l0_4.length : Int) := zod
          obtain ⟨ad895, A895_3, c895_3, e895, hx895_0, hx895_1, hx895_2, hx895_3, hl895_3, hi895_3⟩ := at_T43 HR0_4.out x64_1 p895 q895
          cases e895
          replace hx895_0 := (HB.out.cell (World.block_lt_of_cell? w _ hx895_0)).trans hx895_0
          replace hx895_1 := (HB.out.cell (World.block_lt_of_cell? w _ hx895_1)).trans hx895_1
          replace hx895_2 := (HB.out.cell (World.block_lt_of_cell? w _ hx895_2)).trans hx895_2
          replace hx895_3 := (HB.out.cell (World.block_lt_of_cell? w _ hx895_3)).trans hx895_3
          have HR895_3 := Zaa.mk hi895_3
          have HC895_3 := Zaa.mk hl895_3
          clear hi895_3 hl895_3
          replace p895 := eq_true p895
          replace q895 := eq_true q895
          go_wp2_with (first | ((with_reducible refine Zao (N := 7) rfl ?_); refine Zap ?hg (N := 7) ?hd (cs := #[.int .i64 0, .int .i64 0, .int .i64 0, .slice none 0 0]) (t := 43) ?hr ?_; (case hd => rfl); (case hg => rfl); (case hr => first | (go_simp; done) | (go_simp; rfl)); intro gb896 hg w27 hbox hb; replace HO_5 := Zaa.mk (Kd.R_below (zrk HO_5) hb); have BK896 := Zaa.mk (hbox); have GW896 := Zaa.mk ((by rw [hg]; exact (Zae (zb2 HB GE884.out)) : w.heap.size ≤ gb896)); have GE896 := Zaa.mk ((by rw [hg]; exact (Zae (zb2 HB GE884.out)) : w.heap.size ≤ gb896)); replace HB := Zaa.mk (Zaf (zb2 HB GE884.out) hb); have NB884_896 := Zaa.mk ((by rw [hg]; exact Nat.ne_of_lt (Za1 (g := gb884) (o := .cells #[.int .i64 a0_0, .int .i64 a0_1, .int .i64 a0_2, .int .i64 a0_3, .slice (some ad895) l0_4.length c0_4, .bool a0_5, .int .i64 a0_6, .int .i64 a0_7, .int .i64 a0_8, .int .i64 a0_9, .string a0_10, .int .i64 a0_11, .int .i64 a0_12, .slice A0_13 l0_13.length c0_13] 64 (0, 0)) (zbk BK884)) : gb884 ≠ gb896)); have NB896_884 := Zaa.mk ((by rw [hg]; exact Nat.ne_of_gt (Za1 (g := gb884) (o := .cells #[.int .i64 a0_0, .int .i64 a0_1, .int .i64 a0_2, .int .i64 a0_3, .slice (some ad895) l0_4.length c0_4, .bool a0_5, .int .i64 a0_6, .int .i64 a0_7, .int .i64 a0_8, .int .i64 a0_9, .string a0_10, .int .i64 a0_11, .int .i64 a0_12, .slice A0_13 l0_13.length c0_13] 64 (0, 0)) (zbk BK884)) : gb896 ≠ gb884)); replace BK884 := Zaa.mk (Zah (g := gb884) (o := .cells #[.int .i64 a0_0, .int .i64 a0_1, .int .i64 a0_2, .int .i64 a0_3, .slice (some ad895) l0_4.length c0_4, .bool a0_5, .int .i64 a0_6, .int .i64 a0_7, .int .i64 a0_8, .int .i64 a0_9, .string a0_10, .int .i64 a0_11, .int .i64 a0_12, .slice A0_13 l0_13.length c0_13] 64 (0, 0)) (zbk BK884) hb); clear hb hbox hg; have hnb28 := NB896_884.out; have hnc28 := NB884_896.out; obtain ⟨hcz29_0, hcz29_1, hcz29_2, hcz29_3⟩ := bc4 BK896.out; obtain ⟨hfz29_0, hfz29_1, hfz29_2, hfz29_3⟩ := bf4 BK896.out) | ((with_reducible refine Zal (f := 35) rfl ?_); refine Za2 (some 70) rfl rfl Tryd.func35 (by kernel_rfl) rfl #[.agg #[.int .i64 ((Zag l0_4 x64_1).f0), .int .i64 ((Zag l0_4 x64_1).f1), .int .i64 ((Zag l0_4 x64_1).f2), .slice A895_3 ((Zag l0_4 x64_1).f3).length c895_3]] rfl zam ?_; (with_reducible refine (record_Format.calls ((Zag l0_4 x64_1).f0) ((Zag l0_4 x64_1).f1) ((Zag l0_4 x64_1).f2) _ _ ((Zag l0_4 x64_1).f3) t897 t898 _ ?side1 ?side2 ?side3 A23.out).mono ?_); (case side1 => exact GT.below (by decide) HG.out (zb3 HB GE884.out GE896.out)); (case side2 => exact Kd.C_below HR895_3.out (zb3 HB GE884.out GE896.out)); (case side3 => exact HC895_3.out); rintro e w30 ⟨rfl, hb⟩; refine ⟨_, rfl, ?_⟩; replace HO_5 := Zaa.mk (Kd.R_below (by (with_reducible repeat (first | apply Kd.R_alloc | apply Kd.R_drewN | apply Kd.R_drew)); exact (Kd.R_mono (Kd.R_far (p := ⟨gb896, 3, none⟩) (Kd.R_far (p := ⟨gb896, 2, none⟩) (Kd.R_far (p := ⟨gb896, 1, none⟩) (Kd.R_far (p := ⟨gb896, 0, none⟩) (Kd.R_types HO_5.out BK896.out (by decide)) (fun _ hk => hk.2) (.int .i64 ((Zag l0_4 x64_1).f0))) (fun _ hk => hk.2) (.int .i64 ((Zag l0_4 x64_1).f1))) (fun _ hk => hk.2) (.int .i64 ((Zag l0_4 x64_1).f2))) (fun _ hk => hk.2) (.slice A895_3 ((Zag l0_4 x64_1).f3).length c895_3)) (fun _ h_ => h_.1))) hb); replace BK884 := Zaa.mk (Zah (g := gb884) (o := .cells #[.int .i64 a0_0, .int .i64 a0_1, .int .i64 a0_2, .int .i64 a0_3, .slice (some ad895) l0_4.length c0_4, .bool a0_5, .int .i64 a0_6, .int .i64 a0_7, .int .i64 a0_8, .int .i64 a0_9, .string a0_10, .int .i64 a0_11, .int .i64 a0_12, .slice A0_13 l0_13.length c0_13] 64 (0, 0)) (by (with_reducible repeat (first | refine Zac ?_ _ | refine Zad ?_ | refine Zab ?_ _)); refine Zak ?_ NB884_896.out _; (with_reducible repeat (first | refine Zac ?_ _ | refine Zad ?_ | refine Zab ?_ _)); refine Zak ?_ NB884_896.out _; (with_reducible repeat (first | refine Zac ?_ _ | refine Zad ?_ | refine Zab ?_ _)); refine Zak ?_ NB884_896.out _; (with_reducible repeat (first | refine Zac ?_ _ | refine Zad ?_ | refine Zab ?_ _)); refine Zak ?_ NB884_896.out _; (with_reducible repeat (first | refine Zac ?_ _ | refine Zad ?_ | refine Zab ?_ _)); exact BK884.out) hb); replace BK896 := Zaa.mk (Zah (g := gb896) (o := .cells #[.int .i64 ((Zag l0_4 x64_1).f0), .int .i64 ((Zag l0_4 x64_1).f1), .int .i64 ((Zag l0_4 x64_1).f2), .slice A895_3 ((Zag l0_4 x64_1).f3).length c895_3] 43 (0, 0)) (by (with_reducible repeat (first | refine Zac ?_ _ | refine Zad ?_ | refine Zab ?_ _)); refine Zaj (cs := #[.int .i64 ((Zag l0_4 x64_1).f0), .int .i64 ((Zag l0_4 x64_1).f1), .int .i64 ((Zag l0_4 x64_1).f2), .slice none 0 0]) ?_ 3 _ rfl; (with_reducible repeat (first | refine Zac ?_ _ | refine Zad ?_ | refine Zab ?_ _)); refine Zaj (cs := #[.int .i64 ((Zag l0_4 x64_1).f0), .int .i64 ((Zag l0_4 x64_1).f1), .int .i64 0, .slice none 0 0]) ?_ 2 _ rfl; (with_reducible repeat (first | refine Zac ?_ _ | refine Zad ?_ | refine Zab ?_ _)); refine Zaj (cs := #[.int .i64 ((Zag l0_4 x64_1).f0), .int .i64 0, .int .i64 0, .slice none 0 0]) ?_ 1 _ rfl; (with_reducible repeat (first | refine Zac ?_ _ | refine Zad ?_ | refine Zab ?_ _)); refine Zaj (cs := #[.int .i64 0, .int .i64 0, .int .i64 0, .slice none 0 0]) ?_ 0 _ rfl; (with_reducible repeat (first | refine Zac ?_ _ | refine Zad ?_ | refine Zab ?_ _)); exact BK896.out) hb); replace HB := Zaa.mk (Zaf (zb3 HB GE884.out GE896.out) hb); (try clear hb); obtain ⟨Ao31, co31, eo31⟩ := Kd.R_slice HO_5.out; subst eo31) | ((with_reducible refine Zal (f := 105) rfl ?_); refine Za2 (some 78) rfl rfl Tryd.func105 (by kernel_rfl) rfl #[.slice Ao31 x5_1.length co31, .int .i64 (t897.size : Int)] rfl zam ?_; (with_reducible refine (fresh_AppendNumber.calls k1 (fun k_ => some k_ = (.slice Ao31 x5_1.length co31 : Value).ownBlock) (.slice Ao31 x5_1.length co31) x5_1 (t897.size : Int) t899 w _ ?side1 ?side2 A25.out).mono ?_); (case side1 => repeat (first | (with_reducible first | exact HB.out | apply Zam | apply Zan | apply Zaq | refine Za9 ?_ GE884.out | refine Za9 ?_ GE896.out) | exact HB.out)); (case side2 => exact Kd.R_tight rfl HO_5.out); rintro e w32 ⟨v900, rfl, ho0, hb, hkp⟩; refine ⟨_, rfl, ?_⟩; replace BK884 := Zaa.mk (Zbp (zbk BK884) hkp (fun hs_ => (fun e_ => (Kd.R_ne HO_5.out BK884.out (by decide)) e_) hs_)); replace BK896 := Zaa.mk (Zbp (zbk BK896) hkp (fun hs_ => (fun e_ => (Kd.R_ne HO_5.out BK896.out (by decide)) e_) hs_)); have HO901 := Zaa.mk (Kd.R_mono (ok' := fun k_ => True) ho0 (fun k_ hk_ => trivial)); replace HB := Zaa.mk (hb); clear HO_5; (try clear hb); (try clear hkp); (try clear ho0)) | (at_builtin; refine print_append_str (w0 := w) w.heap.size rfl (.tmp 78) _ 28 9 5 rfl Tryd.underlying28 Tryd.underlying9 info5 v900 t899 t897 rfl rfl ?aO ?aB ?aS ?aL ?_; (case aB => exact (zb3 HB GE884.out GE896.out)); (case aO => exact (Kd.own_of_R (zrk HO901))); (case aS => exact (Zae (zb3 HB GE884.out GE896.out))); (case aL => have := LMc26.out; omega); intro v903 w33 ho0 hb hg; have ho := Kd.R_of_own (h1 := fun _ => rfl) (ok := fun _ => True) ho0 (fun _ _ => trivial); clear ho0; have hat := True.intro; rw [← Ny902.out] at ho; change Kd.R (Kd.int .u8) 5 w33 w.heap.size (fun _ => True) v903 y902 at ho; replace BK884 := Zaa.mk (Zbl (g := gb884) (o := .cells #[.int .i64 a0_0, .int .i64 a0_1, .int .i64 a0_2, .int .i64 a0_3, .slice (some ad895) l0_4.length c0_4, .bool a0_5, .int .i64 a0_6, .int .i64 a0_7, .int .i64 a0_8, .int .i64 a0_9, .string a0_10, .int .i64 a0_11, .int .i64 a0_12, .slice A0_13 l0_13.length c0_13] 64 (0, 0)) (zbk BK884) hg (Kd.R_ne HO901.out BK884.out (by decide))); replace BK896 := Zaa.mk (Zbl (g := gb896) (o := .cells #[.int .i64 ((Zag l0_4 x64_1).f0), .int .i64 ((Zag l0_4 x64_1).f1), .int .i64 ((Zag l0_4 x64_1).f2), .slice A895_3 ((Zag l0_4 x64_1).f3).length c895_3] 43 (0, 0)) (zbk BK896) hg (Kd.R_ne HO901.out BK896.out (by decide))); replace HB := Zaa.mk (hb); have HO904 := Zaa.mk (ho); clear HO901 ho hb hg hat))
          go_roundg k1
          case measure => have := HK1.out; omega
          case rel => exact ⟨(y902), (wrap64 (x64_1 + 1)), (by first | rfl | (simp; done) | (simp [*]; done)), H', ⟨by have := HK1.out; omega⟩, ⟨by (with_reducible repeat (first | apply Kd.R_alloc | apply Kd.R_drewN | apply Kd.R_drew)); exact HO904.out⟩, ⟨by (with_reducible repeat (first | refine Zac ?_ _ | refine Zad ?_ | refine Zab ?_ _)); exact BK884.out⟩, ⟨(zb3 HB GE884.out GE896.out)⟩⟩
         ·rw [if_neg c26] at H
          exact absurd H (by simp)
        ·rw [if_neg c24] at H
         have c24b0 : (t898 == 0) = false := beq_eq_false_iff_ne.mpr c24
         have c24b1 : (t898 != 0) = true := bne_iff_ne.mpr c24
         simp only [Option.some.injEq, Prod.mk.injEq] at H
         obtain ⟨rfl, rfl⟩ := H
         have p895 : 0 ≤ (x64_1 : Int) := zod
         have q895 : x64_1 < (l0_4.length : Int) := zod
         obtain ⟨ad895, A895_3, c895_3, e895, hx895_0, hx895_1, hx895_2, hx895_3, hl895_3, hi895_3⟩ := at_T43 HR0_4.out x64_1 p895 q895
         cases e895
         replace hx895_0 := (HB.out.cell (World.block_lt_of_cell? w _ hx895_0)).trans hx895_0
         replace hx895_1 := (HB.out.cell (World.block_lt_of_cell? w _ hx895_1)).trans hx895_1
         replace hx895_2 := (HB.out.cell (World.block_lt_of_cell? w _ hx895_2)).trans hx895_2
         replace hx895_3 := (HB.out.cell (World.block_lt_of_cell? w _ hx895_3)).trans hx895_3
         have HR895_3 := Zaa.mk hi895_3
         have HC895_3 := Zaa.mk hl895_3
         clear hi895_3 hl895_3
         replace p895 := eq_true p895
         replace q895 := eq_true q895
         go_wp2_with (first | ((with_reducible refine Zao (N := 7) rfl ?_); refine Zap ?hg (N := 7) ?hd (cs := #[.int .i64 0, .int .i64 0, .int .i64 0, .slice none 0 0]) (t := 43) ?hr ?_; (case hd => rfl); (case hg => rfl); (case hr => first | (go_simp; done) | (go_simp; rfl)); intro gb896 hg w34 hbox hb; replace HO_5 := Zaa.mk (Kd.R_below (zrk HO_5) hb); have BK896 := Zaa.mk (hbox); have GW896 := Zaa.mk ((by rw [hg]; exact (Zae (zb2 HB GE884.out)) : w.heap.size ≤ gb896)); have GE896 := Zaa.mk ((by rw [hg]; exact (Zae (zb2 HB GE884.out)) : w.heap.size ≤ gb896)); replace HB := Zaa.mk (Zaf (zb2 HB GE884.out) hb); have NB884_896 := Zaa.mk ((by rw [hg]; exact Nat.ne_of_lt (Za1 (g := gb884) (o := .cells #[.int .i64 a0_0, .int .i64 a0_1, .int .i64 a0_2, .int .i64 a0_3, .slice (some ad895) l0_4.length c0_4, .bool a0_5, .int .i64 a0_6, .int .i64 a0_7, .int .i64 a0_8, .int .i64 a0_9, .string a0_10, .int .i64 a0_11, .int .i64 a0_12, .slice A0_13 l0_13.length c0_13] 64 (0, 0)) (zbk BK884)) : gb884 ≠ gb896)); have NB896_884 := Zaa.mk ((by rw [hg]; exact Nat.ne_of_gt (Za1 (g := gb884) (o := .cells #[.int .i64 a0_0, .int .i64 a0_1, .int .i64 a0_2, .int .i64 a0_3, .slice (some ad895) l0_4.length c0_4, .bool a0_5, .int .i64 a0_6, .int .i64 a0_7, .int .i64 a0_8, .int .i64 a0_9, .string a0_10, .int .i64 a0_11, .int .i64 a0_12, .slice A0_13 l0_13.length c0_13] 64 (0, 0)) (zbk BK884)) : gb896 ≠ gb884)); replace BK884 := Zaa.mk (Zah (g := gb884) (o := .cells #[.int .i64 a0_0, .int .i64 a0_1, .int .i64 a0_2, .int .i64 a0_3, .slice (some ad895) l0_4.length c0_4, .bool a0_5, .int .i64 a0_6, .int .i64 a0_7, .int .i64 a0_8, .int .i64 a0_9, .string a0_10, .int .i64 a0_11, .int .i64 a0_12, .slice A0_13 l0_13.length c0_13] 64 (0, 0)) (zbk BK884) hb); clear hb hbox hg; have hnb35 := NB896_884.out; have hnc35 := NB884_896.out; obtain ⟨hcz36_0, hcz36_1, hcz36_2, hcz36_3⟩ := bc4 BK896.out; obtain ⟨hfz36_0, hfz36_1, hfz36_2, hfz36_3⟩ := bf4 BK896.out) | ((with_reducible refine Zal (f := 35) rfl ?_); refine Za2 (some 70) rfl rfl Tryd.func35 (by kernel_rfl) rfl #[.agg #[.int .i64 ((Zag l0_4 x64_1).f0), .int .i64 ((Zag l0_4 x64_1).f1), .int .i64 ((Zag l0_4 x64_1).f2), .slice A895_3 ((Zag l0_4 x64_1).f3).length c895_3]] rfl zam ?_; (with_reducible refine (record_Format.calls ((Zag l0_4 x64_1).f0) ((Zag l0_4 x64_1).f1) ((Zag l0_4 x64_1).f2) _ _ ((Zag l0_4 x64_1).f3) t897 t898 _ ?side1 ?side2 ?side3 A23.out).mono ?_); (case side1 => exact GT.below (by decide) HG.out (zb3 HB GE884.out GE896.out)); (case side2 => exact Kd.C_below HR895_3.out (zb3 HB GE884.out GE896.out)); (case side3 => exact HC895_3.out); rintro e w37 ⟨rfl, hb⟩; refine ⟨_, rfl, ?_⟩; replace HO_5 := Zaa.mk (Kd.R_below (by (with_reducible repeat (first | apply Kd.R_alloc | apply Kd.R_drewN | apply Kd.R_drew)); exact (Kd.R_mono (Kd.R_far (p := ⟨gb896, 3, none⟩) (Kd.R_far (p := ⟨gb896, 2, none⟩) (Kd.R_far (p := ⟨gb896, 1, none⟩) (Kd.R_far (p := ⟨gb896, 0, none⟩) (Kd.R_types HO_5.out BK896.out (by decide)) (fun _ hk => hk.2) (.int .i64 ((Zag l0_4 x64_1).f0))) (fun _ hk => hk.2) (.int .i64 ((Zag l0_4 x64_1).f1))) (fun _ hk => hk.2) (.int .i64 ((Zag l0_4 x64_1).f2))) (fun _ hk => hk.2) (.slice A895_3 ((Zag l0_4 x64_1).f3).length c895_3)) (fun _ h_ => h_.1))) hb); replace BK884 := Zaa.mk (Zah (g := gb884) (o := .cells #[.int .i64 a0_0, .int .i64 a0_1, .int .i64 a0_2, .int .i64 a0_3, .slice (some ad895) l0_4.length c0_4, .bool a0_5, .int .i64 a0_6, .int .i64 a0_7, .int .i64 a0_8, .int .i64 a0_9, .string a0_10, .int .i64 a0_11, .int .i64 a0_12, .slice A0_13 l0_13.length c0_13] 64 (0, 0)) (by (with_reducible repeat (first | refine Zac ?_ _ | refine Zad ?_ | refine Zab ?_ _)); refine Zak ?_ NB884_896.out _; (with_reducible repeat (first | refine Zac ?_ _ | refine Zad ?_ | refine Zab ?_ _)); refine Zak ?_ NB884_896.out _; (with_reducible repeat (first | refine Zac ?_ _ | refine Zad ?_ | refine Zab ?_ _)); refine Zak ?_ NB884_896.out _; (with_reducible repeat (first | refine Zac ?_ _ | refine Zad ?_ | refine Zab ?_ _)); refine Zak ?_ NB884_896.out _; (with_reducible repeat (first | refine Zac ?_ _ | refine Zad ?_ | refine Zab ?_ _)); exact BK884.out) hb); replace BK896 := Zaa.mk (Zah (g := gb896) (o := .cells #[.int .i64 ((Zag l0_4 x64_1).f0), .int .i64 ((Zag l0_4 x64_1).f1), .int .i64 ((Zag l0_4 x64_1).f2), .slice A895_3 ((Zag l0_4 x64_1).f3).length c895_3] 43 (0, 0)) (by (with_reducible repeat (first | refine Zac ?_ _ | refine Zad ?_ | refine Zab ?_ _)); refine Zaj (cs := #[.int .i64 ((Zag l0_4 x64_1).f0), .int .i64 ((Zag l0_4 x64_1).f1), .int .i64 ((Zag l0_4 x64_1).f2), .slice none 0 0]) ?_ 3 _ rfl; (with_reducible repeat (first | refine Zac ?_ _ | refine Zad ?_ | refine Zab ?_ _)); refine Zaj (cs := #[.int .i64 ((Zag l0_4 x64_1).f0), .int .i64 ((Zag l0_4 x64_1).f1), .int .i64 0, .slice none 0 0]) ?_ 2 _ rfl; (with_reducible repeat (first | refine Zac ?_ _ | refine Zad ?_ | refine Zab ?_ _)); refine Zaj (cs := #[.int .i64 ((Zag l0_4 x64_1).f0), .int .i64 0, .int .i64 0, .slice none 0 0]) ?_ 1 _ rfl; (with_reducible repeat (first | refine Zac ?_ _ | refine Zad ?_ | refine Zab ?_ _)); refine Zaj (cs := #[.int .i64 0, .int .i64 0, .int .i64 0, .slice none 0 0]) ?_ 0 _ rfl; (with_reducible repeat (first | refine Zac ?_ _ | refine Zad ?_ | refine Zab ?_ _)); exact BK896.out) hb); replace HB := Zaa.mk (Zaf (zb3 HB GE884.out GE896.out) hb); (try clear hb)))
         go_ret2
         exact ⟨_, by first | rfl | (simp [errW_none, errW_some] <;> rfl) | (simp [*, errW_none, errW_some] <;> rfl), by first | exact Kd.R_nil _ _ _ _ _ | exact Kd.N_nil _ _ _ _ _ | exact Kd.V_nil _ _ _ _ _ | exact Kd.Q_nil _ _ _ _ _ | exact Kd.S_nil _ _ _ _ _, (zb3 HB GE884.out GE896.out)⟩
       ·rw [if_neg c22] at H
        exact absurd H (by simp)
      ·rw [if_neg c21] at H
       exact absurd H (by simp)
     ·rw [if_neg c20] at H
      have c20b0 : decide (x64_1 < (l0_4.length : Int)) = false := decide_eq_false c20
      clear c20
      by_cases c38 : (x5_1.length : Int) > 16320
      ·rw [if_pos c38] at H
       have c38b0 : decide (16320 < (x5_1.length : Int)) = true := decide_eq_true c38
       have c38b1 : decide (16320 < x5_1.length) = true := decide_eq_true (by omega)
       clear c38
       simp only [Option.some.injEq, Prod.mk.injEq] at H
       obtain ⟨rfl, rfl⟩ := H
       obtain ⟨Ao39, co39, eo39⟩ := Kd.R_slice HO_5.out
       subst eo39
       go_wp2
       go_ret2
       exact ⟨_, by first | rfl | (simp [errW_none, errW_some] <;> rfl) | (simp [*, errW_none, errW_some] <;> rfl), by first | exact Kd.R_nil _ _ _ _ _ | exact Kd.N_nil _ _ _ _ _ | exact Kd.V_nil _ _ _ _ _ | exact Kd.Q_nil _ _ _ _ _ | exact Kd.S_nil _ _ _ _ _, (zb2 HB GE884.out)⟩
      ·rw [if_neg c38] at H
       have c38b0 : decide (16320 < (x5_1.length : Int)) = false := decide_eq_false c38
       have c38b1 : decide (16320 < x5_1.length) = false := decide_eq_false (by omega)
       clear c38
       simp only [Option.some.injEq, Prod.mk.injEq] at H
       obtain ⟨rfl, rfl⟩ := H
       obtain ⟨Ao40, co40, eo40⟩ := Kd.R_slice HO_5.out
       subst eo40
       go_wp2
       go_ret2
       exact ⟨_, by first | rfl | (simp [errW_none, errW_some] <;> rfl) | (simp [*, errW_none, errW_some] <;> rfl), by (with_reducible repeat (first | apply Kd.R_alloc | apply Kd.R_drewN | apply Kd.R_drew)); exact HO_5.out, (zb2 HB GE884.out)⟩
  ·rw [if_neg c5] at H
   have c5b0 : (a0_0 == 1) = false := beq_eq_false_iff_ne.mpr c5
   have c5b1 : (a0_0 != 1) = true := bne_iff_ne.mpr c5
   by_cases c41 : a0_0 = 2
   ·rw [if_pos c41] at H
    have c41b0 : (a0_0 == 2) = true := beq_iff_eq.mpr c41
    have c41b1 : (a0_0 != 2) = false := bne_eq_false_iff_eq.mpr c41
    clear c41
    obtain ⟨y905, hy905⟩ : ∃ y_ : List Int, y_ = (([a0_6, a0_7, a0_8, a0_9] : List Int)) := ⟨_, rfl⟩
    replace H : (logfile_Encode.l1 k t886 y905 (y905.length : Int) 0) = some (r1, r2) := by first | (rw [hy905]; with_reducible exact H) | (have H2_ := (Option.bind_some _ _).symm.trans H; rw [hy905]; with_reducible exact H2_) | (have H2_ := (Option.bind_some _ _).symm.trans H; with_reducible exact H2_) | with_reducible exact H | (rw [hy905]; exact H) | exact H
    have Ny905 := Zaa.mk hy905
    clear hy905
    have H' := Zaa.mk H
    clear H
    go_enter Tryd.func57, Tryd.ntmps57
    go_wp2_with (first | ((with_reducible refine Zao (N := 1) rfl ?_); refine Zap ?hg (N := 1) ?hd (cs := #[.int .i64 a0_0, .int .i64 a0_1, .int .i64 a0_2, .int .i64 a0_3, .slice A0_4 l0_4.length c0_4, .bool a0_5, .int .i64 a0_6, .int .i64 a0_7, .int .i64 a0_8, .int .i64 a0_9, .string a0_10, .int .i64 a0_11, .int .i64 a0_12, .slice A0_13 l0_13.length c0_13]) (t := 64) ?hr ?_; (case hd => rfl); (case hg => rfl); (case hr => first | (go_simp; done) | (go_simp; rfl)); intro gb884 hg w42 hbox hb; have BK884 := Zaa.mk (hbox); have GW884 := Zaa.mk ((by rw [hg]; exact (Zae (zb1 HB)) : w.heap.size ≤ gb884)); have GE884 := Zaa.mk ((by rw [hg]; exact (Zae (zb1 HB)) : w.heap.size ≤ gb884)); replace HB := Zaa.mk (Zaf (zb1 HB) hb); clear hb hbox hg; obtain ⟨hcz43_0, hcz43_1, hcz43_2, hcz43_3, hcz43_4, hcz43_5, hcz43_6, hcz43_7, hcz43_8, hcz43_9, hcz43_10, hcz43_11, hcz43_12, hcz43_13⟩ := bc14 BK884.out; obtain ⟨hfz43_0, hfz43_1, hfz43_2, hfz43_3, hfz43_4, hfz43_5, hfz43_6, hfz43_7, hfz43_8, hfz43_9, hfz43_10, hfz43_11, hfz43_12, hfz43_13⟩ := bf14 BK884.out) | ((with_reducible refine Zal (f := 50) rfl ?_); refine Za2 (some 13) rfl rfl Tryd.func50 (by kernel_rfl) rfl #[.agg #[.int .i64 a0_0, .int .i64 a0_1, .int .i64 a0_2, .int .i64 a0_3, .slice A0_4 l0_4.length c0_4, .bool a0_5, .int .i64 a0_6, .int .i64 a0_7, .int .i64 a0_8, .int .i64 a0_9, .string a0_10, .int .i64 a0_11, .int .i64 a0_12, .slice A0_13 l0_13.length c0_13]] rfl zam ?_; (with_reducible refine (logfile_Check.calls k a0_0 a0_1 a0_2 a0_3 _ _ l0_4 a0_5 a0_6 a0_7 a0_8 a0_9 a0_10 a0_11 a0_12 _ _ l0_13 t885 _ ?side1 ?side2 ?side3 ?side4 ?side5 A2.out).mono ?_); (case side1 => exact GT.below (by decide) HG.out (zb2 HB GE884.out)); (case side2 => repeat (first | exact (Kd.C_below HR0_4.out HB.out) | (with_reducible refine Kd.C_alloc ?_ _) | (with_reducible refine Kd.C_drewN ?_ _) | (with_reducible refine Kd.C_drew ?_))); (case side3 => exact HC0_4.out); (case side4 => repeat (first | exact (Kd.C_below HR0_13.out HB.out) | (with_reducible refine Kd.C_alloc ?_ _) | (with_reducible refine Kd.C_drewN ?_ _) | (with_reducible refine Kd.C_drew ?_))); (case side5 => exact HC0_13.out); rintro e w44 ⟨rfl, hb⟩; refine ⟨_, rfl, ?_⟩; replace BK884 := Zaa.mk (Zah (g := gb884) (o := .cells #[.int .i64 a0_0, .int .i64 a0_1, .int .i64 a0_2, .int .i64 a0_3, .slice A0_4 l0_4.length c0_4, .bool a0_5, .int .i64 a0_6, .int .i64 a0_7, .int .i64 a0_8, .int .i64 a0_9, .string a0_10, .int .i64 a0_11, .int .i64 a0_12, .slice A0_13 l0_13.length c0_13] 64 (0, 0)) (zbk BK884) hb); replace HB := Zaa.mk (Zaf (zb2 HB GE884.out) hb); (try clear hb); obtain ⟨hcz45_0, hcz45_1, hcz45_2, hcz45_3, hcz45_4, hcz45_5, hcz45_6, hcz45_7, hcz45_8, hcz45_9, hcz45_10, hcz45_11, hcz45_12, hcz45_13⟩ := bc14 BK884.out; obtain ⟨hfz45_0, hfz45_1, hfz45_2, hfz45_3, hfz45_4, hfz45_5, hfz45_6, hfz45_7, hfz45_8, hfz45_9, hfz45_10, hfz45_11, hfz45_12, hfz45_13⟩ := bf14 BK884.out) | ((with_reducible refine Zal (f := 105) rfl ?_); refine Za2 (some 19) rfl rfl Tryd.func105 (by kernel_rfl) rfl #[.slice none 0 0, .int .i64 a0_0] rfl zam ?_; (refine (fresh_AppendNumber.calls k (fun k_ => some k_ = (.slice none 0 0 : Value).ownBlock) (.slice none 0 0) ([] : List Int) a0_0 t886 w _ ?side1 ?side2 A4.out).mono ?_); (case side1 => repeat (first | (with_reducible first | exact HB.out | apply Zam | apply Zan | apply Zaq | refine Za9 ?_ GE884.out) | exact HB.out)); (case side2 => exact Kd.R_nil _ _ _ _ _); rintro e w46 ⟨v887, rfl, ho0, hb, hkp⟩; refine ⟨_, rfl, ?_⟩; replace BK884 := Zaa.mk (Zbp (zbk BK884) hkp (fun hs_ => (fun e_ => by simp [Value.ownBlock] at e_) hs_)); have HO888 := Zaa.mk (Kd.R_mono (ok' := fun k_ => True) ho0 (fun k_ hk_ => trivial)); replace HB := Zaa.mk (hb); (try clear hb); (try clear hkp); (try clear ho0); obtain ⟨hcz47_0, hcz47_1, hcz47_2, hcz47_3, hcz47_4, hcz47_5, hcz47_6, hcz47_7, hcz47_8, hcz47_9, hcz47_10, hcz47_11, hcz47_12, hcz47_13⟩ := bc14 BK884.out; obtain ⟨hfz47_0, hfz47_1, hfz47_2, hfz47_3, hfz47_4, hfz47_5, hfz47_6, hfz47_7, hfz47_8, hfz47_9, hfz47_10, hfz47_11, hfz47_12, hfz47_13⟩ := bf14 BK884.out) | ((with_reducible refine Zao (N := 96) rfl ?_); refine Kd.R_lit (Kd.int .i64) _ 3 ?hg (N := 96) ?hd (xs := ([a0_6, a0_7, a0_8, a0_9] : List Int)) (inner := [.int .i64 a0_6, .int .i64 a0_7, .int .i64 a0_8, .int .i64 a0_9]) (ok := fun _ => True) (okp := fun _ => True) ?hr ?hp (fun _ hk => hk) trivial (Below.refl _ _) (Nat.le_refl _) (by simp) ?_; (case hd => rfl); (case hg => rfl); (case hr => first | (go_simp; done) | (go_simp; rfl)); (case hp => exact (Reps.one (show Kd.M (Kd.int .i64) _ _ _ a0_6 [.int .i64 a0_6] from rfl) (Reps.one (show Kd.M (Kd.int .i64) _ _ _ a0_7 [.int .i64 a0_7] from rfl) (Reps.one (show Kd.M (Kd.int .i64) _ _ _ a0_8 [.int .i64 a0_8] from rfl) (Reps.one (show Kd.M (Kd.int .i64) _ _ _ a0_9 [.int .i64 a0_9] from rfl) (Reps.none _ _)))))); intro v906 w48 ho49 hb hg_ hnew_; clear hg_ hnew_; (first | rw [← Ny905.out] at ho49 | (simp only [Int.reduceToNat] at ho49; rw [← Ny905.out] at ho49)); replace HO888 := Zaa.mk (Kd.R_below (zrk HO888) hb); have HO907 := Zaa.mk (Kd.R_lower ho49 (Zae (zb2 HB GE884.out))); replace BK884 := Zaa.mk (Zah (g := gb884) (o := .cells #[.int .i64 a0_0, .int .i64 a0_1, .int .i64 a0_2, .int .i64 a0_3, .slice A0_4 l0_4.length c0_4, .bool a0_5, .int .i64 a0_6, .int .i64 a0_7, .int .i64 a0_8, .int .i64 a0_9, .string a0_10, .int .i64 a0_11, .int .i64 a0_12, .slice A0_13 l0_13.length c0_13] 64 (0, 0)) (zbk BK884) hb); replace HB := Zaa.mk (Zaf (zb2 HB GE884.out) hb); clear hb ho49; obtain ⟨Ao50, co50, eo50⟩ := Kd.R_slice HO907.out; subst eo50))
    go_loopg [5, 98] k (fun kq v5 v98 w' => ∃ (x5_1 : List Int) (x98_1 : Int), v98 = .int .i64 x98_1 ∧ Zaa (logfile_Encode.l1 kq x5_1 y905 (y905.length : Int) x98_1 = some (r1, r2)) ∧ Zaa (kq ≤ k) ∧ Zaa (Kd.R (Kd.int .u8) 5 w' w.heap.size (fun _ => True) v5 x5_1) ∧ Zaa (Kd.R (Kd.int .i64) 3 w' w.heap.size (fun _ => True) (.slice Ao50 y905.length co50) y905) ∧ Zaa (w'.heap[gb884]? = some (.cells #[.int .i64 a0_0, .int .i64 a0_1, .int .i64 a0_2, .int .i64 a0_3, (.slice A0_4 l0_4.length c0_4), .bool a0_5, .int .i64 a0_6, .int .i64 a0_7, .int .i64 a0_8, .int .i64 a0_9, .string a0_10, .int .i64 a0_11, .int .i64 a0_12, (.slice A0_13 l0_13.length c0_13)] 64 (0, 0))) ∧ Zaa (Below w.heap.size w w'))
    case atStart => exact ⟨(t886), (0), (by first | rfl | (simp; done) | (simp [*]; done)), H', ⟨Nat.le_refl _⟩, ⟨by (with_reducible repeat (first | apply Kd.R_alloc | apply Kd.R_drewN | apply Kd.R_drew)); exact HO888.out⟩, ⟨by (with_reducible repeat (first | apply Kd.R_alloc | apply Kd.R_drewN | apply Kd.R_drew)); exact HO907.out⟩, ⟨by (with_reducible repeat (first | refine Zac ?_ _ | refine Zad ?_ | refine Zab ?_ _)); exact BK884.out⟩, ⟨(zb2 HB GE884.out)⟩⟩
    case round =>
     clear H'
     (try clear c3)
     (try clear c3b0)
     (try clear c3b1)
     (try clear c5)
     (try clear c5b0)
     (try clear c5b1)
     (try clear c41)
     (try clear c41b0)
     (try clear c41b1)
     (try clear hcz43_0)
     (try clear hcz43_1)
     (try clear hcz43_10)
     (try clear hcz43_11)
     (try clear hcz43_12)
     (try clear hcz43_13)
     (try clear hcz43_2)
     (try clear hcz43_3)
     (try clear hcz43_4)
     (try clear hcz43_5)
     (try clear hcz43_6)
     (try clear hcz43_7)
     (try clear hcz43_8)
     (try clear hcz43_9)
     (try clear hcz45_0)
     (try clear hcz45_1)
     (try clear hcz45_10)
     (try clear hcz45_11)
     (try clear hcz45_12)
     (try clear hcz45_13)
     (try clear hcz45_2)
     (try clear hcz45_3)
     (try clear hcz45_4)
     (try clear hcz45_5)
     (try clear hcz45_6)
     (try clear hcz45_7)
     (try clear hcz45_8)
     (try clear hcz45_9)
     (try clear hcz47_0)
     (try clear hcz47_1)
     (try clear hcz47_10)
     (try clear hcz47_11)
     (try clear hcz47_12)
     (try clear hcz47_13)
     (try clear hcz47_2)
     (try clear hcz47_3)
     (try clear hcz47_4)
     (try clear hcz47_5)
     (try clear hcz47_6)
     (try clear hcz47_7)
     (try clear hcz47_8)
     (try clear hcz47_9)
     (try clear hfz43_0)
     (try clear hfz43_1)
     (try clear hfz43_10)
     (try clear hfz43_11)
     (try clear hfz43_12)
     (try clear hfz43_13)
     (try clear hfz43_2)
     (try clear hfz43_3)
     (try clear hfz43_4)
     (try clear hfz43_5)
     (try clear hfz43_6)
     (try clear hfz43_7)
     (try clear hfz43_8)
     (try clear hfz43_9)
     (try clear hfz45_0)
     (try clear hfz45_1)
     (try clear hfz45_10)
     (try clear hfz45_11)
     (try clear hfz45_12)
     (try clear hfz45_13)
     (try clear hfz45_2)
     (try clear hfz45_3)
     (try clear hfz45_4)
     (try clear hfz45_5)
     (try clear hfz45_6)
     (try clear hfz45_7)
     (try clear hfz45_8)
     (try clear hfz45_9)
     (try clear hfz47_0)
     (try clear hfz47_1)
     (try clear hfz47_10)
     (try clear hfz47_11)
     (try clear hfz47_12)
     (try clear hfz47_13)
     (try clear hfz47_2)
     (try clear hfz47_3)
     (try clear hfz47_4)
     (try clear hfz47_5)
     (try clear hfz47_6)
     (try clear hfz47_7)
     (try clear hfz47_8)
     (try clear hfz47_9)
     obtain ⟨x5_1, x98_1, rfl, HA, HK1, HO_5, HO_96, BK884, HB⟩ := hrel
     cases gk with
     | zero => exact absurd HA.out (by simp [logfile_Encode.l1])
     | succ k1 =>
      have H := HA.out
      clear HA
      simp only [logfile_Encode.l1] at H
      by_cases c51 : x98_1 < (y905.length : Int)
      ·rw [if_pos c51] at H
       have c51b0 : decide (x98_1 < (y905.length : Int)) = true := decide_eq_true c51
       clear c51
       by_cases c52 : 0 ≤ x98_1
       ·rw [if_pos c52] at H
        have c52b0 : decide (0 ≤ x98_1) = true := decide_eq_true c52
        clear c52
        by_cases c53 : x98_1 < (y905.length : Int)
        ·rw [if_pos c53] at H
         have c53b0 : decide (x98_1 < (y905.length : Int)) = true := decide_eq_true c53
         clear c53
         replace H := Option.bind_eq_some_iff.mp H
         obtain ⟨t909, A540, H⟩ := H
         try dsimp only at H
         have A54 := Zaa.mk A540
         clear A540
         have H' := Zaa.mk H
         clear H
         have p908 : 0 ≤ (x98_1 : Int) := zod
         have q908 : x98_1 < (y905.length : Int) := zod
         obtain ⟨ad908, e908, hx908_0⟩ := Kd.at_int (Kd.R_reads' HO_96.out).2.2 x98_1 p908 q908
         cases e908
         replace p908 := eq_true p908
         replace q908 := eq_true q908
         obtain ⟨Ao55, co55, eo55⟩ := Kd.R_slice HO_5.out
         subst eo55
         go_wp2_with (first | ((with_reducible refine Zal (f := 105) rfl ?_); refine Za2 (some 104) rfl rfl Tryd.func105 (by kernel_rfl) rfl #[.slice Ao55 x5_1.length co55, .int .i64 (rd y905 x98_1)] rfl zam ?_; (with_reducible refine (fresh_AppendNumber.calls k1 (fun k_ => some k_ = (.slice Ao55 x5_1.length co55 : Value).ownBlock) (.slice Ao55 x5_1.length co55) x5_1 (rd y905 x98_1) t909 w _ ?side1 ?side2 A54.out).mono ?_); (case side1 => repeat (first | (with_reducible first | exact HB.out | apply Zam | apply Zan | apply Zaq | refine Za9 ?_ GE884.out) | exact HB.out)); (case side2 => exact Kd.R_tight rfl HO_5.out); rintro e w56 ⟨v910, rfl, ho0, hb, hkp⟩; refine ⟨_, rfl, ?_⟩; replace HO_96 := Zaa.mk (Kd.R_mono (ok' := fun k_ => True) (Kd.R_keptB ((Kd.R_apart' HO_96.out (Kd.R_typed HO_5.out) (by decide))) hkp (fun k_ hk_ hs_ => (hk_.2) hs_)) (fun k_ hk_ => trivial)); replace BK884 := Zaa.mk (Zbp (zbk BK884) hkp (fun hs_ => (fun e_ => (Kd.R_ne HO_5.out BK884.out (by decide)) e_) hs_)); have HO911 := Zaa.mk (Kd.R_mono (ok' := fun k_ => True) ho0 (fun k_ hk_ => trivial)); replace HB := Zaa.mk (hb); clear HO_5; (try clear hb); (try clear hkp); (try clear ho0)))
         go_roundg k1
         case measure => have := HK1.out; omega
         case rel => exact ⟨(t909), (wrap64 (x98_1 + 1)), (by first | rfl | (simp; done) | (simp [*]; done)), H', ⟨by have := HK1.out; omega⟩, ⟨by (with_reducible repeat (first | apply Kd.R_alloc | apply Kd.R_drewN | apply Kd.R_drew)); exact HO911.out⟩, ⟨by (with_reducible repeat (first | apply Kd.R_alloc | apply Kd.R_drewN | apply Kd.R_drew)); exact HO_96.out⟩, ⟨by (with_reducible repeat (first | refine Zac ?_ _ | refine Zad ?_ | refine Zab ?_ _)); exact BK884.out⟩, ⟨(zb2 HB GE884.out)⟩⟩
        ·rw [if_neg c53] at H
         exact absurd H (by simp)
       ·rw [if_neg c52] at H
        exact absurd H (by simp)
      ·rw [if_neg c51] at H
       have c51b0 : decide (x98_1 < (y905.length : Int)) = false := decide_eq_false c51
       clear c51
       by_cases c57 : (x5_1.length : Int) > 16320
       ·rw [if_pos c57] at H
        have c57b0 : decide (16320 < (x5_1.length : Int)) = true := decide_eq_true c57
        have c57b1 : decide (16320 < x5_1.length) = true := decide_eq_true (by omega)
        clear c57
        simp only [Option.some.injEq, Prod.mk.injEq] at H
        obtain ⟨rfl, rfl⟩ := H
        obtain ⟨Ao58, co58, eo58⟩ := Kd.R_slice HO_5.out
        subst eo58
        go_wp2
        go_ret2
        exact ⟨_, by first | rfl | (simp [errW_none, errW_some] <;> rfl) | (simp [*, errW_none, errW_some] <;> rfl), by first | exact Kd.R_nil _ _ _ _ _ | exact Kd.N_nil _ _ _ _ _ | exact Kd.V_nil _ _ _ _ _ | exact Kd.Q_nil _ _ _ _ _ | exact Kd.S_nil _ _ _ _ _, (zb2 HB GE884.out)⟩
       ·rw [if_neg c57] at H
        have c57b0 : decide (16320 < (x5_1.length : Int)) = false := decide_eq_false c57
        have c57b1 : decide (16320 < x5_1.length) = false := decide_eq_false (by omega)
        clear c57
        simp only [Option.some.injEq, Prod.mk.injEq] at H
        obtain ⟨rfl, rfl⟩ := H
        obtain ⟨Ao59, co59, eo59⟩ := Kd.R_slice HO_5.out
        subst eo59
        go_wp2
        go_ret2
        exact ⟨_, by first | rfl | (simp [errW_none, errW_some] <;> rfl) | (simp [*, errW_none, errW_some] <;> rfl), by (with_reducible repeat (first | apply Kd.R_alloc | apply Kd.R_drewN | apply Kd.R_drew)); exact HO_5.out, (zb2 HB GE884.out)⟩
   ·rw [if_neg c41] at H
    have c41b0 : (a0_0 == 2) = false := beq_eq_false_iff_ne.mpr c41
    have c41b1 : (a0_0 != 2) = true := bne_iff_ne.mpr c41
    replace H := Option.bind_eq_some_iff.mp H
    obtain ⟨t912, A600, H⟩ := H
    try dsimp only at H
    have A60 := Zaa.mk A600
    clear A600
    by_cases c61 : t912.length + a0_10.size < 140737488355328
    ·rw [if_pos c61] at H
     have LMc61 := Zaa.mk c61
     clear c61
     obtain ⟨y915, hy915⟩ : ∃ y_ : List Int, y_ = (t912 ++ bytesOf a0_10) := ⟨_, rfl⟩
     replace H : ((fresh_AppendNumber.f k y915 a0_11).bind fun t918 => ((fresh_AppendNumber.f k t918 a0_12).bind fun t921 => (if t921.length + l0_13.length < 140737488355328 then (some ((t921 ++ l0_13), 0)) else (none)))) = some (r1, r2) := by first | (rw [hy915]; with_reducible exact H) | (have H2_ := (Option.bind_some _ _).symm.trans H; rw [hy915]; with_reducible exact H2_) | (have H2_ := (Option.bind_some _ _).symm.trans H; with_reducible exact H2_) | with_reducible exact H | (rw [hy915]; exact H) | exact H
     have Ny915 := Zaa.mk hy915
     clear hy915
     replace H := Option.bind_eq_some_iff.mp H
     obtain ⟨t918, A620, H⟩ := H
     try dsimp only at H
     have A62 := Zaa.mk A620
     clear A620
     replace H := Option.bind_eq_some_iff.mp H
     obtain ⟨t921, A630, H⟩ := H
     try dsimp only at H
     have A63 := Zaa.mk A630
     clear A630
     by_cases c64 : t921.length + l0_13.length < 140737488355328
     ·rw [if_pos c64] at H
      have LMc64 := Zaa.mk c64
      clear c64
      obtain ⟨y924, hy924⟩ : ∃ y_ : List Int, y_ = (t921 ++ l0_13) := ⟨_, rfl⟩
      replace H : (some (y924, 0)) = some (r1, r2) := by first | (rw [hy924]; with_reducible exact H) | (have H2_ := (Option.bind_some _ _).symm.trans H; rw [hy924]; with_reducible exact H2_) | (have H2_ := (Option.bind_some _ _).symm.trans H; with_reducible exact H2_) | with_reducible exact H | (rw [hy924]; exact H) | exact H
      have Ny924 := Zaa.mk hy924
      clear hy924
      simp only [Option.some.injEq, Prod.mk.injEq] at H
      obtain ⟨rfl, rfl⟩ := H
      go_enter Tryd.func57, Tryd.ntmps57
      try go_wp2_with (first | ((with_reducible refine Zao (N := 1) rfl ?_); refine Zap ?hg (N := 1) ?hd (cs := #[.int .i64 a0_0, .int .i64 a0_1, .int .i64 a0_2, .int .i64 a0_3, .slice A0_4 l0_4.length c0_4, .bool a0_5, .int .i64 a0_6, .int .i64 a0_7, .int .i64 a0_8, .int .i64 a0_9, .string a0_10, .int .i64 a0_11, .int .i64 a0_12, .slice A0_13 l0_13.length c0_13]) (t := 64) ?hr ?_; (case hd => rfl); (case hg => rfl); (case hr => first | (go_simp; done) | (go_simp; rfl)); intro gb884 hg w65 hbox hb; have BK884 := Zaa.mk (hbox); have GW884 := Zaa.mk ((by rw [hg]; exact (Zae (zb1 HB)) : w.heap.size ≤ gb884)); have GE884 := Zaa.mk ((by rw [hg]; exact (Zae (zb1 HB)) : w.heap.size ≤ gb884)); replace HB := Zaa.mk (Zaf (zb1 HB) hb); clear hb hbox hg; obtain ⟨hcz66_0, hcz66_1, hcz66_2, hcz66_3, hcz66_4, hcz66_5, hcz66_6, hcz66_7, hcz66_8, hcz66_9, hcz66_10, hcz66_11, hcz66_12, hcz66_13⟩ := bc14 BK884.out; obtain ⟨hfz66_0, hfz66_1, hfz66_2, hfz66_3, hfz66_4, hfz66_5, hfz66_6, hfz66_7, hfz66_8, hfz66_9, hfz66_10, hfz66_11, hfz66_12, hfz66_13⟩ := bf14 BK884.out) | ((with_reducible refine Zal (f := 50) rfl ?_); refine Za2 (some 13) rfl rfl Tryd.func50 (by kernel_rfl) rfl #[.agg #[.int .i64 a0_0, .int .i64 a0_1, .int .i64 a0_2, .int .i64 a0_3, .slice A0_4 l0_4.length c0_4, .bool a0_5, .int .i64 a0_6, .int .i64 a0_7, .int .i64 a0_8, .int .i64 a0_9, .string a0_10, .int .i64 a0_11, .int .i64 a0_12, .slice A0_13 l0_13.length c0_13]] rfl zam ?_; (with_reducible refine (logfile_Check.calls k a0_0 a0_1 a0_2 a0_3 _ _ l0_4 a0_5 a0_6 a0_7 a0_8 a0_9 a0_10 a0_11 a0_12 _ _ l0_13 t885 _ ?side1 ?side2 ?side3 ?side4 ?side5 A2.out).mono ?_); (case side1 => exact GT.below (by decide) HG.out (zb2 HB GE884.out)); (case side2 => repeat (first | exact (Kd.C_below HR0_4.out HB.out) | (with_reducible refine Kd.C_alloc ?_ _) | (with_reducible refine Kd.C_drewN ?_ _) | (with_reducible refine Kd.C_drew ?_))); (case side3 => exact HC0_4.out); (case side4 => repeat (first | exact (Kd.C_below HR0_13.out HB.out) | (with_reducible refine Kd.C_alloc ?_ _) | (with_reducible refine Kd.C_drewN ?_ _) | (with_reducible refine Kd.C_drew ?_))); (case side5 => exact HC0_13.out); rintro e w67 ⟨rfl, hb⟩; refine ⟨_, rfl, ?_⟩; replace BK884 := Zaa.mk (Zah (g := gb884) (o := .cells #[.int .i64 a0_0, .int .i64 a0_1, .int .i64 a0_2, .int .i64 a0_3, .slice A0_4 l0_4.length c0_4, .bool a0_5, .int .i64 a0_6, .int .i64 a0_7, .int .i64 a0_8, .int .i64 a0_9, .string a0_10, .int .i64 a0_11, .int .i64 a0_12, .slice A0_13 l0_13.length c0_13] 64 (0, 0)) (zbk BK884) hb); replace HB := Zaa.mk (Zaf (zb2 HB GE884.out) hb); (try clear hb); obtain ⟨hcz68_0, hcz68_1, hcz68_2, hcz68_3, hcz68_4, hcz68_5, hcz68_6, hcz68_7, hcz68_8, hcz68_9, hcz68_10, hcz68_11, hcz68_12, hcz68_13⟩ := bc14 BK884.out; obtain ⟨hfz68_0, hfz68_1, hfz68_2, hfz68_3, hfz68_4, hfz68_5, hfz68_6, hfz68_7, hfz68_8, hfz68_9, hfz68_10, hfz68_11, hfz68_12, hfz68_13⟩ := bf14 BK884.out) | ((with_reducible refine Zal (f := 105) rfl ?_); refine Za2 (some 19) rfl rfl Tryd.func105 (by kernel_rfl) rfl #[.slice none 0 0, .int .i64 a0_0] rfl zam ?_; (refine (fresh_AppendNumber.calls k (fun k_ => some k_ = (.slice none 0 0 : Value).ownBlock) (.slice none 0 0) ([] : List Int) a0_0 t886 w _ ?side1 ?side2 A4.out).mono ?_); (case side1 => repeat (first | (with_reducible first | exact HB.out | apply Zam | apply Zan | apply Zaq | refine Za9 ?_ GE884.out) | exact HB.out)); (case side2 => exact Kd.R_nil _ _ _ _ _); rintro e w69 ⟨v887, rfl, ho0, hb, hkp⟩; refine ⟨_, rfl, ?_⟩; replace BK884 := Zaa.mk (Zbp (zbk BK884) hkp (fun hs_ => (fun e_ => by simp [Value.ownBlock] at e_) hs_)); have HO888 := Zaa.mk (Kd.R_mono (ok' := fun k_ => True) ho0 (fun k_ hk_ => trivial)); replace HB := Zaa.mk (hb); (try clear hb); (try clear hkp); (try clear ho0); obtain ⟨hcz70_0, hcz70_1, hcz70_2, hcz70_3, hcz70_4, hcz70_5, hcz70_6, hcz70_7, hcz70_8, hcz70_9, hcz70_10, hcz70_11, hcz70_12, hcz70_13⟩ := bc14 BK884.out; obtain ⟨hfz70_0, hfz70_1, hfz70_2, hfz70_3, hfz70_4, hfz70_5, hfz70_6, hfz70_7, hfz70_8, hfz70_9, hfz70_10, hfz70_11, hfz70_12, hfz70_13⟩ := bf14 BK884.out))
      replace HO888 := Zaa.mk (Kd.R_drew HO888.out)
      replace BK884 := Zaa.mk (Zad BK884.out)
      replace HB := Zaa.mk (Zaq HB.out)
      obtain ⟨Ao72, co72, eo72⟩ := Kd.R_slice HO888.out
      (first | subst eo72 | (injection eo72 with f1_ f2_ f3_; have f4_ := f1_.symm; have f5_ := f3_.symm; clear f1_ f2_ f3_; subst f4_; subst f5_))
      refine start_ (n := 11) (S := fun w' => w'.cell? ⟨gb884, 0, none⟩ = some (.int .i64 a0_0) ∧ w'.cell? ⟨gb884, 1, none⟩ = some (.int .i64 a0_1) ∧ w'.cell? ⟨gb884, 2, none⟩ = some (.int .i64 a0_2) ∧ w'.cell? ⟨gb884, 3, none⟩ = some (.int .i64 a0_3) ∧ w'.cell? ⟨gb884, 4, none⟩ = some (.slice A0_4 l0_4.length c0_4) ∧ w'.cell? ⟨gb884, 5, none⟩ = some (.bool a0_5) ∧ w'.cell? ⟨gb884, 6, none⟩ = some (.int .i64 a0_6) ∧ w'.cell? ⟨gb884, 7, none⟩ = some (.int .i64 a0_7) ∧ w'.cell? ⟨gb884, 8, none⟩ = some (.int .i64 a0_8) ∧ w'.cell? ⟨gb884, 9, none⟩ = some (.int .i64 a0_9) ∧ w'.cell? ⟨gb884, 10, none⟩ = some (.string a0_10) ∧ w'.cell? ⟨gb884, 11, none⟩ = some (.int .i64 a0_11) ∧ w'.cell? ⟨gb884, 12, none⟩ = some (.int .i64 a0_12) ∧ w'.cell? ⟨gb884, 13, none⟩ = some (.slice A0_13 l0_13.length c0_13)) (ds := []) #[false, false, false, false, false, false, false, false, false, false, false] (by kernel_rfl) rfl rfl ⟨(Zai BK884.out 0).trans rfl, (Zai BK884.out 1).trans rfl, (Zai BK884.out 2).trans rfl, (Zai BK884.out 3).trans rfl, (Zai BK884.out 4).trans rfl, (Zai BK884.out 5).trans rfl, (Zai BK884.out 6).trans rfl, (Zai BK884.out 7).trans rfl, (Zai BK884.out 8).trans rfl, (Zai BK884.out 9).trans rfl, (Zai BK884.out 10).trans rfl, (Zai BK884.out 11).trans rfl, (Zai BK884.out 12).trans rfl, (Zai BK884.out 13).trans rfl⟩ (fun hHeld => ?_); refine with_tabW logfile_Encode.tab6 logfile_Encode.bits6 (fun HT_ HW_ => ?_)
      generalize w69.drew = w71 at HO888 BK884 HB hHeld ⊢
      refine Za8 (i := 0) (N := some 22) (v := ?_) (a' := ?_) #[true, false, false, false, false, false, false, false, false, false, false] rfl rfl (Za7 HT_.out (by kernel_rfl)) (fun _ _ _ h => h) (Or.inl ⟨by rfl, ?_⟩) ?_ ?_
      rotate_left
      ·intro w'
       go_simp
       with_reducible rfl
      rotate_left
      ·simp only [Act.put, List.setIfInBounds_toArray, List.set_cons_zero, List.set_cons_succ, Zav, Za0]
       rfl
      refine Za8 (i := 1) (N := some 23) (v := ?_) (a' := ?_) #[true, true, false, false, false, false, false, false, false, false, false] rfl rfl (Za7 HT_.out (by kernel_rfl)) (fun _ _ _ h => h) (Or.inl ⟨by rfl, ?_⟩) ?_ ?_
      rotate_left
      ·intro w'
       go_simp
       with_reducible rfl
      rotate_left
      ·simp only [Act.put, List.setIfInBounds_toArray, List.set_cons_zero, List.set_cons_succ, Zav, Za0]
       rfl
      refine Za8 (i := 2) (N := some 24) (v := ?_) (a' := ?_) #[true, true, true, false, false, false, false, false, false, false, false] rfl rfl (Za7 HT_.out (by kernel_rfl)) (fun _ _ _ h => h) (Or.inl ⟨by rfl, ?_⟩) ?_ ?_
      rotate_left
      ·intro w'
       go_simp
       with_reducible rfl
      rotate_left
      ·simp only [Act.put, List.setIfInBounds_toArray, List.set_cons_zero, List.set_cons_succ, Zav, Za0]
       rfl
      refine Za8 (i := 6) (N := some 28) (v := ?_) (a' := ?_) #[true, true, true, false, false, false, true, false, false, false, false] rfl rfl (Za7 HT_.out (by kernel_rfl)) (fun _ _ _ h => h) (Or.inl ⟨by rfl, ?_⟩) ?_ ?_
      rotate_left
      ·intro w'
       go_simp
       with_reducible rfl
      rotate_left
      ·simp only [Act.put, List.setIfInBounds_toArray, List.set_cons_zero, List.set_cons_succ, Zav, Za0]
       rfl
      refine Za8 (i := 7) (N := some 29) (v := ?_) (a' := ?_) #[true, true, true, false, false, false, true, true, false, false, false] rfl rfl (Za7 HT_.out (by kernel_rfl)) (fun _ _ _ h => h) (Or.inl ⟨by rfl, ?_⟩) ?_ ?_
      rotate_left
      ·intro w'
       go_simp
       with_reducible rfl
      rotate_left
      ·simp only [Act.put, List.setIfInBounds_toArray, List.set_cons_zero, List.set_cons_succ, Zav, Za0]
       rfl
      refine take_ (i := 3) (N := some 25) (v := ?_) (a' := ?_) #[true, true, true, true, false, false, true, true, false, false, false] rfl rfl (Zbj HT_.out HW_.out (by kernel_rfl)) (fun _ _ _ h => h) (Or.inl ⟨by rfl, ?_⟩) hHeld ?_ ?_
      rotate_left
      ·rintro w' ⟨s0, s1, s2, s3, s4, s5, s6, s7, s8, s9, s10, s11, s12, s13⟩
       go_simp
       with_reducible rfl
      rotate_left
      ·simp only [Act.put, List.setIfInBounds_toArray, List.set_cons_zero, List.set_cons_succ, Zav, Za0]
       rfl
      refine Za8 (i := 4) (N := some 26) (v := ?_) (a' := ?_) #[true, true, true, true, true, false, true, true, false, false, false] rfl rfl (Za7 HT_.out (by kernel_rfl)) (fun _ _ _ h => h) (Or.inl ⟨by rfl, ?_⟩) ?_ ?_
      rotate_left
      ·intro w'
       go_simp
       with_reducible rfl
      rotate_left
      ·simp only [Act.put, List.setIfInBounds_toArray, List.set_cons_zero, List.set_cons_succ, Zav, Za0]
       rfl
      refine take_ (i := 8) (N := some 30) (v := ?_) (a' := ?_) #[true, true, true, true, true, false, true, true, true, false, false] rfl rfl (Zbj HT_.out HW_.out (by kernel_rfl)) (fun _ _ _ h => h) (Or.inl ⟨by rfl, ?_⟩) hHeld ?_ ?_
      rotate_left
      ·rintro w' ⟨s0, s1, s2, s3, s4, s5, s6, s7, s8, s9, s10, s11, s12, s13⟩
       go_simp
       with_reducible rfl
      rotate_left
      ·simp only [Act.put, List.setIfInBounds_toArray, List.set_cons_zero, List.set_cons_succ, Zav, Za0]
       rfl
      refine one_ (i := 5) (N := some 27) #[true, true, true, true, true, true, true, true, true, false, false] rfl rfl (Zbi HT_.out (by kernel_rfl)) (by decide) (fun K hK => ?_)
      refine goes_ Tryd.func105 (by kernel_rfl) rfl #[.slice Ao72 t886.length co72, .int .i64 (a0_10.size : Int)] (by rfl) rfl rfl zam ?_
      with_reducible refine (fresh_AppendNumber.calls k (fun k_ => some k_ = (.slice Ao72 t886.length co72 : Value).ownBlock) (.slice Ao72 t886.length co72) t886 (a0_10.size : Int) t912 w _ ?side1 ?side2 A60.out).mono ?_
      (case side1 => repeat (first | (with_reducible first | exact HB.out | apply Zam | apply Zan | apply Zaq | refine Za9 ?_ GE884.out) | exact HB.out))
      (case side2 => exact Kd.R_tight rfl HO888.out)
      rintro e w73 ⟨v913, rfl, ho0, hb, hkp⟩
      refine ⟨_, rfl, ?_⟩
      replace BK884 := Zaa.mk (Zbp (zbk BK884) hkp (fun hs_ => (fun e_ => (Kd.R_ne HO888.out BK884.out (by decide)) e_) hs_))
      have HO914 := Zaa.mk (Kd.R_mono (ok' := fun k_ => True) ho0 (fun k_ hk_ => trivial))
      replace HB := Zaa.mk (hb)
      clear HO888
      (try clear hb)
      (try clear hkp)
      (try clear ho0)
      refine hK.out _ _ ⟨(Zai BK884.out 0).trans rfl, (Zai BK884.out 1).trans rfl, (Zai BK884.out 2).trans rfl, (Zai BK884.out 3).trans rfl, (Zai BK884.out 4).trans rfl, (Zai BK884.out 5).trans rfl, (Zai BK884.out 6).trans rfl, (Zai BK884.out 7).trans rfl, (Zai BK884.out 8).trans rfl, (Zai BK884.out 9).trans rfl, (Zai BK884.out 10).trans rfl, (Zai BK884.out 11).trans rfl, (Zai BK884.out 12).trans rfl, (Zai BK884.out 13).trans rfl⟩ (fun hHeld => ?_)
      clear hK K
      refine norm_ (a' := ?_) ?_ ?_
      rotate_left
      ·show Act.put _ (some 27) _ = _
       simp only [Act.put, List.setIfInBounds_toArray, List.set_cons_zero, List.set_cons_succ, Zav, Za0]
       rfl
      refine one_ (i := 9) (N := some 31) #[true, true, true, true, true, true, true, true, true, true, false] rfl rfl (Zbi HT_.out (by kernel_rfl)) (by decide) (fun K hK => ?_)
      refine Go.Proofs.YtkfddpbmclbdhaaDoor.PStep.print_append_str_step (w0 := w) w.heap.size (by rfl) (.tmp 27) _ 28 9 5 rfl Tryd.underlying28 Tryd.underlying9 info5 v913 t912 a0_10 rfl rfl ?aO ?aB ?aS ?aL ?_
      (case aB => exact (zb2 HB GE884.out))
      (case aO => exact (Kd.own_of_R (zrk HO914)))
      (case aS => exact (Zae (zb2 HB GE884.out)))
      (case aL => have := LMc61.out; omega)
      intro v916 w74 ho0 hb hg
      have ho := Kd.R_of_own (h1 := fun _ => rfl) (ok := fun _ => True) ho0 (fun _ _ => trivial)
      clear ho0
      have hat := True.intro
      rw [← Ny915.out] at ho
      change Kd.R (Kd.int .u8) 5 w74 w.heap.size (fun _ => True) v916 y915 at ho
      replace BK884 := Zaa.mk (Zbl (g := gb884) (o := .cells #[.int .i64 a0_0, .int .i64 a0_1, .int .i64 a0_2, .int .i64 a0_3, .slice A0_4 l0_4.length c0_4, .bool a0_5, .int .i64 a0_6, .int .i64 a0_7, .int .i64 a0_8, .int .i64 a0_9, .string a0_10, .int .i64 a0_11, .int .i64 a0_12, .slice A0_13 l0_13.length c0_13] 64 (0, 0)) (zbk BK884) hg (Kd.R_ne HO914.out BK884.out (by decide)))
      replace HB := Zaa.mk (hb)
      have HO917 := Zaa.mk (ho)
      clear HO914 ho hb hg hat
      refine hK.out _ _ ⟨(Zai BK884.out 0).trans rfl, (Zai BK884.out 1).trans rfl, (Zai BK884.out 2).trans rfl, (Zai BK884.out 3).trans rfl, (Zai BK884.out 4).trans rfl, (Zai BK884.out 5).trans rfl, (Zai BK884.out 6).trans rfl, (Zai BK884.out 7).trans rfl, (Zai BK884.out 8).trans rfl, (Zai BK884.out 9).trans rfl, (Zai BK884.out 10).trans rfl, (Zai BK884.out 11).trans rfl, (Zai BK884.out 12).trans rfl, (Zai BK884.out 13).trans rfl⟩ (fun hHeld => ?_)
      clear hK K
      refine norm_ (a' := ?_) ?_ ?_
      rotate_left
      ·show Act.put _ (some 31) _ = _
       simp only [Act.put, List.setIfInBounds_toArray, List.set_cons_zero, List.set_cons_succ, Zav, Za0]
       rfl
      refine Za8 (i := 10) (N := some 5) (v := ?_) (a' := ?_) #[true, true, true, true, true, true, true, true, true, true, true] rfl rfl (Za7 HT_.out (by kernel_rfl)) (fun _ _ _ h => h) (Or.inl ⟨by rfl, ?_⟩) ?_ ?_
      rotate_left
      ·intro w'
       go_simp
       with_reducible rfl
      rotate_left
      ·simp only [Act.put, List.setIfInBounds_toArray, List.set_cons_zero, List.set_cons_succ, Zav, Za0]
       rfl
      refine done_ (done_of HT_.out (by kernel_rfl)) ?_
      obtain ⟨hcz75_0, hcz75_1, hcz75_2, hcz75_3, hcz75_4, hcz75_5, hcz75_6, hcz75_7, hcz75_8, hcz75_9, hcz75_10, hcz75_11, hcz75_12, hcz75_13⟩ := bc14 BK884.out
      obtain ⟨hfz75_0, hfz75_1, hfz75_2, hfz75_3, hfz75_4, hfz75_5, hfz75_6, hfz75_7, hfz75_8, hfz75_9, hfz75_10, hfz75_11, hfz75_12, hfz75_13⟩ := bf14 BK884.out
      obtain ⟨Ao76, co76, eo76⟩ := Kd.R_slice HO917.out
      subst eo76
      try go_wp2_with (first | ((with_reducible refine Zal (f := 105) rfl ?_); refine Za2 (some 36) rfl rfl Tryd.func105 (by kernel_rfl) rfl #[.slice Ao76 y915.length co76, .int .i64 a0_11] rfl zam ?_; (with_reducible refine (fresh_AppendNumber.calls k (fun k_ => some k_ = (.slice Ao76 y915.length co76 : Value).ownBlock) (.slice Ao76 y915.length co76) y915 a0_11 t918 w _ ?side1 ?side2 A62.out).mono ?_); (case side1 => repeat (first | (with_reducible first | exact HB.out | apply Zam | apply Zan | apply Zaq | refine Za9 ?_ GE884.out) | exact HB.out)); (case side2 => exact Kd.R_tight rfl HO917.out); rintro e w77 ⟨v919, rfl, ho0, hb, hkp⟩; refine ⟨_, rfl, ?_⟩; replace BK884 := Zaa.mk (Zbp (zbk BK884) hkp (fun hs_ => (fun e_ => (Kd.R_ne HO917.out BK884.out (by decide)) e_) hs_)); have HO920 := Zaa.mk (Kd.R_mono (ok' := fun k_ => True) ho0 (fun k_ hk_ => trivial)); replace HB := Zaa.mk (hb); clear HO917; (try clear hb); (try clear hkp); (try clear ho0); obtain ⟨hcz78_0, hcz78_1, hcz78_2, hcz78_3, hcz78_4, hcz78_5, hcz78_6, hcz78_7, hcz78_8, hcz78_9, hcz78_10, hcz78_11, hcz78_12, hcz78_13⟩ := bc14 BK884.out; obtain ⟨hfz78_0, hfz78_1, hfz78_2, hfz78_3, hfz78_4, hfz78_5, hfz78_6, hfz78_7, hfz78_8, hfz78_9, hfz78_10, hfz78_11, hfz78_12, hfz78_13⟩ := bf14 BK884.out; obtain ⟨Ao79, co79, eo79⟩ := Kd.R_slice HO920.out; subst eo79) | ((with_reducible refine Zal (f := 105) rfl ?_); refine Za2 (some 41) rfl rfl Tryd.func105 (by kernel_rfl) rfl #[.slice Ao79 t918.length co79, .int .i64 a0_12] rfl zam ?_; (with_reducible refine (fresh_AppendNumber.calls k (fun k_ => some k_ = (.slice Ao79 t918.length co79 : Value).ownBlock) (.slice Ao79 t918.length co79) t918 a0_12 t921 w _ ?side1 ?side2 A63.out).mono ?_); (case side1 => repeat (first | (with_reducible first | exact HB.out | apply Zam | apply Zan | apply Zaq | refine Za9 ?_ GE884.out) | exact HB.out)); (case side2 => exact Kd.R_tight rfl HO920.out); rintro e w80 ⟨v922, rfl, ho0, hb, hkp⟩; refine ⟨_, rfl, ?_⟩; replace BK884 := Zaa.mk (Zbp (zbk BK884) hkp (fun hs_ => (fun e_ => (Kd.R_ne HO920.out BK884.out (by decide)) e_) hs_)); have HO923 := Zaa.mk (Kd.R_mono (ok' := fun k_ => True) ho0 (fun k_ hk_ => trivial)); replace HB := Zaa.mk (hb); clear HO920; (try clear hb); (try clear hkp); (try clear ho0); obtain ⟨hcz81_0, hcz81_1, hcz81_2, hcz81_3, hcz81_4, hcz81_5, hcz81_6, hcz81_7, hcz81_8, hcz81_9, hcz81_10, hcz81_11, hcz81_12, hcz81_13⟩ := bc14 BK884.out; obtain ⟨hfz81_0, hfz81_1, hfz81_2, hfz81_3, hfz81_4, hfz81_5, hfz81_6, hfz81_7, hfz81_8, hfz81_9, hfz81_10, hfz81_11, hfz81_12, hfz81_13⟩ := bf14 BK884.out) | ((with_reducible refine Zba (b := .append) (xs := #[.tmp 42, .tmp 45]) rfl ?_); at_builtin; refine Kd.R_append_rows (Kd.int .u8) (w0 := w) w.heap.size rfl (.tmp 42) (.tmp 45) 28 5 (.int .u8 0) 1 rfl Tryd.underlying28 info5 rfl (by decide) (by omega) v922 t921 l0_13 _ _ _ (fun _ => True) (fun _ => False) rfl rfl ?aO ?aR (fun _ _ h => h) (fun _ h => h.elim) ?aF ?aB ?aS ?aL ?_; (case aR => repeat (first | exact (Kd.C_below HR0_13.out HB.out) | (with_reducible refine Kd.C_alloc ?_ _) | (with_reducible refine Kd.C_drewN ?_ _) | (with_reducible refine Kd.C_drew ?_))); (case aB => exact (zb2 HB GE884.out)); (case aF => exact (fun _ _ => trivial)); (case aO => exact (zrk HO923)); (case aS => exact (Zae (zb2 HB GE884.out))); (case aL => have := LMc64.out; omega); intro v925 w82 ho hb hg hat; rw [← Ny924.out] at ho; replace BK884 := Zaa.mk (Zbl (g := gb884) (o := .cells #[.int .i64 a0_0, .int .i64 a0_1, .int .i64 a0_2, .int .i64 a0_3, .slice A0_4 l0_4.length c0_4, .bool a0_5, .int .i64 a0_6, .int .i64 a0_7, .int .i64 a0_8, .int .i64 a0_9, .string a0_10, .int .i64 a0_11, .int .i64 a0_12, .slice A0_13 l0_13.length c0_13] 64 (0, 0)) (zbk BK884) hg (Kd.R_ne HO923.out BK884.out (by decide))); replace HB := Zaa.mk (hb); have HO926 := Zaa.mk (ho); clear HO923 ho hb hg hat))
      go_ret2
      exact ⟨_, by first | rfl | (simp [errW_none, errW_some] <;> rfl) | (simp [*, errW_none, errW_some] <;> rfl), by (with_reducible repeat (first | apply Kd.R_alloc | apply Kd.R_drewN | apply Kd.R_drew)); exact HO926.out, (zb2 HB GE884.out)⟩
     ·rw [if_neg c64] at H
      exact absurd H (by simp)
    ·rw [if_neg c61] at H
     exact absurd H (by simp)
 ·rw [if_neg c3] at H
  have c3b0 : (t885 == 0) = false := beq_eq_false_iff_ne.mpr c3
  have c3b1 : (t885 != 0) = true := bne_iff_ne.mpr c3
  simp only [Option.some.injEq, Prod.mk.injEq] at H
  obtain ⟨rfl, rfl⟩ := H
  go_enter Tryd.func57, Tryd.ntmps57
  go_wp2_with (first | ((with_reducible refine Zao (N := 1) rfl ?_); refine Zap ?hg (N := 1) ?hd (cs := #[.int .i64 a0_0, .int .i64 a0_1, .int .i64 a0_2, .int .i64 a0_3, .slice A0_4 l0_4.length c0_4, .bool a0_5, .int .i64 a0_6, .int .i64 a0_7, .int .i64 a0_8, .int .i64 a0_9, .string a0_10, .int .i64 a0_11, .int .i64 a0_12, .slice A0_13 l0_13.length c0_13]) (t := 64) ?hr ?_; (case hd => rfl); (case hg => rfl); (case hr => first | (go_simp; done) | (go_simp; rfl)); intro gb884 hg w83 hbox hb; have BK884 := Zaa.mk (hbox); have GW884 := Zaa.mk ((by rw [hg]; exact (Zae (zb1 HB)) : w.heap.size ≤ gb884)); have GE884 := Zaa.mk ((by rw [hg]; exact (Zae (zb1 HB)) : w.heap.size ≤ gb884)); replace HB := Zaa.mk (Zaf (zb1 HB) hb); clear hb hbox hg; obtain ⟨hcz84_0, hcz84_1, hcz84_2, hcz84_3, hcz84_4, hcz84_5, hcz84_6, hcz84_7, hcz84_8, hcz84_9, hcz84_10, hcz84_11, hcz84_12, hcz84_13⟩ := bc14 BK884.out; obtain ⟨hfz84_0, hfz84_1, hfz84_2, hfz84_3, hfz84_4, hfz84_5, hfz84_6, hfz84_7, hfz84_8, hfz84_9, hfz84_10, hfz84_11, hfz84_12, hfz84_13⟩ := bf14 BK884.out) | ((with_reducible refine Zal (f := 50) rfl ?_); refine Za2 (some 13) rfl rfl Tryd.func50 (by kernel_rfl) rfl #[.agg #[.int .i64 a0_0, .int .i64 a0_1, .int .i64 a0_2, .int .i64 a0_3, .slice A0_4 l0_4.length c0_4, .bool a0_5, .int .i64 a0_6, .int .i64 a0_7, .int .i64 a0_8, .int .i64 a0_9, .string a0_10, .int .i64 a0_11, .int .i64 a0_12, .slice A0_13 l0_13.length c0_13]] rfl zam ?_; (with_reducible refine (logfile_Check.calls k a0_0 a0_1 a0_2 a0_3 _ _ l0_4 a0_5 a0_6 a0_7 a0_8 a0_9 a0_10 a0_11 a0_12 _ _ l0_13 t885 _ ?side1 ?side2 ?side3 ?side4 ?side5 A2.out).mono ?_); (case side1 => exact GT.below (by decide) HG.out (zb2 HB GE884.out)); (case side2 => repeat (first | exact (Kd.C_below HR0_4.out HB.out) | (with_reducible refine Kd.C_alloc ?_ _) | (with_reducible refine Kd.C_drewN ?_ _) | (with_reducible refine Kd.C_drew ?_))); (case side3 => exact HC0_4.out); (case side4 => repeat (first | exact (Kd.C_below HR0_13.out HB.out) | (with_reducible refine Kd.C_alloc ?_ _) | (with_reducible refine Kd.C_drewN ?_ _) | (with_reducible refine Kd.C_drew ?_))); (case side5 => exact HC0_13.out); rintro e w85 ⟨rfl, hb⟩; refine ⟨_, rfl, ?_⟩; replace BK884 := Zaa.mk (Zah (g := gb884) (o := .cells #[.int .i64 a0_0, .int .i64 a0_1, .int .i64 a0_2, .int .i64 a0_3, .slice A0_4 l0_4.length c0_4, .bool a0_5, .int .i64 a0_6, .int .i64 a0_7, .int .i64 a0_8, .int .i64 a0_9, .string a0_10, .int .i64 a0_11, .int .i64 a0_12, .slice A0_13 l0_13.length c0_13] 64 (0, 0)) (zbk BK884) hb); replace HB := Zaa.mk (Zaf (zb2 HB GE884.out) hb); (try clear hb)))
  go_ret2
  exact ⟨_, by first | rfl | (simp [errW_none, errW_some] <;> rfl) | (simp [*, errW_none, errW_some] <;> rfl), by first | exact Kd.R_nil _ _ _ _ _ | exact Kd.N_nil _ _ _ _ _ | exact Kd.V_nil _ _ _ _ _ | exact Kd.Q_nil _ _ _ _ _ | exact Kd.S_nil _ _ _ _ _, (zb2 HB GE884.out)⟩
end Go.Proofs.YtkfddpbmclbdhaaDoor.PA
end
section
namespace Go.Proofs.YtkfddpbmclbdhaaDoor.PA
open Go.RowKit Go.Proofs.YtkfddpbmclbdhaaDoorW.PrintWords Go.Proofs.YtkfddpbmclbdhaaDoorW.PrintLast Go.Proofs.YtkfddpbmclbdhaaDoorW.PrintMore
attribute [local go_sem] Zaz Zax Za5 Za4 Zas Zar Zay Zaw   -- for this text's walks alone
set_option linter.unusedVariables false
set_option linter.unusedSimpArgs false
def kauditlaw25_begun.f (k : Nat)  : Option (Bool) := (logfile_Encode.f k 2 0 0 0 ([] : List (S43)) false 3 5 2 0 (⟨#[]⟩ : ByteArray) 0 0 ([] : List Int)).bind fun bt953 => ((logfile_Frame.f k 0 0 0 (([1] : List Int))).bind fun bt960 => (if bt953.2 = 0 then ((kauditref24_SameBytes.f bt953.1 (([2, 3, 5, 2, 0] : List Int))).bind fun t968 => (if t968 = true then (if bt960.2.2 = 0 then (if (bt960.1.length : Int) = 13 then (some (bt960.2.1 != 0)) else (some false)) else (some false)) else (some false))) else (some false)))
theorem kauditlaw25_begun.mono : ∀ k, LeO (kauditlaw25_begun.f k ) (kauditlaw25_begun.f (k + 1) ) := by
 intro  k
 unfold kauditlaw25_begun.f
 repeat' first
   | (with_reducible exact logfile_Encode.mono _ _ _ _ _ _ _ _ _ _ _ _ _ _ _)
   | (with_reducible exact logfile_Frame.mono _ _ _ _ _)
   | (with_reducible exact LeO.refl _)
   | (with_reducible exact LeO.none _)
   | (with_reducible refine LeO.ite ?_ ?_)
   | (with_reducible refine LeO.bind ?_ (fun _ => ?_))
   | exact logfile_Encode.mono _ _ _ _ _ _ _ _ _ _ _ _ _ _ _
   | exact logfile_Frame.mono _ _ _ _ _
   | exact LeO.none _
   | refine LeO.ite ?_ ?_
   | refine LeO.bind ?_ (fun _ => ?_)
set_option maxHeartbeats 8000000 in
set_option maxRecDepth 100000 in
theorem kauditlaw25_begun.calls (k : Nat)  (r : Bool) (w : World) (hG : GT 2 w) (h : kauditlaw25_begun.f k  = some r) :
  Calls Tryd.prog 56 #[] w fun e w' => e = .returned (.bool r) ∧ Below w.heap.size w w' := by
 have hu60 := Tryd.underlying60
 have hu64 := Tryd.underlying64
 have hu80 := Tryd.underlying80
 have HG := Zaa.mk hG
 clear hG
 have HB := Zaa.mk (Below.refl w.heap.size w)
 unfold kauditlaw25_begun.f at h
 have H := h
 clear h
 replace H := Option.bind_eq_some_iff.mp H
 obtain ⟨⟨t953, t956⟩, A10, H⟩ := H
 try dsimp only at H
 have A1 := Zaa.mk A10
 clear A10
 obtain ⟨y957, hy957⟩ : ∃ y_ : List Int, y_ = (([1] : List Int)) := ⟨_, rfl⟩
 replace H : ((logfile_Frame.f k 0 0 0 y957).bind fun bt960 => (if t956 = 0 then ((kauditref24_SameBytes.f t953 (([2, 3, 5, 2, 0] : List Int))).bind fun t968 => (if t968 = true then (if bt960.2.2 = 0 then (if (bt960.1.length : Int) = 13 then (some (bt960.2.1 != 0)) else (some false)) else (some false)) else (some false))) else (some false))) = some r := by first | (rw [hy957]; with_reducible exact H) | (have H2_ := (Option.bind_some _ _).symm.trans H; rw [hy957]; with_reducible exact H2_) | (have H2_ := (Option.bind_some _ _).symm.trans H; with_reducible exact H2_) | with_reducible exact H | (rw [hy957]; exact H) | exact H
 have Ny957 := Zaa.mk hy957
 clear hy957
 replace H := Option.bind_eq_some_iff.mp H
 obtain ⟨⟨t960, t963, t964⟩, A20, H⟩ := H
 try dsimp only at H
 have A2 := Zaa.mk A20
 clear A20
 by_cases c3 : t956 = 0
 ·rw [if_pos c3] at H
  have c3b0 : (t956 == 0) = true := beq_iff_eq.mpr c3
  have c3b1 : (t956 != 0) = false := bne_eq_false_iff_eq.mpr c3
  clear c3
  obtain ⟨y965, hy965⟩ : ∃ y_ : List Int, y_ = (([2, 3, 5, 2, 0] : List Int)) := ⟨_, rfl⟩
  replace H : ((kauditref24_SameBytes.f t953 y965).bind fun t968 => (if t968 = true then (if t964 = 0 then (if (t960.length : Int) = 13 then (some (t963 != 0)) else (some false)) else (some false)) else (some false))) = some r := by first | (rw [hy965]; with_reducible exact H) | (have H2_ := (Option.bind_some _ _).symm.trans H; rw [hy965]; with_reducible exact H2_) | (have H2_ := (Option.bind_some _ _).symm.trans H; with_reducible exact H2_) | with_reducible exact H | (rw [hy965]; exact H) | exact H
  have Ny965 := Zaa.mk hy965
  clear hy965
  replace H := Option.bind_eq_some_iff.mp H
  obtain ⟨t968, A40, H⟩ := H
  try dsimp only at H
  have A4 := Zaa.mk A40
  clear A40
  by_cases c5 : t968 = true
  ·subst c5
   rw [if_pos rfl] at H
   by_cases c6 : t964 = 0
   ·rw [if_pos c6] at H
    have c6b0 : (t964 == 0) = true := beq_iff_eq.mpr c6
    have c6b1 : (t964 != 0) = false := bne_eq_false_iff_eq.mpr c6
    clear c6
    by_cases c7 : (t960.length : Int) = 13
    ·rw [if_pos c7] at H
     have c7b0 : ((t960.length : Int) == 13) = true := beq_iff_eq.mpr c7
     have c7b1 : ((t960.length : Int) != 13) = false := bne_eq_false_iff_eq.mpr c7
     clear c7
     obtain rfl := Option.some.inj H
     go_enter Tryd.func56, Tryd.ntmps56
     go_wp2_with (first | ((with_reducible refine Zal (f := 57) rfl ?_); refine Za2 (some 9) rfl rfl Tryd.func57 (by kernel_rfl) rfl #[.agg #[.int .i64 2, .int .i64 0, .int .i64 0, .int .i64 0, .slice none 0 0, .bool false, .int .i64 3, .int .i64 5, .int .i64 2, .int .i64 0, .string (⟨#[]⟩ : ByteArray), .int .i64 0, .int .i64 0, .slice none 0 0]] rfl zam ?_; (refine (logfile_Encode.calls k 2 0 0 0 _ _ ([] : List (S43)) false 3 5 2 0 (⟨#[]⟩ : ByteArray) 0 0 _ _ ([] : List Int) t953 t956 _ ?side1 ?side2 ?side3 ?side4 ?side5 A1.out).mono ?_); (case side1 => exact GT.below (by decide) HG.out (zb1 HB)); (case side2 => exact Kd.C_nil _ _); (case side3 => exact Nat.le_refl _); (case side4 => exact Kd.C_nil _ _); (case side5 => exact Nat.le_refl _); rintro e w8 ⟨v954, rfl, ho0, hb⟩; refine ⟨_, rfl, ?_⟩; have HO955 := Zaa.mk (Kd.R_lower ho0 (Zae (zb1 HB))); replace HB := Zaa.mk (Zaf (zb1 HB) hb); (try clear hb); (try clear ho0)) | ((with_reducible refine Zao (N := 14) rfl ?_); (try (refine Za3 (by rfl) ?_; dsimp only)); refine Kd.R_lit (Kd.int .u8) _ 5 ?hg (N := 14) ?hd (xs := ([1] : List Int)) (inner := [.int .u8 1]) (ok := fun _ => True) (okp := fun _ => True) ?hr ?hp (fun _ hk => hk) trivial (Below.refl _ _) (Nat.le_refl _) (by simp) ?_; (case hd => rfl); (case hg => rfl); (case hr => first | (go_simp; done) | (go_simp; rfl)); (case hp => exact (Reps.one (show Kd.M (Kd.int .u8) _ _ _ 1 [.int .u8 1] from rfl) (Reps.none _ _))); intro v958 w9 ho10 hb hg_ hnew_; clear hg_ hnew_; (first | rw [← Ny957.out] at ho10 | (simp only [Int.reduceToNat] at ho10; rw [← Ny957.out] at ho10)); have HO959 := Zaa.mk (Kd.R_lower (Kd.R_new' ho10 (Kd.R_lt (zrk HO955))) (Zae (zb1 HB))); replace HO955 := Zaa.mk (Kd.R_elder' (zrk HO955) (Kd.R_base ho10) hb); replace HB := Zaa.mk (Zaf (zb1 HB) hb); clear hb ho10; obtain ⟨Ao11, co11, eo11⟩ := Kd.R_slice HO959.out; subst eo11) | ((with_reducible refine Zal (f := 60) rfl ?_); refine Za2 (some 15) rfl rfl Tryd.func60 (by kernel_rfl) rfl #[.agg #[.int .u64 0, .int .u64 0], .int .u64 0, .slice Ao11 y957.length co11] rfl zam ?_; (with_reducible refine (logfile_Frame.calls k 0 0 0 _ _ y957 t960 t963 t964 _ ?side1 ?side2 A2.out).mono ?_); (case side1 => repeat (first | exact (Kd.R_reads' HO959.out).2.2 | (with_reducible refine Kd.C_alloc ?_ _) | (with_reducible refine Kd.C_drewN ?_ _) | (with_reducible refine Kd.C_drew ?_))); (case side2 => exact (Kd.R_reads' HO959.out).2.1); rintro e w12 ⟨v961, rfl, ho0, hb⟩; refine ⟨_, rfl, ?_⟩; have HO962 := Zaa.mk (Kd.R_lower (Kd.R_new' (Kd.R_new' ho0 (Kd.R_lt (zrk HO955))) (Kd.R_lt (zrk HO959))) (Zae (zb1 HB))); replace HO955 := Zaa.mk (Kd.R_elder' (zrk HO955) (Kd.R_base ho0) hb); replace HO959 := Zaa.mk (Kd.R_elder' (zrk HO959) (Kd.R_base ho0) hb); replace HB := Zaa.mk (Zaf (zb1 HB) hb); (try clear hb); (try clear ho0)) | ((with_reducible refine Zao (N := 23) rfl ?_); (try (refine Za3 (by rfl) ?_; dsimp only)); refine Kd.R_lit (Kd.int .u8) _ 5 ?hg (N := 23) ?hd (xs := ([2, 3, 5, 2, 0] : List Int)) (inner := [.int .u8 2, .int .u8 3, .int .u8 5, .int .u8 2, .int .u8 0]) (ok := fun _ => True) (okp := fun _ => True) ?hr ?hp (fun _ hk => hk) trivial (Below.refl _ _) (Nat.le_refl _) (by simp) ?_; (case hd => rfl); (case hg => rfl); (case hr => first | (go_simp; done) | (go_simp; rfl)); (case hp => exact (Reps.one (show Kd.M (Kd.int .u8) _ _ _ 2 [.int .u8 2] from rfl) (Reps.one (show Kd.M (Kd.int .u8) _ _ _ 3 [.int .u8 3] from rfl) (Reps.one (show Kd.M (Kd.int .u8) _ _ _ 5 [.int .u8 5] from rfl) (Reps.one (show Kd.M (Kd.int .u8) _ _ _ 2 [.int .u8 2] from rfl) (Reps.one (show Kd.M (Kd.int .u8) _ _ _ 0 [.int .u8 0] from rfl) (Reps.none _ _))))))); intro v966 w13 ho14 hb hg_ hnew_; clear hg_ hnew_; (first | rw [← Ny965.out] at ho14 | (simp only [Int.reduceToNat] at ho14; rw [← Ny965.out] at ho14)); have HO967 := Zaa.mk (Kd.R_lower (Kd.R_new' (Kd.R_new' (Kd.R_new' ho14 (Kd.R_lt (zrk HO955))) (Kd.R_lt (zrk HO959))) (Kd.R_lt (zrk HO962))) (Zae (zb1 HB))); replace HO955 := Zaa.mk (Kd.R_elder' (zrk HO955) (Kd.R_base ho14) hb); replace HO959 := Zaa.mk (Kd.R_elder' (zrk HO959) (Kd.R_base ho14) hb); replace HO962 := Zaa.mk (Kd.R_elder' (zrk HO962) (Kd.R_base ho14) hb); replace HB := Zaa.mk (Zaf (zb1 HB) hb); clear hb ho14; obtain ⟨Ao15, co15, eo15⟩ := Kd.R_slice HO955.out; subst eo15; obtain ⟨Ao16, co16, eo16⟩ := Kd.R_slice HO967.out; subst eo16) | (go_at_call 59; (with_reducible refine (kauditref24_SameBytes.calls _ _ t953 _ _ y965 true _ ?side1 ?side2 ?side3 ?side4 A4.out).mono ?_); (case side1 => repeat (first | exact (Kd.R_reads' HO955.out).2.2 | (with_reducible refine Kd.C_alloc ?_ _) | (with_reducible refine Kd.C_drewN ?_ _) | (with_reducible refine Kd.C_drew ?_))); (case side2 => exact (Kd.R_reads' HO955.out).2.1); (case side3 => repeat (first | exact (Kd.R_reads' HO967.out).2.2 | (with_reducible refine Kd.C_alloc ?_ _) | (with_reducible refine Kd.C_drewN ?_ _) | (with_reducible refine Kd.C_drew ?_))); (case side4 => exact (Kd.R_reads' HO967.out).2.1); rintro e w' ⟨rfl, ⟨nd, rfl⟩⟩; obtain ⟨Ao17, co17, eo17⟩ := Kd.R_slice HO962.out; subst eo17))
     go_ret
     exact ⟨by first | rfl | (simp [errW_none, errW_some] <;> rfl) | (simp [*, errW_none, errW_some] <;> rfl), (zb1 HB)⟩
    ·rw [if_neg c7] at H
     have c7b0 : ((t960.length : Int) == 13) = false := beq_eq_false_iff_ne.mpr c7
     have c7b1 : ((t960.length : Int) != 13) = true := bne_iff_ne.mpr c7
     obtain rfl := Option.some.inj H
     go_enter Tryd.func56, Tryd.ntmps56
     go_wp2_with (first | ((with_reducible refine Zal (f := 57) rfl ?_); refine Za2 (some 9) rfl rfl Tryd.func57 (by kernel_rfl) rfl #[.agg #[.int .i64 2, .int .i64 0, .int .i64 0, .int .i64 0, .slice none 0 0, .bool false, .int .i64 3, .int .i64 5, .int .i64 2, .int .i64 0, .string (⟨#[]⟩ : ByteArray), .int .i64 0, .int .i64 0, .slice none 0 0]] rfl zam ?_; (refine (logfile_Encode.calls k 2 0 0 0 _ _ ([] : List (S43)) false 3 5 2 0 (⟨#[]⟩ : ByteArray) 0 0 _ _ ([] : List Int) t953 t956 _ ?side1 ?side2 ?side3 ?side4 ?side5 A1.out).mono ?_); (case side1 => exact GT.below (by decide) HG.out (zb1 HB)); (case side2 => exact Kd.C_nil _ _); (case side3 => exact Nat.le_refl _); (case side4 => exact Kd.C_nil _ _); (case side5 => exact Nat.le_refl _); rintro e w18 ⟨v954, rfl, ho0, hb⟩; refine ⟨_, rfl, ?_⟩; have HO955 := Zaa.mk (Kd.R_lower ho0 (Zae (zb1 HB))); replace HB := Zaa.mk (Zaf (zb1 HB) hb); (try clear hb); (try clear ho0)) | ((with_reducible refine Zao (N := 14) rfl ?_); (try (refine Za3 (by rfl) ?_; dsimp only)); refine Kd.R_lit (Kd.int .u8) _ 5 ?hg (N := 14) ?hd (xs := ([1] : List Int)) (inner := [.int .u8 1]) (ok := fun _ => True) (okp := fun _ => True) ?hr ?hp (fun _ hk => hk) trivial (Below.refl _ _) (Nat.le_refl _) (by simp) ?_; (case hd => rfl); (case hg => rfl); (case hr => first | (go_simp; done) | (go_simp; rfl)); (case hp => exact (Reps.one (show Kd.M (Kd.int .u8) _ _ _ 1 [.int .u8 1] from rfl) (Reps.none _ _))); intro v958 w19 ho20 hb hg_ hnew_; clear hg_ hnew_; (first | rw [← Ny957.out] at ho20 | (simp only [Int.reduceToNat] at ho20; rw [← Ny957.out] at ho20)); have HO959 := Zaa.mk (Kd.R_lower (Kd.R_new' ho20 (Kd.R_lt (zrk HO955))) (Zae (zb1 HB))); replace HO955 := Zaa.mk (Kd.R_elder' (zrk HO955) (Kd.R_base ho20) hb); replace HB := Zaa.mk (Zaf (zb1 HB) hb); clear hb ho20; obtain ⟨Ao21, co21, eo21⟩ := Kd.R_slice HO959.out; subst eo21) | ((with_reducible refine Zal (f := 60) rfl ?_); refine Za2 (some 15) rfl rfl Tryd.func60 (by kernel_rfl) rfl #[.agg #[.int .u64 0, .int .u64 0], .int .u64 0, .slice Ao21 y957.length co21] rfl zam ?_; (with_reducible refine (logfile_Frame.calls k 0 0 0 _ _ y957 t960 t963 t964 _ ?side1 ?side2 A2.out).mono ?_); (case side1 => repeat (first | exact (Kd.R_reads' HO959.out).2.2 | (with_reducible refine Kd.C_alloc ?_ _) | (with_reducible refine Kd.C_drewN ?_ _) | (with_reducible refine Kd.C_drew ?_))); (case side2 => exact (Kd.R_reads' HO959.out).2.1); rintro e w22 ⟨v961, rfl, ho0, hb⟩; refine ⟨_, rfl, ?_⟩; have HO962 := Zaa.mk (Kd.R_lower (Kd.R_new' (Kd.R_new' ho0 (Kd.R_lt (zrk HO955))) (Kd.R_lt (zrk HO959))) (Zae (zb1 HB))); replace HO955 := Zaa.mk (Kd.R_elder' (zrk HO955) (Kd.R_base ho0) hb); replace HO959 := Zaa.mk (Kd.R_elder' (zrk HO959) (Kd.R_base ho0) hb); replace HB := Zaa.mk (Zaf (zb1 HB) hb); (try clear hb); (try clear ho0)) | ((with_reducible refine Zao (N := 23) rfl ?_); (try (refine Za3 (by rfl) ?_; dsimp only)); refine Kd.R_lit (Kd.int .u8) _ 5 ?hg (N := 23) ?hd (xs := ([2, 3, 5, 2, 0] : List Int)) (inner := [.int .u8 2, .int .u8 3, .int .u8 5, .int .u8 2, .int .u8 0]) (ok := fun _ => True) (okp := fun _ => True) ?hr ?hp (fun _ hk => hk) trivial (Below.refl _ _) (Nat.le_refl _) (by simp) ?_; (case hd => rfl); (case hg => rfl); (case hr => first | (go_simp; done) | (go_simp; rfl)); (case hp => exact (Reps.one (show Kd.M (Kd.int .u8) _ _ _ 2 [.int .u8 2] from rfl) (Reps.one (show Kd.M (Kd.int .u8) _ _ _ 3 [.int .u8 3] from rfl) (Reps.one (show Kd.M (Kd.int .u8) _ _ _ 5 [.int .u8 5] from rfl) (Reps.one (show Kd.M (Kd.int .u8) _ _ _ 2 [.int .u8 2] from rfl) (Reps.one (show Kd.M (Kd.int .u8) _ _ _ 0 [.int .u8 0] from rfl) (Reps.none _ _))))))); intro v966 w23 ho24 hb hg_ hnew_; clear hg_ hnew_; (first | rw [← Ny965.out] at ho24 | (simp only [Int.reduceToNat] at ho24; rw [← Ny965.out] at ho24)); have HO967 := Zaa.mk (Kd.R_lower (Kd.R_new' (Kd.R_new' (Kd.R_new' ho24 (Kd.R_lt (zrk HO955))) (Kd.R_lt (zrk HO959))) (Kd.R_lt (zrk HO962))) (Zae (zb1 HB))); replace HO955 := Zaa.mk (Kd.R_elder' (zrk HO955) (Kd.R_base ho24) hb); replace HO959 := Zaa.mk (Kd.R_elder' (zrk HO959) (Kd.R_base ho24) hb); replace HO962 := Zaa.mk (Kd.R_elder' (zrk HO962) (Kd.R_base ho24) hb); replace HB := Zaa.mk (Zaf (zb1 HB) hb); clear hb ho24; obtain ⟨Ao25, co25, eo25⟩ := Kd.R_slice HO955.out; subst eo25; obtain ⟨Ao26, co26, eo26⟩ := Kd.R_slice HO967.out; subst eo26) | (go_at_call 59; (with_reducible refine (kauditref24_SameBytes.calls _ _ t953 _ _ y965 true _ ?side1 ?side2 ?side3 ?side4 A4.out).mono ?_); (case side1 => repeat (first | exact (Kd.R_reads' HO955.out).2.2 | (with_reducible refine Kd.C_alloc ?_ _) | (with_reducible refine Kd.C_drewN ?_ _) | (with_reducible refine Kd.C_drew ?_))); (case side2 => exact (Kd.R_reads' HO955.out).2.1); (case side3 => repeat (first | exact (Kd.R_reads' HO967.out).2.2 | (with_reducible refine Kd.C_alloc ?_ _) | (with_reducible refine Kd.C_drewN ?_ _) | (with_reducible refine Kd.C_drew ?_))); (case side4 => exact (Kd.R_reads' HO967.out).2.1); rintro e w' ⟨rfl, ⟨nd, rfl⟩⟩; obtain ⟨Ao27, co27, eo27⟩ := Kd.R_slice HO962.out; subst eo27))
     go_ret
     exact ⟨by first | rfl | (simp [errW_none, errW_some] <;> rfl) | (simp [*, errW_none, errW_some] <;> rfl), (zb1 HB)⟩
   ·rw [if_neg c6] at H
    have c6b0 : (t964 == 0) = false := beq_eq_false_iff_ne.mpr c6
    have c6b1 : (t964 != 0) = true := bne_iff_ne.mpr c6
    obtain rfl := Option.some.inj H
    go_enter Tryd.func56, Tryd.ntmps56
    go_wp2_with (first | ((with_reducible refine Zal (f := 57) rfl ?_); refine Za2 (some 9) rfl rfl Tryd.func57 (by kernel_rfl) rfl #[.agg #[.int .i64 2, .int .i64 0, .int .i64 0, .int .i64 0, .slice none 0 0, .bool false, .int .i64 3, .int .i64 5, .int .i64 2, .int .i64 0, .string (⟨#[]⟩ : ByteArray), .int .i64 0, .int .i64 0, .slice none 0 0]] rfl zam ?_; (refine (logfile_Encode.calls k 2 0 0 0 _ _ ([] : List (S43)) false 3 5 2 0 (⟨#[]⟩ : ByteArray) 0 0 _ _ ([] : List Int) t953 t956 _ ?side1 ?side2 ?side3 ?side4 ?side5 A1.out).mono ?_); (case side1 => exact GT.below (by decide) HG.out (zb1 HB)); (case side2 => exact Kd.C_nil _ _); (case side3 => exact Nat.le_refl _); (case side4 => exact Kd.C_nil _ _); (case side5 => exact Nat.le_refl _); rintro e w28 ⟨v954, rfl, ho0, hb⟩; refine ⟨_, rfl, ?_⟩; have HO955 := Zaa.mk (Kd.R_lower ho0 (Zae (zb1 HB))); replace HB := Zaa.mk (Zaf (zb1 HB) hb); (try clear hb); (try clear ho0)) | ((with_reducible refine Zao (N := 14) rfl ?_); (try (refine Za3 (by rfl) ?_; dsimp only)); refine Kd.R_lit (Kd.int .u8) _ 5 ?hg (N := 14) ?hd (xs := ([1] : List Int)) (inner := [.int .u8 1]) (ok := fun _ => True) (okp := fun _ => True) ?hr ?hp (fun _ hk => hk) trivial (Below.refl _ _) (Nat.le_refl _) (by simp) ?_; (case hd => rfl); (case hg => rfl); (case hr => first | (go_simp; done) | (go_simp; rfl)); (case hp => exact (Reps.one (show Kd.M (Kd.int .u8) _ _ _ 1 [.int .u8 1] from rfl) (Reps.none _ _))); intro v958 w29 ho30 hb hg_ hnew_; clear hg_ hnew_; (first | rw [← Ny957.out] at ho30 | (simp only [Int.reduceToNat] at ho30; rw [← Ny957.out] at ho30)); have HO959 := Zaa.mk (Kd.R_lower (Kd.R_new' ho30 (Kd.R_lt (zrk HO955))) (Zae (zb1 HB))); replace HO955 := Zaa.mk (Kd.R_elder' (zrk HO955) (Kd.R_base ho30) hb); replace HB := Zaa.mk (Zaf (zb1 HB) hb); clear hb ho30; obtain ⟨Ao31, co31, eo31⟩ := Kd.R_slice HO959.out; subst eo31) | ((with_reducible refine Zal (f := 60) rfl ?_); refine Za2 (some 15) rfl rfl Tryd.func60 (by kernel_rfl) rfl #[.agg #[.int .u64 0, .int .u64 0], .int .u64 0, .slice Ao31 y957.length co31] rfl zam ?_; (with_reducible refine (logfile_Frame.calls k 0 0 0 _ _ y957 t960 t963 t964 _ ?side1 ?side2 A2.out).mono ?_); (case side1 => repeat (first | exact (Kd.R_reads' HO959.out).2.2 | (with_reducible refine Kd.C_alloc ?_ _) | (with_reducible refine Kd.C_drewN ?_ _) | (with_reducible refine Kd.C_drew ?_))); (case side2 => exact (Kd.R_reads' HO959.out).2.1); rintro e w32 ⟨v961, rfl, ho0, hb⟩; refine ⟨_, rfl, ?_⟩; have HO962 := Zaa.mk (Kd.R_lower (Kd.R_new' (Kd.R_new' ho0 (Kd.R_lt (zrk HO955))) (Kd.R_lt (zrk HO959))) (Zae (zb1 HB))); replace HO955 := Zaa.mk (Kd.R_elder' (zrk HO955) (Kd.R_base ho0) hb); replace HO959 := Zaa.mk (Kd.R_elder' (zrk HO959) (Kd.R_base ho0) hb); replace HB := Zaa.mk (Zaf (zb1 HB) hb); (try clear hb); (try clear ho0)) | ((with_reducible refine Zao (N := 23) rfl ?_); (try (refine Za3 (by rfl) ?_; dsimp only)); refine Kd.R_lit (Kd.int .u8) _ 5 ?hg (N := 23) ?hd (xs := ([2, 3, 5, 2, 0] : List Int)) (inner := [.int .u8 2, .int .u8 3, .int .u8 5, .int .u8 2, .int .u8 0]) (ok := fun _ => True) (okp := fun _ => True) ?hr ?hp (fun _ hk => hk) trivial (Below.refl _ _) (Nat.le_refl _) (by simp) ?_; (case hd => rfl); (case hg => rfl); (case hr => first | (go_simp; done) | (go_simp; rfl)); (case hp => exact (Reps.one (show Kd.M (Kd.int .u8) _ _ _ 2 [.int .u8 2] from rfl) (Reps.one (show Kd.M (Kd.int .u8) _ _ _ 3 [.int .u8 3] from rfl) (Reps.one (show Kd.M (Kd.int .u8) _ _ _ 5 [.int .u8 5] from rfl) (Reps.one (show Kd.M (Kd.int .u8) _ _ _ 2 [.int .u8 2] from rfl) (Reps.one (show Kd.M (Kd.int .u8) _ _ _ 0 [.int .u8 0] from rfl) (Reps.none _ _))))))); intro v966 w33 ho34 hb hg_ hnew_; clear hg_ hnew_; (first | rw [← Ny965.out] at ho34 | (simp only [Int.reduceToNat] at ho34; rw [← Ny965.out] at ho34)); have HO967 := Zaa.mk (Kd.R_lower (Kd.R_new' (Kd.R_new' (Kd.R_new' ho34 (Kd.R_lt (zrk HO955))) (Kd.R_lt (zrk HO959))) (Kd.R_lt (zrk HO962))) (Zae (zb1 HB))); replace HO955 := Zaa.mk (Kd.R_elder' (zrk HO955) (Kd.R_base ho34) hb); replace HO959 := Zaa.mk (Kd.R_elder' (zrk HO959) (Kd.R_base ho34) hb); replace HO962 := Zaa.mk (Kd.R_elder' (zrk HO962) (Kd.R_base ho34) hb); replace HB := Zaa.mk (Zaf (zb1 HB) hb); clear hb ho34; obtain ⟨Ao35, co35, eo35⟩ := Kd.R_slice HO955.out; subst eo35; obtain ⟨Ao36, co36, eo36⟩ := Kd.R_slice HO967.out; subst eo36) | (go_at_call 59; (with_reducible refine (kauditref24_SameBytes.calls _ _ t953 _ _ y965 true _ ?side1 ?side2 ?side3 ?side4 A4.out).mono ?_); (case side1 => repeat (first | exact (Kd.R_reads' HO955.out).2.2 | (with_reducible refine Kd.C_alloc ?_ _) | (with_reducible refine Kd.C_drewN ?_ _) | (with_reducible refine Kd.C_drew ?_))); (case side2 => exact (Kd.R_reads' HO955.out).2.1); (case side3 => repeat (first | exact (Kd.R_reads' HO967.out).2.2 | (with_reducible refine Kd.C_alloc ?_ _) | (with_reducible refine Kd.C_drewN ?_ _) | (with_reducible refine Kd.C_drew ?_))); (case side4 => exact (Kd.R_reads' HO967.out).2.1); rintro e w' ⟨rfl, ⟨nd, rfl⟩⟩))
    go_ret
    exact ⟨by first | rfl | (simp [errW_none, errW_some] <;> rfl) | (simp [*, errW_none, errW_some] <;> rfl), (zb1 HB)⟩
  ·replace c5 := Bool.eq_false_iff.mpr c5
   subst c5
   rw [if_neg (show ¬ (false = true) by decide)] at H
   obtain rfl := Option.some.inj H
   go_enter Tryd.func56, Tryd.ntmps56
   go_wp2_with (first | ((with_reducible refine Zal (f := 57) rfl ?_); refine Za2 (some 9) rfl rfl Tryd.func57 (by kernel_rfl) rfl #[.agg #[.int .i64 2, .int .i64 0, .int .i64 0, .int .i64 0, .slice none 0 0, .bool false, .int .i64 3, .int .i64 5, .int .i64 2, .int .i64 0, .string (⟨#[]⟩ : ByteArray), .int .i64 0, .int .i64 0, .slice none 0 0]] rfl zam ?_; (refine (logfile_Encode.calls k 2 0 0 0 _ _ ([] : List (S43)) false 3 5 2 0 (⟨#[]⟩ : ByteArray) 0 0 _ _ ([] : List Int) t953 t956 _ ?side1 ?side2 ?side3 ?side4 ?side5 A1.out).mono ?_); (case side1 => exact GT.below (by decide) HG.out (zb1 HB)); (case side2 => exact Kd.C_nil _ _); (case side3 => exact Nat.le_refl _); (case side4 => exact Kd.C_nil _ _); (case side5 => exact Nat.le_refl _); rintro e w37 ⟨v954, rfl, ho0, hb⟩; refine ⟨_, rfl, ?_⟩; have HO955 := Zaa.mk (Kd.R_lower ho0 (Zae (zb1 HB))); replace HB := Zaa.mk (Zaf (zb1 HB) hb); (try clear hb); (try clear ho0)) | ((with_reducible refine Zao (N := 14) rfl ?_); (try (refine Za3 (by rfl) ?_; dsimp only)); refine Kd.R_lit (Kd.int .u8) _ 5 ?hg (N := 14) ?hd (xs := ([1] : List Int)) (inner := [.int .u8 1]) (ok := fun _ => True) (okp := fun _ => True) ?hr ?hp (fun _ hk => hk) trivial (Below.refl _ _) (Nat.le_refl _) (by simp) ?_; (case hd => rfl); (case hg => rfl); (case hr => first | (go_simp; done) | (go_simp; rfl)); (case hp => exact (Reps.one (show Kd.M (Kd.int .u8) _ _ _ 1 [.int .u8 1] from rfl) (Reps.none _ _))); intro v958 w38 ho39 hb hg_ hnew_; clear hg_ hnew_; (first | rw [← Ny957.out] at ho39 | (simp only [Int.reduceToNat] at ho39; rw [← Ny957.out] at ho39)); have HO959 := Zaa.mk (Kd.R_lower (Kd.R_new' ho39 (Kd.R_lt (zrk HO955))) (Zae (zb1 HB))); replace HO955 := Zaa.mk (Kd.R_elder' (zrk HO955) (Kd.R_base ho39) hb); replace HB := Zaa.mk (Zaf (zb1 HB) hb); clear hb ho39; obtain ⟨Ao40, co40, eo40⟩ := Kd.R_slice HO959.out; subst eo40) | ((with_reducible refine Zal (f := 60) rfl ?_); refine Za2 (some 15) rfl rfl Tryd.func60 (by kernel_rfl) rfl #[.agg #[.int .u64 0, .int .u64 0], .int .u64 0, .slice Ao40 y957.length co40] rfl zam ?_; (with_reducible refine (logfile_Frame.calls k 0 0 0 _ _ y957 t960 t963 t964 _ ?side1 ?side2 A2.out).mono ?_); (case side1 => repeat (first | exact (Kd.R_reads' HO959.out).2.2 | (with_reducible refine Kd.C_alloc ?_ _) | (with_reducible refine Kd.C_drewN ?_ _) | (with_reducible refine Kd.C_drew ?_))); (case side2 => exact (Kd.R_reads' HO959.out).2.1); rintro e w41 ⟨v961, rfl, ho0, hb⟩; refine ⟨_, rfl, ?_⟩; have HO962 := Zaa.mk (Kd.R_lower (Kd.R_new' (Kd.R_new' ho0 (Kd.R_lt (zrk HO955))) (Kd.R_lt (zrk HO959))) (Zae (zb1 HB))); replace HO955 := Zaa.mk (Kd.R_elder' (zrk HO955) (Kd.R_base ho0) hb); replace HO959 := Zaa.mk (Kd.R_elder' (zrk HO959) (Kd.R_base ho0) hb); replace HB := Zaa.mk (Zaf (zb1 HB) hb); (try clear hb); (try clear ho0)) | ((with_reducible refine Zao (N := 23) rfl ?_); (try (refine Za3 (by rfl) ?_; dsimp only)); refine Kd.R_lit (Kd.int .u8) _ 5 ?hg (N := 23) ?hd (xs := ([2, 3, 5, 2, 0] : List Int)) (inner := [.int .u8 2, .int .u8 3, .int .u8 5, .int .u8 2, .int .u8 0]) (ok := fun _ => True) (okp := fun _ => True) ?hr ?hp (fun _ hk => hk) trivial (Below.refl _ _) (Nat.le_refl _) (by simp) ?_; (case hd => rfl); (case hg => rfl); (case hr => first | (go_simp; done) | (go_simp; rfl)); (case hp => exact (Reps.one (show Kd.M (Kd.int .u8) _ _ _ 2 [.int .u8 2] from rfl) (Reps.one (show Kd.M (Kd.int .u8) _ _ _ 3 [.int .u8 3] from rfl) (Reps.one (show Kd.M (Kd.int .u8) _ _ _ 5 [.int .u8 5] from rfl) (Reps.one (show Kd.M (Kd.int .u8) _ _ _ 2 [.int .u8 2] from rfl) (Reps.one (show Kd.M (Kd.int .u8) _ _ _ 0 [.int .u8 0] from rfl) (Reps.none _ _))))))); intro v966 w42 ho43 hb hg_ hnew_; clear hg_ hnew_; (first | rw [← Ny965.out] at ho43 | (simp only [Int.reduceToNat] at ho43; rw [← Ny965.out] at ho43)); have HO967 := Zaa.mk (Kd.R_lower (Kd.R_new' (Kd.R_new' (Kd.R_new' ho43 (Kd.R_lt (zrk HO955))) (Kd.R_lt (zrk HO959))) (Kd.R_lt (zrk HO962))) (Zae (zb1 HB))); replace HO955 := Zaa.mk (Kd.R_elder' (zrk HO955) (Kd.R_base ho43) hb); replace HO959 := Zaa.mk (Kd.R_elder' (zrk HO959) (Kd.R_base ho43) hb); replace HO962 := Zaa.mk (Kd.R_elder' (zrk HO962) (Kd.R_base ho43) hb); replace HB := Zaa.mk (Zaf (zb1 HB) hb); clear hb ho43; obtain ⟨Ao44, co44, eo44⟩ := Kd.R_slice HO955.out; subst eo44; obtain ⟨Ao45, co45, eo45⟩ := Kd.R_slice HO967.out; subst eo45) | (go_at_call 59; (with_reducible refine (kauditref24_SameBytes.calls _ _ t953 _ _ y965 false _ ?side1 ?side2 ?side3 ?side4 A4.out).mono ?_); (case side1 => repeat (first | exact (Kd.R_reads' HO955.out).2.2 | (with_reducible refine Kd.C_alloc ?_ _) | (with_reducible refine Kd.C_drewN ?_ _) | (with_reducible refine Kd.C_drew ?_))); (case side2 => exact (Kd.R_reads' HO955.out).2.1); (case side3 => repeat (first | exact (Kd.R_reads' HO967.out).2.2 | (with_reducible refine Kd.C_alloc ?_ _) | (with_reducible refine Kd.C_drewN ?_ _) | (with_reducible refine Kd.C_drew ?_))); (case side4 => exact (Kd.R_reads' HO967.out).2.1); rintro e w' ⟨rfl, ⟨nd, rfl⟩⟩))
   go_ret
   exact ⟨by first | rfl | (simp [errW_none, errW_some] <;> rfl) | (simp [*, errW_none, errW_some] <;> rfl), (zb1 HB)⟩
 ·rw [if_neg c3] at H
  have c3b0 : (t956 == 0) = false := beq_eq_false_iff_ne.mpr c3
  have c3b1 : (t956 != 0) = true := bne_iff_ne.mpr c3
  obtain rfl := Option.some.inj H
  go_enter Tryd.func56, Tryd.ntmps56
  go_wp2_with (first | ((with_reducible refine Zal (f := 57) rfl ?_); refine Za2 (some 9) rfl rfl Tryd.func57 (by kernel_rfl) rfl #[.agg #[.int .i64 2, .int .i64 0, .int .i64 0, .int .i64 0, .slice none 0 0, .bool false, .int .i64 3, .int .i64 5, .int .i64 2, .int .i64 0, .string (⟨#[]⟩ : ByteArray), .int .i64 0, .int .i64 0, .slice none 0 0]] rfl zam ?_; (refine (logfile_Encode.calls k 2 0 0 0 _ _ ([] : List (S43)) false 3 5 2 0 (⟨#[]⟩ : ByteArray) 0 0 _ _ ([] : List Int) t953 t956 _ ?side1 ?side2 ?side3 ?side4 ?side5 A1.out).mono ?_); (case side1 => exact GT.below (by decide) HG.out (zb1 HB)); (case side2 => exact Kd.C_nil _ _); (case side3 => exact Nat.le_refl _); (case side4 => exact Kd.C_nil _ _); (case side5 => exact Nat.le_refl _); rintro e w46 ⟨v954, rfl, ho0, hb⟩; refine ⟨_, rfl, ?_⟩; have HO955 := Zaa.mk (Kd.R_lower ho0 (Zae (zb1 HB))); replace HB := Zaa.mk (Zaf (zb1 HB) hb); (try clear hb); (try clear ho0)) | ((with_reducible refine Zao (N := 14) rfl ?_); (try (refine Za3 (by rfl) ?_; dsimp only)); refine Kd.R_lit (Kd.int .u8) _ 5 ?hg (N := 14) ?hd (xs := ([1] : List Int)) (inner := [.int .u8 1]) (ok := fun _ => True) (okp := fun _ => True) ?hr ?hp (fun _ hk => hk) trivial (Below.refl _ _) (Nat.le_refl _) (by simp) ?_; (case hd => rfl); (case hg => rfl); (case hr => first | (go_simp; done) | (go_simp; rfl)); (case hp => exact (Reps.one (show Kd.M (Kd.int .u8) _ _ _ 1 [.int .u8 1] from rfl) (Reps.none _ _))); intro v958 w47 ho48 hb hg_ hnew_; clear hg_ hnew_; (first | rw [← Ny957.out] at ho48 | (simp only [Int.reduceToNat] at ho48; rw [← Ny957.out] at ho48)); have HO959 := Zaa.mk (Kd.R_lower (Kd.R_new' ho48 (Kd.R_lt (zrk HO955))) (Zae (zb1 HB))); replace HO955 := Zaa.mk (Kd.R_elder' (zrk HO955) (Kd.R_base ho48) hb); replace HB := Zaa.mk (Zaf (zb1 HB) hb); clear hb ho48; obtain ⟨Ao49, co49, eo49⟩ := Kd.R_slice HO959.out; subst eo49) | ((with_reducible refine Zal (f := 60) rfl ?_); refine Za2 (some 15) rfl rfl Tryd.func60 (by kernel_rfl) rfl #[.agg #[.int .u64 0, .int .u64 0], .int .u64 0, .slice Ao49 y957.length co49] rfl zam ?_; (with_reducible refine (logfile_Frame.calls k 0 0 0 _ _ y957 t960 t963 t964 _ ?side1 ?side2 A2.out).mono ?_); (case side1 => repeat (first | exact (Kd.R_reads' HO959.out).2.2 | (with_reducible refine Kd.C_alloc ?_ _) | (with_reducible refine Kd.C_drewN ?_ _) | (with_reducible refine Kd.C_drew ?_))); (case side2 => exact (Kd.R_reads' HO959.out).2.1); rintro e w50 ⟨v961, rfl, ho0, hb⟩; refine ⟨_, rfl, ?_⟩; have HO962 := Zaa.mk (Kd.R_lower (Kd.R_new' (Kd.R_new' ho0 (Kd.R_lt (zrk HO955))) (Kd.R_lt (zrk HO959))) (Zae (zb1 HB))); replace HO955 := Zaa.mk (Kd.R_elder' (zrk HO955) (Kd.R_base ho0) hb); replace HO959 := Zaa.mk (Kd.R_elder' (zrk HO959) (Kd.R_base ho0) hb); replace HB := Zaa.mk (Zaf (zb1 HB) hb); (try clear hb); (try clear ho0)))
  go_ret
  exact ⟨by first | rfl | (simp [errW_none, errW_some] <;> rfl) | (simp [*, errW_none, errW_some] <;> rfl), (zb1 HB)⟩
end Go.Proofs.YtkfddpbmclbdhaaDoor.PA
end
section
namespace Go.Proofs.YtkfddpbmclbdhaaDoor.PA
open Go.RowKit Go.Proofs.YtkfddpbmclbdhaaDoorW.PrintWords Go.Proofs.YtkfddpbmclbdhaaDoorW.PrintLast Go.Proofs.YtkfddpbmclbdhaaDoorW.PrintMore
attribute [local go_sem] Zaz Zax Za5 Za4 Zas Zar Zay Zaw   -- for this text's walks alone
set_option linter.unusedVariables false
set_option linter.unusedSimpArgs false
mutual
def kauditlaw25_LogfileFrames.l0 : Nat → Int → Int → Int → List (List Int) → Int → Int → Int → Int → Option (Bool)
 | 0, _, _, _, _, _, _, _, _ => none
 | k + 1, x1, x3, x4, x33, x34, x35, x1068000, x1068001 => if x35 < x34 then (if 0 ≤ x35 then (if x35 < (x33.length : Int) then ((logfile_Frame.f k x1068000 x1068001 x1 (rd_L11 x33 x35)).bind fun bt1075 => ((kauditref25_Frame.f k x1068000 x1068001 x1 (rd_L11 x33 x35)).bind fun bt1080 => (if bt1075.2.2 = bt1080.2.2 then (if bt1075.2.1 = bt1080.2.1 then ((kauditref24_SameBytes.f bt1075.1 bt1080.1).bind fun t1085 => (if t1085 = true then (kauditlaw25_LogfileFrames.l0 k x1 x3 x4 x33 x34 (wrap64 (x35 + 1)) x1068000 x1068001) else (some false))) else (some false)) else (some false)))) else (none)) else (none)) else ((some (([x3, wrap64 (1 + (Int.tmod (wrap64 (x4)) 1000)), 0, 1001] : List Int) : List Int)).bind fun y1086 => (kauditlaw25_LogfileFrames.l1 k x1 y1086 (y1086.length : Int) 0 x1068000 x1068001))
def kauditlaw25_LogfileFrames.l1 : Nat → Int → List Int → Int → Int → Int → Int → Option (Bool)
 | 0, _, _, _, _, _, _ => none
 | k + 1, x1, x75, x76, x77, x1068000, x1068001 => if x77 < x76 then (if 0 ≤ x77 then (if x77 < (x75.length : Int) then ((logfile_Head.f k x1068000 x1068001 (rd x75 x77) x1).bind fun bt1091 => ((kauditref25_Head.f k x1068000 x1068001 (rd x75 x77) x1).bind fun bt1096 => (if bt1091.2.2 = bt1096.2.2 then (if bt1091.2.1 = bt1096.2.1 then ((kauditref24_SameBytes.f bt1091.1 bt1096.1).bind fun t1101 => (if t1101 = true then (kauditlaw25_LogfileFrames.l1 k x1 x75 x76 (wrap64 (x77 + 1)) x1068000 x1068001) else (some false))) else (some false)) else (some false)))) else (none)) else (none)) else ((kauditlaw25_begun.f k).bind fun t1089 => (some t1089))
end
def kauditlaw25_LogfileFrames.f (k : Nat) (a0_0 : Int) (a0_1 : Int) (a1 : Int) (l2 : List Int) (a3 : Int) (a4 : Int) : Option (Bool) := if 0 ≤ (wrap64 (16382 + (Int.tmod (wrap64 (a4)) 5))) then (if (wrap64 (16382 + (Int.tmod (wrap64 (a4)) 5)) : Int).toNat ≤ 281474976710656 then ((some (([l2, [], (List.replicate (wrap64 (16382 + (Int.tmod (wrap64 (a4)) 5)) : Int).toNat 0)] : List (List Int)) : List (List Int))).bind fun y1071 => (kauditlaw25_LogfileFrames.l0 k a1 a3 a4 y1071 (y1071.length : Int) 0 a0_0 a0_1)) else (none)) else (none)
theorem kauditlaw25_LogfileFrames.mono_l : ∀ k, (∀ y0 y1 y2 y3 y4 y5 y6 y7, LeO (kauditlaw25_LogfileFrames.l0 k y0 y1 y2 y3 y4 y5 y6 y7) (kauditlaw25_LogfileFrames.l0 (k + 1) y0 y1 y2 y3 y4 y5 y6 y7)) ∧ (∀ y0 y1 y2 y3 y4 y5, LeO (kauditlaw25_LogfileFrames.l1 k y0 y1 y2 y3 y4 y5) (kauditlaw25_LogfileFrames.l1 (k + 1) y0 y1 y2 y3 y4 y5))
 | 0 => ⟨fun _ _ _ _ _ _ _ _ r h => by simp [kauditlaw25_LogfileFrames.l0] at h, fun _ _ _ _ _ _ r h => by simp [kauditlaw25_LogfileFrames.l1] at h⟩
 | k + 1 => by
  obtain ⟨ih0, ih1⟩ := kauditlaw25_LogfileFrames.mono_l k
  refine ⟨?_, ?_⟩
  ·intro y0 y1 y2 y3 y4 y5 y6 y7
   unfold kauditlaw25_LogfileFrames.l0
   repeat' first
   | (with_reducible exact ih0 _ _ _ _ _ _ _ _)
   | (with_reducible exact ih1 _ _ _ _ _ _)
   | (with_reducible exact kauditlaw25_begun.mono _)
   | (with_reducible exact kauditref25_Frame.mono _ _ _ _ _)
   | (with_reducible exact kauditref25_Head.mono _ _ _ _ _)
   | (with_reducible exact logfile_Frame.mono _ _ _ _ _)
   | (with_reducible exact logfile_Head.mono _ _ _ _ _)
   | (with_reducible exact LeO.refl _)
   | (with_reducible exact LeO.none _)
   | (with_reducible refine LeO.ite ?_ ?_)
   | (with_reducible refine LeO.bind ?_ (fun _ => ?_))
   | exact ih0 _ _ _ _ _ _ _ _
   | exact ih1 _ _ _ _ _ _
   | exact kauditlaw25_begun.mono _
   | exact kauditref25_Frame.mono _ _ _ _ _
   | exact kauditref25_Head.mono _ _ _ _ _
   | exact logfile_Frame.mono _ _ _ _ _
   | exact logfile_Head.mono _ _ _ _ _
   | exact LeO.none _
   | refine LeO.ite ?_ ?_
   | refine LeO.bind ?_ (fun _ => ?_)
  ·intro y0 y1 y2 y3 y4 y5
   unfold kauditlaw25_LogfileFrames.l1
   repeat' first
   | (with_reducible exact ih0 _ _ _ _ _ _ _ _)
   | (with_reducible exact ih1 _ _ _ _ _ _)
   | (with_reducible exact kauditlaw25_begun.mono _)
   | (with_reducible exact kauditref25_Frame.mono _ _ _ _ _)
   | (with_reducible exact kauditref25_Head.mono _ _ _ _ _)
   | (with_reducible exact logfile_Frame.mono _ _ _ _ _)
   | (with_reducible exact logfile_Head.mono _ _ _ _ _)
   | (with_reducible exact LeO.refl _)
   | (with_reducible exact LeO.none _)
   | (with_reducible refine LeO.ite ?_ ?_)
   | (with_reducible refine LeO.bind ?_ (fun _ => ?_))
   | exact ih0 _ _ _ _ _ _ _ _
   | exact ih1 _ _ _ _ _ _
   | exact kauditlaw25_begun.mono _
   | exact kauditref25_Frame.mono _ _ _ _ _
   | exact kauditref25_Head.mono _ _ _ _ _
   | exact logfile_Frame.mono _ _ _ _ _
   | exact logfile_Head.mono _ _ _ _ _
   | exact LeO.none _
   | refine LeO.ite ?_ ?_
   | refine LeO.bind ?_ (fun _ => ?_)
theorem kauditlaw25_LogfileFrames.mono : ∀ a0 a1 a2 a3 a4 a5 k, LeO (kauditlaw25_LogfileFrames.f k a0 a1 a2 a3 a4 a5) (kauditlaw25_LogfileFrames.f (k + 1) a0 a1 a2 a3 a4 a5) := by
 intro a0 a1 a2 a3 a4 a5 k
 obtain ⟨ih0, ih1⟩ := kauditlaw25_LogfileFrames.mono_l k
 unfold kauditlaw25_LogfileFrames.f
 repeat' first
   | (with_reducible exact ih0 _ _ _ _ _ _ _ _)
   | (with_reducible exact ih1 _ _ _ _ _ _)
   | (with_reducible exact kauditlaw25_begun.mono _)
   | (with_reducible exact kauditref25_Frame.mono _ _ _ _ _)
   | (with_reducible exact kauditref25_Head.mono _ _ _ _ _)
   | (with_reducible exact logfile_Frame.mono _ _ _ _ _)
   | (with_reducible exact logfile_Head.mono _ _ _ _ _)
   | (with_reducible exact LeO.refl _)
   | (with_reducible exact LeO.none _)
   | (with_reducible refine LeO.ite ?_ ?_)
   | (with_reducible refine LeO.bind ?_ (fun _ => ?_))
   | exact ih0 _ _ _ _ _ _ _ _
   | exact ih1 _ _ _ _ _ _
   | exact kauditlaw25_begun.mono _
   | exact kauditref25_Frame.mono _ _ _ _ _
   | exact kauditref25_Head.mono _ _ _ _ _
   | exact logfile_Frame.mono _ _ _ _ _
   | exact logfile_Head.mono _ _ _ _ _
   | exact LeO.none _
   | refine LeO.ite ?_ ?_
   | refine LeO.bind ?_ (fun _ => ?_)
set_option maxHeartbeats 8000000 in
set_option maxRecDepth 100000 in
theorem kauditlaw25_LogfileFrames.calls (k : Nat) (a0_0 : Int) (a0_1 : Int) (a1 : Int) (P2_ : Nat → Prop) (A2 : Option Addr) (c2 : Nat) (l2 : List Int) (a3 : Int) (a4 : Int) (r : Bool) (w : World) (hG : GT 2 w) (hrt : r = true) (hs2 : Kd.V (Kd.int .u8) 5 w w.heap.size (fun k_ => P2_ k_) (.slice A2 l2.length c2) l2) (h : kauditlaw25_LogfileFrames.f k a0_0 a0_1 a1 l2 a3 a4 = some r) :
  Calls Tryd.prog 14 #[.agg #[.int .u64 a0_0, .int .u64 a0_1], .int .u64 a1, .slice A2 l2.length c2, .int .i64 a3, .int .u16 a4] w fun e w' => e = .returned (.bool r) ∧ Below w.heap.size w w' := by
 have hu80 := Tryd.underlying80
 have HO2 := Zaa.mk (show Kd.V (Kd.int .u8) 5 w w.heap.size (fun k_ => (P2_ k_ ∨ w.heap.size ≤ k_)) (.slice A2 l2.length c2) l2 from Kd.V_mono hs2 (fun k_ hk => .inl hk))
 have HRT := Zaa.mk hrt
 clear hrt
 have HG := Zaa.mk hG
 clear hG
 have HB := Zaa.mk (Below.refl w.heap.size w)
 unfold kauditlaw25_LogfileFrames.f at h
 have H := h
 clear h
 obtain ⟨ji6, hji6⟩ : ∃ j_ : Int, (wrap64 (16382 + (Int.tmod (wrap64 (a4)) 5))) = j_ := ⟨_, rfl⟩
 replace H : (if 0 ≤ (ji6) then (if (ji6 : Int).toNat ≤ 281474976710656 then ((some (([l2, [], (List.replicate (ji6 : Int).toNat 0)] : List (List Int)) : List (List Int))).bind fun y1071 => (kauditlaw25_LogfileFrames.l0 k a1 a3 a4 y1071 (y1071.length : Int) 0 a0_0 a0_1)) else (none)) else (none)) = some r := by first | (rw [hji6] at H; exact H) | (simp only [hji6] at H ⊢; exact H)
 have hji6w : (IntKind.i64.wrap (16382 + (Int.tmod (wrap64 (a4)) 5))) = ji6 := (Zav _).trans hji6
 by_cases c7 : 0 ≤ (ji6)
 ·rw [if_pos c7] at H
  have c7b0 := eq_true c7
  have c7b1 : decide (0 ≤ (ji6)) = true := decide_eq_true c7
  clear c7
  by_cases c8 : (ji6 : Int).toNat ≤ 281474976710656
  ·rw [if_pos c8] at H
   have c8b0 := eq_true c8
   have c8b1 : decide ((ji6 : Int).toNat ≤ 281474976710656) = true := decide_eq_true c8
   clear c8
   obtain ⟨y1068, hy1068⟩ : ∃ y_ : List Int, y_ = (List.replicate (ji6 : Int).toNat 0) := ⟨_, rfl⟩
   replace H : ((some (([l2, [], y1068] : List (List Int)) : List (List Int))).bind fun y1071 => (kauditlaw25_LogfileFrames.l0 k a1 a3 a4 y1071 (y1071.length : Int) 0 a0_0 a0_1)) = some r := by first | (rw [hy1068]; with_reducible exact H) | (have H2_ := (Option.bind_some _ _).symm.trans H; rw [hy1068]; with_reducible exact H2_) | (have H2_ := (Option.bind_some _ _).symm.trans H; with_reducible exact H2_) | with_reducible exact H | (rw [hy1068]; exact H) | exact H
   have Ny1068 := Zaa.mk hy1068
   clear hy1068
   obtain ⟨y1071, hy1071⟩ : ∃ y_ : List (List Int), y_ = (([l2, [], y1068] : List (List Int))) := ⟨_, rfl⟩
   replace H : (kauditlaw25_LogfileFrames.l0 k a1 a3 a4 y1071 (y1071.length : Int) 0 a0_0 a0_1) = some r := by first | (rw [hy1071]; with_reducible exact H) | (have H2_ := (Option.bind_some _ _).symm.trans H; rw [hy1071]; with_reducible exact H2_) | (have H2_ := (Option.bind_some _ _).symm.trans H; with_reducible exact H2_) | with_reducible exact H | (rw [hy1071]; exact H) | exact H
   have Ny1071 := Zaa.mk hy1071
   clear hy1071
   have H' := Zaa.mk H
   clear H
   go_enter Tryd.func14, Tryd.ntmps14
   go_wp2_with (first | ((with_reducible refine Zao (N := 5) rfl ?_); refine Zap ?hg (N := 5) ?hd (cs := #[.int .u64 a0_0, .int .u64 a0_1]) (t := 80) ?hr ?_; (case hd => rfl); (case hg => rfl); (case hr => first | (go_simp; done) | (go_simp; rfl)); intro gb1067 hg w9 hbox hb; replace HO2 := Zaa.mk (Kd.V_below (Kd.V_elderB (by (with_reducible repeat (first | apply Kd.V_alloc | apply Kd.V_drewN | apply Kd.V_drew)); exact HO2.out) gb1067 (Nat.le_of_eq hg.symm)) hb); have BK1067 := Zaa.mk (hbox); have GW1067 := Zaa.mk ((by rw [hg]; exact (Zae (zb1 HB)) : w.heap.size ≤ gb1067)); have GE1067 := Zaa.mk ((by rw [hg]; exact (Zae (zb1 HB)) : w.heap.size ≤ gb1067)); replace HB := Zaa.mk (Zaf (zb1 HB) hb); clear hb hbox hg) | ((with_reducible refine Zao (N := 32) rfl ?_); refine Kd.R_make (Kd.int .u8) _ 5 rfl (N := 32) rfl 28 _ _ rfl ji6 rfl rfl Tryd.underlying28 (.int .u8 0) 1 info5 rfl (by decide) (by omega) 0 (ok := fun _ => True) (okp := fun _ => True) rfl (fun _ hk => hk) trivial (zod) (Nat.le_trans (Nat.mul_le_mul_right _ (zod : ji6.toNat ≤ 281474976710656)) (by omega)) (Below.refl _ _) (Nat.le_refl _) ?_; intro v1069 w10 ho11 hb hg_ hnew_; clear hg_ hnew_; (first | rw [← Ny1068.out] at ho11 | (simp only [Int.reduceToNat] at ho11; rw [← Ny1068.out] at ho11)); replace HO2 := Zaa.mk (Kd.V_elder' (by (with_reducible repeat (first | apply Kd.V_alloc | apply Kd.V_drewN | apply Kd.V_drew)); exact HO2.out) (Kd.R_base ho11) hb); have HO1070 := Zaa.mk (Kd.R_lower (Kd.R_newM (M := fun k_ => (w.heap.size ≤ k_)) ho11 (Zae (zb2 HB GE1067.out)) (fun k_ h_ => h_)) (Zae (zb2 HB GE1067.out))); replace BK1067 := Zaa.mk (Zah (g := gb1067) (o := .cells #[.int .u64 a0_0, .int .u64 a0_1] 80 (0, 0)) (zbk BK1067) hb); replace HB := Zaa.mk (Zaf (zb2 HB GE1067.out) hb); clear hb ho11; obtain ⟨Ao12, co12, eo12⟩ := Kd.R_slice HO1070.out; subst eo12) | ((with_reducible refine Zao (N := 33) rfl ?_); refine Kd.N_lit (Kd.slice 5 (Kd.int .u8)) _ 28 ?hg (N' := 33) ?hd (xs := ([l2, [], y1068] : List (List Int))) (inner := [.slice A2 l2.length c2, .slice none 0 0, .slice Ao12 y1068.length co12]) (ok := (fun k_ => (P2_ k_ ∨ w.heap.size ≤ k_) ∧ k_ ≠ gb1067)) (okp := (fun k_ => (P2_ k_ ∨ w.heap.size ≤ k_) ∧ k_ ≠ gb1067)) ?hr ?hp (fun _ hk => hk) ((show ∀ k_, w10.heap.size ≤ k_ → (fun k_ => (P2_ k_ ∨ w.heap.size ≤ k_) ∧ k_ ≠ gb1067) k_ from fun k_ hk => ⟨(.inr (Nat.le_trans (Zae (zb2 HB GE1067.out)) hk)), Kd.freshB (g := gb1067) (o := .cells #[.int .u64 a0_0, .int .u64 a0_1] 80 (0, 0)) (zbk BK1067) k_ hk⟩) _ (Nat.le_refl _)) (Below.refl _ _) (Nat.le_refl _) (by simp) ?_; (case hd => rfl); (case hg => rfl); (case hr => first | (go_simp; done) | (go_simp; rfl)); (case hp => exact (Reps.one (show Kd.FK (Kd.slice 5 (Kd.int .u8)) _ _ l2 [.slice A2 l2.length c2] from (Kd.FK_slice_mk (Kd.V_reads' (Kd.V_mono (ok' := (fun k_ => (P2_ k_ ∨ w.heap.size ≤ k_) ∧ k_ ≠ gb1067)) (HO2.out) (fun k_ hk => ⟨hk.1.1, hk.1.2⟩))).2.1 (Kd.V_F (Kd.V_mono (ok' := (fun k_ => (P2_ k_ ∨ w.heap.size ≤ k_) ∧ k_ ≠ gb1067)) (HO2.out) (fun k_ hk => ⟨hk.1.1, hk.1.2⟩))))) (Reps.one (show Kd.FK (Kd.slice 5 (Kd.int .u8)) _ _ [] [.slice none 0 0] from (Kd.FK_slice_mk (Nat.le_refl _) (Kd.F_nil _ _ _))) (Reps.one (show Kd.FK (Kd.slice 5 (Kd.int .u8)) _ _ y1068 [.slice Ao12 y1068.length co12] from (Kd.FK_slice_mk (Kd.R_reads' (Kd.R_mono (ok' := (fun k_ => (P2_ k_ ∨ w.heap.size ≤ k_) ∧ k_ ≠ gb1067)) (Kd.R_types (HO1070.out) BK1067.out (by decide)) (fun k_ hk => ⟨(.inr (hk.1.1)), hk.2⟩))).2.1 (Kd.R_F (Kd.R_mono (ok' := (fun k_ => (P2_ k_ ∨ w.heap.size ≤ k_) ∧ k_ ≠ gb1067)) (Kd.R_types (HO1070.out) BK1067.out (by decide)) (fun k_ hk => ⟨(.inr (hk.1.1)), hk.2⟩))))) (Reps.none _ _))))); intro v1072 w13 ho14 hb hg_ hnew_; clear hg_ hnew_; (first | rw [← Ny1071.out] at ho14 | (simp only [Int.reduceToNat] at ho14; rw [← Ny1071.out] at ho14)); replace HO2 := Zaa.mk (Kd.V_elder' (by (with_reducible repeat (first | apply Kd.V_alloc | apply Kd.V_drewN | apply Kd.V_drew)); exact HO2.out) (Kd.N_base ho14) hb); have HO1073 := Zaa.mk (Kd.N_lower ho14 (Zae (zb2 HB GE1067.out))); replace BK1067 := Zaa.mk (Zah (g := gb1067) (o := .cells #[.int .u64 a0_0, .int .u64 a0_1] 80 (0, 0)) (zbk BK1067) hb); replace HB := Zaa.mk (Zaf (zb2 HB GE1067.out) hb); clear HO1070 hb ho14; obtain ⟨Ao15, co15, eo15⟩ := Kd.N_slice HO1073.out; subst eo15))
   go_loopg [35] k (fun kq v35 w' => ∃ (x35_1 : Int), v35 = .int .i64 x35_1 ∧ Zaa (kauditlaw25_LogfileFrames.l0 kq a1 a3 a4 y1071 (y1071.length : Int) x35_1 a0_0 a0_1 = some r) ∧ Zaa (kq ≤ k) ∧ Zaa (Kd.N (Kd.slice 5 (Kd.int .u8)) 28 w' w.heap.size (fun k_ => (P2_ k_ ∨ w.heap.size ≤ k_) ∧ k_ ≠ gb1067) (.slice Ao15 y1071.length co15) y1071) ∧ Zaa (w'.heap[gb1067]? = some (.cells #[.int .u64 a0_0, .int .u64 a0_1] 80 (0, 0))) ∧ Zaa (Below w.heap.size w w'))
   case atStart => exact ⟨(0), (by first | rfl | (simp; done) | (simp [*]; done)), H', ⟨Nat.le_refl _⟩, ⟨by (with_reducible repeat (first | apply Kd.N_alloc | apply Kd.N_drewN | apply Kd.N_drew)); exact HO1073.out⟩, ⟨by (with_reducible repeat (first | refine Zac ?_ _ | refine Zad ?_ | refine Zab ?_ _)); exact BK1067.out⟩, ⟨(zb2 HB GE1067.out)⟩⟩
   case round =>
    clear H'
    (try clear c2)
    (try clear c7)
    (try clear c7b0)
    (try clear c7b1)
    (try clear c8)
    (try clear c8b0)
    (try clear c8b1)
    obtain ⟨x35_1, rfl, HA, HK1, HO_33, BK1067, HB⟩ := hrel
    cases gk with
    | zero => exact absurd HA.out (by simp [kauditlaw25_LogfileFrames.l0])
    | succ k1 =>
     have H := HA.out
     clear HA
     simp only [kauditlaw25_LogfileFrames.l0] at H
     by_cases c16 : x35_1 < (y1071.length : Int)
     ·rw [if_pos c16] at H
      have c16b0 : decide (x35_1 < (y1071.length : Int)) = true := decide_eq_true c16
      clear c16
      by_cases c17 : 0 ≤ x35_1
      ·rw [if_pos c17] at H
       have c17b0 : decide (0 ≤ x35_1) = true := decide_eq_true c17
       clear c17
       by_cases c18 : x35_1 < (y1071.length : Int)
       ·rw [if_pos c18] at H
        have c18b0 : decide (x35_1 < (y1071.length : Int)) = true := decide_eq_true c18
        clear c18
        replace H := Option.bind_eq_some_iff.mp H
        obtain ⟨⟨t1075, t1078, t1079⟩, A190, H⟩ := H
        try dsimp only at H
        have A19 := Zaa.mk A190
        clear A190
        replace H := Option.bind_eq_some_iff.mp H
        obtain ⟨⟨t1080, t1083, t1084⟩, A200, H⟩ := H
        try dsimp only at H
        have A20 := Zaa.mk A200
        clear A200
        by_cases c21 : t1079 = t1084
        ·rw [if_pos c21] at H
         have c21b0 : (t1079 == t1084) = true := beq_iff_eq.mpr c21
         have c21b1 : (t1079 != t1084) = false := bne_eq_false_iff_eq.mpr c21
         clear c21
         by_cases c22 : t1078 = t1083
         ·rw [if_pos c22] at H
          have c22b0 : (t1078 == t1083) = true := beq_iff_eq.mpr c22
          have c22b1 : (t1078 != t1083) = false := bne_eq_false_iff_eq.mpr c22
          clear c22
          replace H := Option.bind_eq_some_iff.mp H
          obtain ⟨t1085, A230, H⟩ := H
          try dsimp only at H
          have A23 := Zaa.mk A230
          clear A230
          by_cases c24 : t1085 = true
          ·subst c24
           rw [if_pos rfl] at H
           have H' := Zaa.mk H
           clear H
           have p1074 : 0 ≤ (x35_1 : Int) := zod
           have q1074 : x35_1 < (y1071.length : Int) := zod
           obtain ⟨ad1074, A1074_0, c1074_0, e1074, hx1074_0, hl1074_0, hi1074_0⟩ := at_L11 (Kd.N_reads' HO_33.out).2.2 x35_1 p1074 q1074
           cases e1074
           obtain ⟨ce1074, hce1074, hMe1074, hcc1074⟩ := Kd.N_get HO_33.out [] x35_1 p1074 (by first | exact q1074 | exact zod | (have e_ := (Kd.N_reads' HO_33.out).1; omega))
           obtain ⟨ua1074_0, uc1074_0, rfl, ul1074_0, ge1074_0⟩ := Kd.FK_slice_open hMe1074
           have hv1074_0 := hcc1074 0 _ rfl
           rw [Nat.add_zero, show ((Kd.slice 5 (Kd.int .u8))).sz = 1 from rfl, Nat.mul_one] at hv1074_0
           replace hv1074_0 := Option.some.inj (hv1074_0.symm.trans hx1074_0)
           injection hv1074_0 with hva_ hvn_ hvc_
           rw [hva_] at ge1074_0
           rw [hvc_] at ul1074_0
           have HL1074_0 := Zaa.mk (show Kd.V (Kd.int .u8) 5 _ w.heap.size _ _ (rd_L11 y1071 x35_1) from Kd.V_mk ul1074_0 ge1074_0)
           clear hva_ hvn_ hvc_ ge1074_0 ul1074_0 hcc1074 hce1074
           have HR1074_0 := Zaa.mk hi1074_0
           have HC1074_0 := Zaa.mk hl1074_0
           clear hi1074_0 hl1074_0
           replace p1074 := eq_true p1074
           replace q1074 := eq_true q1074
           obtain ⟨hcz25_0, hcz25_1⟩ := bc2 BK1067.out
           obtain ⟨hfz25_0, hfz25_1⟩ := bf2 BK1067.out
           go_wp2_with (first | ((with_reducible refine Zal (f := 60) rfl ?_); refine Za2 (some 43) rfl rfl Tryd.func60 (by kernel_rfl) rfl #[.agg #[.int .u64 a0_0, .int .u64 a0_1], .int .u64 a1, .slice A1074_0 (rd_L11 y1071 x35_1).length c1074_0] rfl zam ?_; (with_reducible refine (logfile_Frame.calls k1 a0_0 a0_1 a1 _ _ (rd_L11 y1071 x35_1) t1075 t1078 t1079 _ ?side1 ?side2 A19.out).mono ?_); (case side1 => repeat (first | exact (by repeat (first | (with_reducible exact HR1074_0.out) | (with_reducible refine Kd.C_alloc ?_ _) | (with_reducible refine Kd.C_drewN ?_ _) | (with_reducible refine Kd.C_drew ?_) | exact HR1074_0.out)) | (with_reducible refine Kd.C_alloc ?_ _) | (with_reducible refine Kd.C_drewN ?_ _) | (with_reducible refine Kd.C_drew ?_))); (case side2 => exact HC1074_0.out); rintro e w26 ⟨v1076, rfl, ho0, hb⟩; refine ⟨_, rfl, ?_⟩; replace HO_33 := Zaa.mk (Kd.N_elder' (by (with_reducible repeat (first | apply Kd.N_alloc | apply Kd.N_drewN | apply Kd.N_drew)); exact HO_33.out) (Kd.R_base ho0) hb); replace HL1074_0 := Zaa.mk (Kd.V_elder' (by (with_reducible repeat (first | apply Kd.V_alloc | apply Kd.V_drewN | apply Kd.V_drew)); exact HL1074_0.out) (Kd.R_base ho0) hb); have HO1077 := Zaa.mk (Kd.R_lower (Kd.R_newM (M := fun k_ => (w.heap.size ≤ k_)) ho0 (Zae (zb2 HB GE1067.out)) (fun k_ h_ => h_)) (Zae (zb2 HB GE1067.out))); replace BK1067 := Zaa.mk (Zah (g := gb1067) (o := .cells #[.int .u64 a0_0, .int .u64 a0_1] 80 (0, 0)) (zbk BK1067) hb); replace HR1074_0 := Zaa.mk (Kd.C_below (by repeat (first | (with_reducible exact HR1074_0.out) | (with_reducible refine Kd.C_alloc ?_ _) | (with_reducible refine Kd.C_drewN ?_ _) | (with_reducible refine Kd.C_drew ?_) | exact HR1074_0.out)) hb); replace HB := Zaa.mk (Zaf (zb2 HB GE1067.out) hb); (try clear hb); (try clear ho0); obtain ⟨hcz27_0, hcz27_1⟩ := bc2 BK1067.out; obtain ⟨hfz27_0, hfz27_1⟩ := bf2 BK1067.out) | ((with_reducible refine Zal (f := 61) rfl ?_); refine Za2 (some 51) rfl rfl Tryd.func61 (by kernel_rfl) rfl #[.agg #[.int .u64 a0_0, .int .u64 a0_1], .int .u64 a1, .slice A1074_0 (rd_L11 y1071 x35_1).length c1074_0] rfl zam ?_; (with_reducible refine (kauditref25_Frame.calls k1 a0_0 a0_1 a1 _ _ (rd_L11 y1071 x35_1) t1080 t1083 t1084 _ ?side1 ?side2 A20.out).mono ?_); (case side1 => repeat (first | exact (by repeat (first | (with_reducible exact HR1074_0.out) | (with_reducible refine Kd.C_alloc ?_ _) | (with_reducible refine Kd.C_drewN ?_ _) | (with_reducible refine Kd.C_drew ?_) | exact HR1074_0.out)) | (with_reducible refine Kd.C_alloc ?_ _) | (with_reducible refine Kd.C_drewN ?_ _) | (with_reducible refine Kd.C_drew ?_))); (case side2 => exact HC1074_0.out); rintro e w28 ⟨v1081, rfl, ho0, hb⟩; refine ⟨_, rfl, ?_⟩; replace HO_33 := Zaa.mk (Kd.N_elder' (by (with_reducible repeat (first | apply Kd.N_alloc | apply Kd.N_drewN | apply Kd.N_drew)); exact HO_33.out) (Kd.R_base ho0) hb); replace HL1074_0 := Zaa.mk (Kd.V_elder' (by (with_reducible repeat (first | apply Kd.V_alloc | apply Kd.V_drewN | apply Kd.V_drew)); exact HL1074_0.out) (Kd.R_base ho0) hb); have HO1082 := Zaa.mk (Kd.R_lower (Kd.R_new' (Kd.R_newM (M := fun k_ => (w.heap.size ≤ k_)) ho0 (Zae (zb2 HB GE1067.out)) (fun k_ h_ => h_)) (Kd.R_lt (zrk HO1077))) (Zae (zb2 HB GE1067.out))); replace HO1077 := Zaa.mk (Kd.R_elder' (zrk HO1077) (Kd.R_base ho0) hb); replace BK1067 := Zaa.mk (Zah (g := gb1067) (o := .cells #[.int .u64 a0_0, .int .u64 a0_1] 80 (0, 0)) (zbk BK1067) hb); replace HR1074_0 := Zaa.mk (Kd.C_below (by repeat (first | (with_reducible exact HR1074_0.out) | (with_reducible refine Kd.C_alloc ?_ _) | (with_reducible refine Kd.C_drewN ?_ _) | (with_reducible refine Kd.C_drew ?_) | exact HR1074_0.out)) hb); replace HB := Zaa.mk (Zaf (zb2 HB GE1067.out) hb); (try clear hb); (try clear ho0); obtain ⟨Ao29, co29, eo29⟩ := Kd.R_slice HO1077.out; subst eo29; obtain ⟨Ao30, co30, eo30⟩ := Kd.R_slice HO1082.out; subst eo30) | (go_at_call 59; (with_reducible refine (kauditref24_SameBytes.calls _ _ t1075 _ _ t1080 true _ ?side1 ?side2 ?side3 ?side4 A23.out).mono ?_); (case side1 => repeat (first | exact (Kd.R_reads' HO1077.out).2.2 | (with_reducible refine Kd.C_alloc ?_ _) | (with_reducible refine Kd.C_drewN ?_ _) | (with_reducible refine Kd.C_drew ?_))); (case side2 => exact (Kd.R_reads' HO1077.out).2.1); (case side3 => repeat (first | exact (Kd.R_reads' HO1082.out).2.2 | (with_reducible refine Kd.C_alloc ?_ _) | (with_reducible refine Kd.C_drewN ?_ _) | (with_reducible refine Kd.C_drew ?_))); (case side4 => exact (Kd.R_reads' HO1082.out).2.1); rintro e w' ⟨rfl, ⟨nd, rfl⟩⟩))
           go_roundg k1
           case measure => have := HK1.out; omega
           case rel => exact ⟨(wrap64 (x35_1 + 1)), (by first | rfl | (simp; done) | (simp [*]; done)), H', ⟨by have := HK1.out; omega⟩, ⟨by (with_reducible repeat (first | apply Kd.N_alloc | apply Kd.N_drewN | apply Kd.N_drew)); exact Kd.N_mono HO_33.out (fun _ hk => ⟨hk.1.1.1, hk.1.1.2⟩)⟩, ⟨by (with_reducible repeat (first | refine Zac ?_ _ | refine Zad ?_ | refine Zab ?_ _)); exact BK1067.out⟩, ⟨(zb2 HB GE1067.out)⟩⟩
          ·replace c24 := Bool.eq_false_iff.mpr c24
           subst c24
           rw [if_neg (show ¬ (false = true) by decide)] at H
           exact absurd (Option.some.inj H) (by rw [HRT.out]; decide)
         ·rw [if_neg c22] at H
          have c22b0 : (t1078 == t1083) = false := beq_eq_false_iff_ne.mpr c22
          have c22b1 : (t1078 != t1083) = true := bne_iff_ne.mpr c22
          exact absurd (Option.some.inj H) (by rw [HRT.out]; decide)
        ·rw [if_neg c21] at H
         have c21b0 : (t1079 == t1084) = false := beq_eq_false_iff_ne.mpr c21
         have c21b1 : (t1079 != t1084) = true := bne_iff_ne.mpr c21
         exact absurd (Option.some.inj H) (by rw [HRT.out]; decide)
       ·rw [if_neg c18] at H
        exact absurd H (by simp)
      ·rw [if_neg c17] at H
       exact absurd H (by simp)
     ·rw [if_neg c16] at H
      have c16b0 : decide (x35_1 < (y1071.length : Int)) = false := decide_eq_false c16
      clear c16
      obtain ⟨y1086, hy1086⟩ : ∃ y_ : List Int, y_ = (([a3, wrap64 (1 + (Int.tmod (wrap64 (a4)) 1000)), 0, 1001] : List Int)) := ⟨_, rfl⟩
      replace H : (kauditlaw25_LogfileFrames.l1 k1 a1 y1086 (y1086.length : Int) 0 a0_0 a0_1) = some r := by first | (rw [hy1086]; with_reducible exact H) | (have H2_ := (Option.bind_some _ _).symm.trans H; rw [hy1086]; with_reducible exact H2_) | (have H2_ := (Option.bind_some _ _).symm.trans H; with_reducible exact H2_) | with_reducible exact H | (rw [hy1086]; exact H) | exact H
      have Ny1086 := Zaa.mk hy1086
      clear hy1086
      have H' := Zaa.mk H
      clear H
      go_wp2_with (first | ((with_reducible refine Zao (N := 75) rfl ?_); refine Kd.R_lit (Kd.int .i64) _ 3 ?hg (N := 75) ?hd (xs := ([a3, wrap64 (1 + (Int.tmod (wrap64 (a4)) 1000)), 0, 1001] : List Int)) (inner := [.int .i64 a3, .int .i64 (wrap64 (1 + (Int.tmod (wrap64 (a4)) 1000))), .int .i64 0, .int .i64 1001]) (ok := fun _ => True) (okp := fun _ => True) ?hr ?hp (fun _ hk => hk) trivial (Below.refl _ _) (Nat.le_refl _) (by simp) ?_; (case hd => rfl); (case hg => rfl); (case hr => first | (go_simp; done) | (go_simp; rfl)); (case hp => exact (Reps.one (show Kd.M (Kd.int .i64) _ _ _ a3 [.int .i64 a3] from rfl) (Reps.one (show Kd.M (Kd.int .i64) _ _ _ (wrap64 (1 + (Int.tmod (wrap64 (a4)) 1000))) [.int .i64 (wrap64 (1 + (Int.tmod (wrap64 (a4)) 1000)))] from rfl) (Reps.one (show Kd.M (Kd.int .i64) _ _ _ 0 [.int .i64 0] from rfl) (Reps.one (show Kd.M (Kd.int .i64) _ _ _ 1001 [.int .i64 1001] from rfl) (Reps.none _ _)))))); intro v1087 w31 ho32 hb hg_ hnew_; clear hg_ hnew_; (first | rw [← Ny1086.out] at ho32 | (simp only [Int.reduceToNat] at ho32; rw [← Ny1086.out] at ho32)); replace HO_33 := Zaa.mk (Kd.N_elder' (by (with_reducible repeat (first | apply Kd.N_alloc | apply Kd.N_drewN | apply Kd.N_drew)); exact HO_33.out) (Kd.R_base ho32) hb); have HO1088 := Zaa.mk (Kd.R_lower (Kd.R_newM (M := fun k_ => (w.heap.size ≤ k_)) ho32 (Zae (zb2 HB GE1067.out)) (fun k_ h_ => h_)) (Zae (zb2 HB GE1067.out))); replace BK1067 := Zaa.mk (Zah (g := gb1067) (o := .cells #[.int .u64 a0_0, .int .u64 a0_1] 80 (0, 0)) (zbk BK1067) hb); replace HB := Zaa.mk (Zaf (zb2 HB GE1067.out) hb); clear hb ho32; obtain ⟨Ao33, co33, eo33⟩ := Kd.R_slice HO1088.out; subst eo33))
      go_loopg [77] k1 (fun kq v77 w' => ∃ (x77_2 : Int), v77 = .int .i64 x77_2 ∧ Zaa (kauditlaw25_LogfileFrames.l1 kq a1 y1086 (y1086.length : Int) x77_2 a0_0 a0_1 = some r) ∧ Zaa (kq ≤ k1) ∧ Zaa (Kd.R (Kd.int .i64) 3 w' w.heap.size (fun k_ => (w.heap.size ≤ k_)) (.slice Ao33 y1086.length co33) y1086) ∧ Zaa (w'.heap[gb1067]? = some (.cells #[.int .u64 a0_0, .int .u64 a0_1] 80 (0, 0))) ∧ Zaa (Below w.heap.size w w'))
      case atStart => exact ⟨(0), (by first | rfl | (simp; done) | (simp [*]; done)), H', ⟨Nat.le_refl _⟩, ⟨by (with_reducible repeat (first | apply Kd.R_alloc | apply Kd.R_drewN | apply Kd.R_drew)); exact Kd.R_mono HO1088.out (fun _ hk => hk.1)⟩, ⟨by (with_reducible repeat (first | refine Zac ?_ _ | refine Zad ?_ | refine Zab ?_ _)); exact BK1067.out⟩, ⟨(zb2 HB GE1067.out)⟩⟩
      case round =>
       clear H'
       (try clear c2)
       (try clear c7)
       (try clear c7b0)
       (try clear c7b1)
       (try clear c8)
       (try clear c8b0)
       (try clear c8b1)
       (try clear c16)
       (try clear c16b0)
       obtain ⟨x77_2, rfl, HA, HK2, HO_75, BK1067, HB⟩ := hrel
       cases gk with
       | zero => exact absurd HA.out (by simp [kauditlaw25_LogfileFrames.l1])
       | succ k2 =>
        have H := HA.out
        clear HA
        simp only [kauditlaw25_LogfileFrames.l1] at H
        by_cases c34 : x77_2 < (y1086.length : Int)
        ·rw [if_pos c34] at H
         have c34b0 : decide (x77_2 < (y1086.length : Int)) = true := decide_eq_true c34
         clear c34
         by_cases c35 : 0 ≤ x77_2
         ·rw [if_pos c35] at H
          have c35b0 : decide (0 ≤ x77_2) = true := decide_eq_true c35
          clear c35
          by_cases c36 : x77_2 < (y1086.length : Int)
          ·rw [if_pos c36] at H
           have c36b0 : decide (x77_2 < (y1086.length : Int)) = true := decide_eq_true c36
           clear c36
           replace H := Option.bind_eq_some_iff.mp H
           obtain ⟨⟨t1091, t1094, t1095⟩, A370, H⟩ := H
           try dsimp only at H
           have A37 := Zaa.mk A370
           clear A370
           replace H := Option.bind_eq_some_iff.mp H
           obtain ⟨⟨t1096, t1099, t1100⟩, A380, H⟩ := H
           try dsimp only at H
           have A38 := Zaa.mk A380
           clear A380
           by_cases c39 : t1095 = t1100
           ·rw [if_pos c39] at H
            have c39b0 : (t1095 == t1100) = true := beq_iff_eq.mpr c39
            have c39b1 : (t1095 != t1100) = false := bne_eq_false_iff_eq.mpr c39
            clear c39
            by_cases c40 : t1094 = t1099
            ·rw [if_pos c40] at H
             have c40b0 : (t1094 == t1099) = true := beq_iff_eq.mpr c40
             have c40b1 : (t1094 != t1099) = false := bne_eq_false_iff_eq.mpr c40
             clear c40
             replace H := Option.bind_eq_some_iff.mp H
             obtain ⟨t1101, A410, H⟩ := H
             try dsimp only at H
             have A41 := Zaa.mk A410
             clear A410
             by_cases c42 : t1101 = true
             ·subst c42
              rw [if_pos rfl] at H
              have H' := Zaa.mk H
              clear H
              have p1090 : 0 ≤ (x77_2 : Int) := zod
              have q1090 : x77_2 < (y1086.length : Int) := zod
              obtain ⟨ad1090, e1090, hx1090_0⟩ := Kd.at_int (Kd.R_reads' HO_75.out).2.2 x77_2 p1090 q1090
              cases e1090
              replace p1090 := eq_true p1090
              replace q1090 := eq_true q1090
              obtain ⟨hcz43_0, hcz43_1⟩ := bc2 BK1067.out
              obtain ⟨hfz43_0, hfz43_1⟩ := bf2 BK1067.out
              go_wp2_with (first | ((with_reducible refine Zal (f := 62) rfl ?_); refine Za2 (some 85) rfl rfl Tryd.func62 (by kernel_rfl) rfl #[.agg #[.int .u64 a0_0, .int .u64 a0_1], .int .i64 (rd y1086 x77_2), .int .u64 a1] rfl zam ?_; (with_reducible refine (logfile_Head.calls k2 a0_0 a0_1 (rd y1086 x77_2) a1 t1091 t1094 t1095 _ A37.out).mono ?_); rintro e w44 ⟨v1092, rfl, ho0, hb⟩; refine ⟨_, rfl, ?_⟩; replace HO_75 := Zaa.mk (Kd.R_below (zrk HO_75) hb); have HO1093 := Zaa.mk (Kd.R_lower (Kd.R_newM (M := fun k_ => (w.heap.size ≤ k_)) ho0 (Zae (zb2 HB GE1067.out)) (fun k_ h_ => h_)) (Zae (zb2 HB GE1067.out))); replace BK1067 := Zaa.mk (Zah (g := gb1067) (o := .cells #[.int .u64 a0_0, .int .u64 a0_1] 80 (0, 0)) (zbk BK1067) hb); replace HB := Zaa.mk (Zaf (zb2 HB GE1067.out) hb); (try clear hb); (try clear ho0); obtain ⟨hcz45_0, hcz45_1⟩ := bc2 BK1067.out; obtain ⟨hfz45_0, hfz45_1⟩ := bf2 BK1067.out) | ((with_reducible refine Zal (f := 63) rfl ?_); refine Za2 (some 93) rfl rfl Tryd.func63 (by kernel_rfl) rfl #[.agg #[.int .u64 a0_0, .int .u64 a0_1], .int .i64 (rd y1086 x77_2), .int .u64 a1] rfl zam ?_; (with_reducible refine (kauditref25_Head.calls k2 a0_0 a0_1 (rd y1086 x77_2) a1 t1096 t1099 t1100 _ A38.out).mono ?_); rintro e w46 ⟨v1097, rfl, ho0, hb⟩; refine ⟨_, rfl, ?_⟩; replace HO_75 := Zaa.mk (Kd.R_below (zrk HO_75) hb); have HO1098 := Zaa.mk (Kd.R_lower (Kd.R_new' (Kd.R_newM (M := fun k_ => (w.heap.size ≤ k_)) ho0 (Zae (zb2 HB GE1067.out)) (fun k_ h_ => h_)) (Kd.R_lt (zrk HO1093))) (Zae (zb2 HB GE1067.out))); replace HO1093 := Zaa.mk (Kd.R_elder' (zrk HO1093) (Kd.R_base ho0) hb); replace BK1067 := Zaa.mk (Zah (g := gb1067) (o := .cells #[.int .u64 a0_0, .int .u64 a0_1] 80 (0, 0)) (zbk BK1067) hb); replace HB := Zaa.mk (Zaf (zb2 HB GE1067.out) hb); (try clear hb); (try clear ho0); obtain ⟨Ao47, co47, eo47⟩ := Kd.R_slice HO1093.out; subst eo47; obtain ⟨Ao48, co48, eo48⟩ := Kd.R_slice HO1098.out; subst eo48) | (go_at_call 59; (with_reducible refine (kauditref24_SameBytes.calls _ _ t1091 _ _ t1096 true _ ?side1 ?side2 ?side3 ?side4 A41.out).mono ?_); (case side1 => repeat (first | exact (Kd.R_reads' HO1093.out).2.2 | (with_reducible refine Kd.C_alloc ?_ _) | (with_reducible refine Kd.C_drewN ?_ _) | (with_reducible refine Kd.C_drew ?_))); (case side2 => exact (Kd.R_reads' HO1093.out).2.1); (case side3 => repeat (first | exact (Kd.R_reads' HO1098.out).2.2 | (with_reducible refine Kd.C_alloc ?_ _) | (with_reducible refine Kd.C_drewN ?_ _) | (with_reducible refine Kd.C_drew ?_))); (case side4 => exact (Kd.R_reads' HO1098.out).2.1); rintro e w' ⟨rfl, ⟨nd, rfl⟩⟩))
              go_roundg k2
              case measure => have := HK1.out; have := HK2.out; omega
              case rel => exact ⟨(wrap64 (x77_2 + 1)), (by first | rfl | (simp; done) | (simp [*]; done)), H', ⟨by have := HK1.out; have := HK2.out; omega⟩, ⟨by (with_reducible repeat (first | apply Kd.R_alloc | apply Kd.R_drewN | apply Kd.R_drew)); exact HO_75.out⟩, ⟨by (with_reducible repeat (first | refine Zac ?_ _ | refine Zad ?_ | refine Zab ?_ _)); exact BK1067.out⟩, ⟨(zb2 HB GE1067.out)⟩⟩
             ·replace c42 := Bool.eq_false_iff.mpr c42
              subst c42
              rw [if_neg (show ¬ (false = true) by decide)] at H
              exact absurd (Option.some.inj H) (by rw [HRT.out]; decide)
            ·rw [if_neg c40] at H
             have c40b0 : (t1094 == t1099) = false := beq_eq_false_iff_ne.mpr c40
             have c40b1 : (t1094 != t1099) = true := bne_iff_ne.mpr c40
             exact absurd (Option.some.inj H) (by rw [HRT.out]; decide)
           ·rw [if_neg c39] at H
            have c39b0 : (t1095 == t1100) = false := beq_eq_false_iff_ne.mpr c39
            have c39b1 : (t1095 != t1100) = true := bne_iff_ne.mpr c39
            exact absurd (Option.some.inj H) (by rw [HRT.out]; decide)
          ·rw [if_neg c36] at H
           exact absurd H (by simp)
         ·rw [if_neg c35] at H
          exact absurd H (by simp)
        ·rw [if_neg c34] at H
         have c34b0 : decide (x77_2 < (y1086.length : Int)) = false := decide_eq_false c34
         clear c34
         replace H := Option.bind_eq_some_iff.mp H
         obtain ⟨t1089, A490, H⟩ := H
         try dsimp only at H
         have A49 := Zaa.mk A490
         clear A490
         obtain rfl := Option.some.inj H
         go_wp2_with (first | ((with_reducible refine Zal (f := 56) rfl ?_); refine Za2 (some 112) rfl rfl Tryd.func56 (by kernel_rfl) rfl #[] rfl zam ?_; (with_reducible refine (kauditlaw25_begun.calls k2  t1089 _ ?side1 A49.out).mono ?_); (case side1 => exact GT.below (by decide) HG.out (zb2 HB GE1067.out)); rintro e w50 ⟨rfl, hb⟩; refine ⟨_, rfl, ?_⟩; replace HO_75 := Zaa.mk (Kd.R_below (zrk HO_75) hb); replace BK1067 := Zaa.mk (Zah (g := gb1067) (o := .cells #[.int .u64 a0_0, .int .u64 a0_1] 80 (0, 0)) (zbk BK1067) hb); replace HB := Zaa.mk (Zaf (zb2 HB GE1067.out) hb); (try clear hb)))
         go_ret
         exact ⟨by first | rfl | (simp [errW_none, errW_some] <;> rfl) | (simp only [← hji6]; first | rfl | (simp [errW_none, errW_some] <;> rfl)) | (simp [*, errW_none, errW_some] <;> rfl), (zb2 HB GE1067.out)⟩
  ·rw [if_neg c8] at H
   exact absurd H (by simp)
 ·rw [if_neg c7] at H
  exact absurd H (by simp)
end Go.Proofs.YtkfddpbmclbdhaaDoor.PA
end
