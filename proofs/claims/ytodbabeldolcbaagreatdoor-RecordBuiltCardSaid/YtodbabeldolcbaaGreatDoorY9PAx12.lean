/- Contracts of functions of the program: written by pr2.py (ours, round the print of the kit) out of the translation; conditions: each contract names its own. -/
import Derived.Test.YtodbabeldolcbaaGreatDoorY9PAx11
noncomputable section
namespace Go.Proofs.YtodbabeldolcbaaGreatDoor.PA
open Go.RowKit Go.Proofs.YtodbabeldolcbaaGreatDoorW.PrintWords Go.Proofs.YtodbabeldolcbaaGreatDoorW.PrintLast Go.Proofs.YtodbabeldolcbaaGreatDoorW.PrintMore
attribute [local go_sem] Zbg Zbe Zbs Zbr Za8 Za7 Zbf Zbd   -- for this text's walks alone
set_option linter.unusedVariables false
set_option linter.unusedSimpArgs false
def kauditlaw03_RecordBuilt.f (k : Nat) (l0 : List Int) (a1 : Int) : Option (Bool) := (kauditmake_New.f l0).bind fun bt260 => ((kauditmake_Src_Record.f k bt260.1 bt260.2).bind fun bt263 => ((kauditlaw03_agrees.f k bt263.1 bt263.2.1 bt263.2.2.1 bt263.2.2.2.1).bind fun t271 => (if t271 = true then ((kauditref03_Format.f k bt263.1 bt263.2.1 bt263.2.2.1 bt263.2.2.2.1).bind fun bt272 => (if (bt272.1.size : Int) = 0 then ((kauditlaw03_awake.f).bind fun t274 => (some t274)) else ((kauditmake_Src_N.f bt260.1 bt263.2.2.2.2 (bt272.1.size : Int)).bind fun bt275 => ((kauditlaw03_reads.f k bt272.1).bind fun t277 => (if t277 = true then (if 0 ≤ bt275.1 then (if bt275.1 ≤ (bt272.1.size : Int) then ((some (([a1] : List Int) : List Int)).bind fun y278 => (if (bt272.1.extract 0 (bt275.1 : Int).toNat).size + (strOfNums y278).size ≤ 9223372036854775807 then (if 0 ≤ (wrap64 (bt275.1 + 1)) then (if (wrap64 (bt275.1 + 1)) ≤ (bt272.1.size : Int) then (if ((bt272.1.extract 0 (bt275.1 : Int).toNat) ++ (strOfNums y278)).size + (bt272.1.extract ((wrap64 (bt275.1 + 1)) : Int).toNat bt272.1.size).size ≤ 9223372036854775807 then ((kauditlaw03_reads.f k (((bt272.1.extract 0 (bt275.1 : Int).toNat) ++ (strOfNums y278)) ++ (bt272.1.extract ((wrap64 (bt275.1 + 1)) : Int).toNat bt272.1.size))).bind fun t281 => (if t281 = true then (if (bt272.1.extract 0 (bt275.1 : Int).toNat).size + (bt272.1.extract ((wrap64 (bt275.1 + 1)) : Int).toNat bt272.1.size).size ≤ 9223372036854775807 then ((kauditlaw03_reads.f k ((bt272.1.extract 0 (bt275.1 : Int).toNat) ++ (bt272.1.extract ((wrap64 (bt275.1 + 1)) : Int).toNat bt272.1.size))).bind fun t282 => (if t282 = true then ((some (([a1] : List Int) : List Int)).bind fun y283 => (if (bt272.1.extract 0 (bt275.1 : Int).toNat).size + (strOfNums y283).size ≤ 9223372036854775807 then (if ((bt272.1.extract 0 (bt275.1 : Int).toNat) ++ (strOfNums y283)).size + (bt272.1.extract (bt275.1 : Int).toNat bt272.1.size).size ≤ 9223372036854775807 then ((kauditlaw03_reads.f k (((bt272.1.extract 0 (bt275.1 : Int).toNat) ++ (strOfNums y283)) ++ (bt272.1.extract (bt275.1 : Int).toNat bt272.1.size))).bind fun t286 => (if t286 = true then (if bt272.1.size + 1 ≤ 9223372036854775807 then ((kauditlaw03_reads.f k (bt272.1 ++ (⟨#[32]⟩ : ByteArray))).bind fun t287 => (if t287 = true then ((kauditlaw03_awake.f).bind fun t288 => (some t288)) else (some false))) else (none)) else (some false))) else (none)) else (none))) else (some false))) else (none)) else (some false))) else (none)) else (none)) else (none)) else (none))) else (none)) else (none)) else (some false)))))) else (some false))))
theorem kauditlaw03_RecordBuilt.mono : ∀ a0 a1 k, LeO (kauditlaw03_RecordBuilt.f k a0 a1) (kauditlaw03_RecordBuilt.f (k + 1) a0 a1) := by
 intro a0 a1 k
 unfold kauditlaw03_RecordBuilt.f
 repeat' first
   | (with_reducible exact kauditlaw03_agrees.mono _ _ _ _ _)
   | (with_reducible exact kauditlaw03_reads.mono _ _)
   | (with_reducible exact kauditmake_Src_Record.mono _ _ _)
   | (with_reducible exact kauditref03_Format.mono _ _ _ _ _)
   | (with_reducible exact LeO.refl _)
   | (with_reducible exact LeO.none _)
   | (with_reducible refine LeO.ite ?_ ?_)
   | (with_reducible refine LeO.bind ?_ (fun _ => ?_))
   | exact kauditlaw03_agrees.mono _ _ _ _ _
   | exact kauditlaw03_reads.mono _ _
   | exact kauditmake_Src_Record.mono _ _ _
   | exact kauditref03_Format.mono _ _ _ _ _
   | exact LeO.none _
   | refine LeO.ite ?_ ?_
   | refine LeO.bind ?_ (fun _ => ?_)
def kauditlaw03_RecordBuilt.T9 : Bool × List (List Nat × List Nat) := (true, [([], []), ([0], [0]), ([1, 1], [1]), ([2], [2]), ([2], [2]), ([3, 4, 2], [2, 3, 4]), ([2], [2]), ([6, 2], [2, 6]), ([7, 2], [2, 7]), ([5, 8, 2], [2, 5, 8]), ([2], [2]), ([2], [2]), ([11, 2], [2, 11]), ([10, 12, 2], [2, 10, 12]), ([9, 13, 2], [2, 9, 13]), ([14, 2, 2], [2, 14]), ([2, 15], [2, 15]), ([16, 15], [16]), ([17], [17]), ([17], [17]), ([18, 19, 17], [17, 18, 19]), ([17], [17]), ([17], [17]), ([22, 17], [17, 22]), ([21, 23, 17], [17, 21, 23]), ([20, 24, 17], [17, 20, 24]), ([25, 17, 17], [17, 25]), ([17, 26], [17, 26]), ([27, 26], [27]), ([28], [28]), ([28], [28]), ([29, 30, 28], [28, 29, 30]), ([28], [28]), ([32, 28], [28, 32]), ([33, 28], [28, 33]), ([31, 34, 28], [28, 31, 34]), ([28], [28]), ([28], [28]), ([36, 37, 28], [28, 36, 37]), ([35, 38, 28], [28, 35, 38]), ([39, 28, 28], [28, 39]), ([28, 40], [28, 40]), ([41, 40], [41]), ([42], [42]), ([43, 42], [42, 43]), ([44, 42, 42], [42, 44]), ([42, 45], [42, 45]), ([46, 45], [46]), ([47, 47], [47]), ([47, 48], [47, 48]), ([49, 48, 0, 1, 2, 3, 4, 5, 6, 7, 8, 9, 10, 11, 12, 13, 14, 15, 16, 17, 18, 19, 20, 21, 22, 23, 24, 25, 26, 27, 28, 29, 30, 31, 32, 33, 34, 35, 36, 37, 38, 39, 40, 41, 42, 43, 44, 45, 46, 47, 48, 49], [49])])
def kauditlaw03_RecordBuilt.B9 : List Nat := [0, 1, 3, 7, 7, 31, 7, 71, 199, 511, 7, 7, 2055, 7175, 16383, 32767, 65535, 131071, 262143, 262143, 1048575, 262143, 262143, 4456447, 14942207, 33554431, 67108863, 134217727, 268435455, 536870911, 536870911, 2147483647, 536870911, 4831838207, 13421772799, 34359738367, 536870911, 536870911, 206695301119, 549755813887, 1099511627775, 2199023255551, 4398046511103, 8796093022207, 17592186044415, 35184372088831, 70368744177663, 140737488355327, 281474976710655, 562949953421311, 1125899906842623]
theorem kauditlaw03_RecordBuilt.tab9 : rtab .any (opsOf Tryz.f5 9) = kauditlaw03_RecordBuilt.T9 := by kernel_rfl
theorem kauditlaw03_RecordBuilt.bits9 : waitsOk kauditlaw03_RecordBuilt.T9.2 kauditlaw03_RecordBuilt.B9 = true := by kernel_rfl
theorem zl17 {p q : Prop} (x : Zaa q) (h : q → p := by intro h_; repeat (first | (with_reducible first | exact h_ | apply Zaj.alloc | apply Zaj.drewN | apply Zaj.drew | apply Zaj.set_1) | exact h_)) : p := h x.out
theorem zl18 {p q r1 : Prop} (x : Zaa q) (g1_ : r1) (h : q → r1 → p := by intro h_ g1_; repeat (first | (with_reducible first | exact h_ | apply Zaj.alloc | apply Zaj.drewN | apply Zaj.drew | apply Zaj.set_1 | refine Zaj.far ?_ g1_ _) | exact h_)) : p := h x.out g1_
set_option maxHeartbeats 8000000 in
set_option maxRecDepth 100000 in
theorem kauditlaw03_RecordBuilt.calls (k : Nat) (A0 : Option Addr) (c0 : Nat) (l0 : List Int) (a1 : Int) (r : Bool) (w : World) (hG : GT 2 w) (hrt : r = true) (hr0 : Kd.C (Kd.int .i64) w A0 l0.length l0) (hc0 : l0.length ≤ c0) (h : kauditlaw03_RecordBuilt.f k l0 a1 = some r) :
  Calls Tryz.prog 5 #[.slice A0 l0.length c0, .int .u8 a1] w fun e w' => e = .returned (.bool r) ∧ Below w.heap.size w w' := by
 have hu51 := Tryz.underlying51
 have HR0 := Zaa.mk hr0
 have HC0 := Zaa.mk hc0
 clear hr0 hc0
 have HRT := Zaa.mk hrt
 clear hrt
 have HG := Zaa.mk hG
 clear hG
 have HB := Zaa.mk (Below.refl w.heap.size w)
 unfold kauditlaw03_RecordBuilt.f at h
 have H := h
 clear h
 replace H := Option.bind_eq_some_iff.mp H
 obtain ⟨⟨t260, t261⟩, A30, H⟩ := H
 try dsimp only at H
 have A3 := Zaa.mk A30
 clear A30
 replace H := Option.bind_eq_some_iff.mp H
 obtain ⟨⟨t263, t264, t265, t266, t269⟩, A40, H⟩ := H
 try dsimp only at H
 have A4 := Zaa.mk A40
 clear A40
 replace H := Option.bind_eq_some_iff.mp H
 obtain ⟨t271, A50, H⟩ := H
 try dsimp only at H
 have A5 := Zaa.mk A50
 clear A50
 by_cases c6 : t271 = true
 ·subst c6
  rw [if_pos rfl] at H
  replace H := Option.bind_eq_some_iff.mp H
  obtain ⟨⟨t272, t273⟩, A70, H⟩ := H
  try dsimp only at H
  have A7 := Zaa.mk A70
  clear A70
  by_cases c8 : (t272.size : Int) = 0
  ·rw [if_pos c8] at H
   have c8b0 : ((t272.size : Int) == 0) = true := beq_iff_eq.mpr c8
   have c8b1 : ((t272.size : Int) != 0) = false := bne_eq_false_iff_eq.mpr c8
   clear c8
   replace H := Option.bind_eq_some_iff.mp H
   obtain ⟨t274, A90, H⟩ := H
   try dsimp only at H
   have A9 := Zaa.mk A90
   clear A90
   obtain rfl := Option.some.inj H
   go_enter Tryz.func5, Tryz.ntmps5
   go_wp2_with (first | ((with_reducible refine Zam (f := 14) rfl ?_); refine Za1 (some 11) rfl rfl Tryz.func14 (by kernel_rfl) rfl #[.slice A0 l0.length c0] rfl zam ?_; (with_reducible refine (kauditmake_New.calls _ _ l0 t260 t261 w _ ?side1 ?side2 ?side3 A3.out).mono ?_); (case side1 => repeat (first | (with_reducible first | exact HB.out | apply Zal | apply Zar | apply Zau) | exact HB.out)); (case side2 => exact HR0.out); (case side3 => exact HC0.out); rintro e w10 ⟨g262, rfl, hi, hb, hb2⟩; refine ⟨_, rfl, ?_⟩; replace HB := Zaa.mk (hb); have HI262 := Zaa.mk (hi); (try clear hb); (try clear hb2); (try clear hi)) | ((with_reducible refine Zam (f := 15) rfl ?_); refine Za1 (some 13) rfl rfl Tryz.func15 (by kernel_rfl) rfl #[.pointer (some ⟨g262, 0, none⟩)] rfl zam ?_; (with_reducible refine (kauditmake_Src_Record.calls k g262 t260 t261 t263 t264 t265 t266 t269 w _ ?side1 ?side2 A4.out).mono ?_); (case side1 => repeat (first | (with_reducible first | exact HI262.out | apply Zaj.alloc | apply Zaj.drewN | apply Zaj.drew | apply Zaj.set_1) | exact HI262.out)); (case side2 => repeat (first | (with_reducible first | exact HB.out | apply Zal | apply Zar | apply Zau | refine Zag ?_ (Zaj.ge HI262.out)) | exact HB.out)); rintro e w11 ⟨v267, rfl, ho0, hi, hb, hk⟩; refine ⟨_, rfl, ?_⟩; have HO268 := Zaa.mk (Kd.R_lower ho0 (Zai (zb2 HB (Zaj.ge HI262.out)))); replace HB := Zaa.mk (hb); replace HI262 := Zaa.mk (hi); (try clear hb); (try clear hk); (try clear hi); (try clear ho0)) | ((with_reducible refine Zav (N := 6) rfl ?_); (try (refine Zbv (by rfl) ?_; dsimp only)); refine Zaw ?hg (N := 6) ?hd (cs := #[.int .i64 0, .int .i64 0, .int .i64 0, .slice none 0 0]) (t := 51) ?hr ?_; (case hd => rfl); (case hg => rfl); (case hr => first | (go_simp; done) | (go_simp; rfl)); intro gb270 hg w12 hbox hb; replace HO268 := Zaa.mk (Kd.R_below (zrk HO268) hb); have BK270 := Zaa.mk (hbox); have GW270 := Zaa.mk ((by rw [hg]; exact (Zai (zb2 HB (Zaj.ge HI262.out))) : w.heap.size ≤ gb270)); have GE270 := Zaa.mk ((by rw [hg]; exact (Zai (zb2 HB (Zaj.ge HI262.out))) : w.heap.size ≤ gb270)); replace HB := Zaa.mk (Zae (zb2 HB (Zaj.ge HI262.out)) hb); have NB262_270 := Zaa.mk ((by rw [hg]; exact Nat.ne_of_lt (Zaj.lt (show Zaj w _ g262 t260 t269 from (zl17 HI262))) : g262 ≠ gb270)); have NB270_262 := Zaa.mk ((by rw [hg]; exact Nat.ne_of_gt (Zaj.lt (show Zaj w _ g262 t260 t269 from (zl17 HI262))) : gb270 ≠ g262)); replace HI262 := Zaa.mk (Zaj.below (zl17 HI262) hb); clear hb hbox hg; have hnb13 := NB270_262.out; have hnc13 := NB262_270.out; obtain ⟨hcz14_0, hcz14_1, hcz14_2, hcz14_3⟩ := bc4 BK270.out; obtain ⟨hfz14_0, hfz14_1, hfz14_2, hfz14_3⟩ := bf4 BK270.out; obtain ⟨Ao15, co15, eo15⟩ := Kd.R_slice HO268.out; subst eo15) | ((with_reducible refine Zam (f := 16) rfl ?_); refine Za1 (some 15) rfl rfl Tryz.func16 (by kernel_rfl) rfl #[.agg #[.int .i64 t263, .int .i64 t264, .int .i64 t265, .slice Ao15 t266.length co15]] rfl zam ?_; (with_reducible refine (kauditlaw03_agrees.calls k t263 t264 t265 _ _ t266 true _ ?side1 ?side2 ?side3 ?side4 A5.out).mono ?_); (case side1 => exact GT.below (by decide) HG.out (zb6 HB (Zaj.ge HI262.out) GE270.out)); (case side2 => rfl); (case side3 => refine (Kd.R_reads' (e := 88) (base := w.heap.size) (ok := fun k_ => True) (n := t266.length) (c := co15) ?_).2.2; exact (by (with_reducible repeat (first | apply Kd.R_alloc | apply Kd.R_drewN | apply Kd.R_drew)); exact (Kd.R_mono (Kd.R_far (p := ⟨gb270, 3, none⟩) (Kd.R_far (p := ⟨gb270, 2, none⟩) (Kd.R_far (p := ⟨gb270, 1, none⟩) (Kd.R_far (p := ⟨gb270, 0, none⟩) (Kd.R_types HO268.out BK270.out (by decide)) (fun _ hk => hk.2) (.int .i64 t263)) (fun _ hk => hk.2) (.int .i64 t264)) (fun _ hk => hk.2) (.int .i64 t265)) (fun _ hk => hk.2) (.slice Ao15 t266.length co15)) (fun _ h_ => h_.1)))); (case side4 => exact (Kd.R_reads' HO268.out).2.1); rintro e w16 ⟨rfl, hb⟩; refine ⟨_, rfl, ?_⟩; replace HO268 := Zaa.mk (Kd.R_below (by (with_reducible repeat (first | apply Kd.R_alloc | apply Kd.R_drewN | apply Kd.R_drew)); exact (Kd.R_mono (Kd.R_far (p := ⟨gb270, 3, none⟩) (Kd.R_far (p := ⟨gb270, 2, none⟩) (Kd.R_far (p := ⟨gb270, 1, none⟩) (Kd.R_far (p := ⟨gb270, 0, none⟩) (Kd.R_types HO268.out BK270.out (by decide)) (fun _ hk => hk.2) (.int .i64 t263)) (fun _ hk => hk.2) (.int .i64 t264)) (fun _ hk => hk.2) (.int .i64 t265)) (fun _ hk => hk.2) (.slice Ao15 t266.length co15)) (fun _ h_ => h_.1))) hb); replace BK270 := Zaa.mk (Zah (g := gb270) (o := .cells #[.int .i64 t263, .int .i64 t264, .int .i64 t265, .slice Ao15 t266.length co15] 51 (0, 0)) (by (with_reducible repeat (first | refine Zac ?_ _ | refine Zad ?_ | refine Zab ?_ _)); refine Zas (cs := #[.int .i64 t263, .int .i64 t264, .int .i64 t265, .slice none 0 0]) ?_ 3 _ rfl; (with_reducible repeat (first | refine Zac ?_ _ | refine Zad ?_ | refine Zab ?_ _)); refine Zas (cs := #[.int .i64 t263, .int .i64 t264, .int .i64 0, .slice none 0 0]) ?_ 2 _ rfl; (with_reducible repeat (first | refine Zac ?_ _ | refine Zad ?_ | refine Zab ?_ _)); refine Zas (cs := #[.int .i64 t263, .int .i64 0, .int .i64 0, .slice none 0 0]) ?_ 1 _ rfl; (with_reducible repeat (first | refine Zac ?_ _ | refine Zad ?_ | refine Zab ?_ _)); refine Zas (cs := #[.int .i64 0, .int .i64 0, .int .i64 0, .slice none 0 0]) ?_ 0 _ rfl; (with_reducible repeat (first | refine Zac ?_ _ | refine Zad ?_ | refine Zab ?_ _)); exact BK270.out) hb); replace HB := Zaa.mk (Zae (zb6 HB (Zaj.ge HI262.out) GE270.out) hb); replace HI262 := Zaa.mk (Zaj.below (show Zaj w ((((w12.setCell ⟨gb270, 0, none⟩ (.int .i64 t263)).setCell ⟨gb270, 1, none⟩ (.int .i64 t264)).setCell ⟨gb270, 2, none⟩ (.int .i64 t265)).setCell ⟨gb270, 3, none⟩ (.slice Ao15 t266.length co15)) g262 t260 t269 from (zl18 HI262 NB262_270.out)) hb); (try clear hb); obtain ⟨hcz17_0, hcz17_1, hcz17_2, hcz17_3⟩ := bc4 BK270.out; obtain ⟨hfz17_0, hfz17_1, hfz17_2, hfz17_3⟩ := bf4 BK270.out) | ((with_reducible refine Zam (f := 17) rfl ?_); refine Za1 (some 19) rfl rfl Tryz.func17 (by kernel_rfl) rfl #[.agg #[.int .i64 t263, .int .i64 t264, .int .i64 t265, .slice Ao15 t266.length co15]] rfl zam ?_; (with_reducible refine (kauditref03_Format.calls k t263 t264 t265 _ _ t266 t272 t273 _ ?side1 ?side2 A7.out).mono ?_); (case side1 => repeat (first | exact (Kd.R_reads' HO268.out).2.2 | (with_reducible refine Kd.C_alloc ?_ _) | (with_reducible refine Kd.C_drewN ?_ _) | (with_reducible refine Kd.C_drew ?_))); (case side2 => exact (Kd.R_reads' HO268.out).2.1); rintro e w18 ⟨rfl, hb⟩; refine ⟨_, rfl, ?_⟩; replace HO268 := Zaa.mk (Kd.R_below (zrk HO268) hb); replace BK270 := Zaa.mk (Zah (g := gb270) (o := .cells #[.int .i64 t263, .int .i64 t264, .int .i64 t265, .slice Ao15 t266.length co15] 51 (0, 0)) (zbk BK270) hb); replace HB := Zaa.mk (Zae (zb6 HB (Zaj.ge HI262.out) GE270.out) hb); replace HI262 := Zaa.mk (Zaj.below (zl18 HI262 NB262_270.out) hb); (try clear hb)) | ((with_reducible refine Zam (f := 18) rfl ?_); refine Za1 (some 25) rfl rfl Tryz.func18 (by kernel_rfl) rfl #[] rfl zam ?_; (with_reducible refine (kauditlaw03_awake.calls  t274 _ ?side1 A9.out).mono ?_); (case side1 => exact GT.below (by decide) HG.out (zb6 HB (Zaj.ge HI262.out) GE270.out)); rintro e w19 ⟨rfl, hb⟩; refine ⟨_, rfl, ?_⟩; replace HO268 := Zaa.mk (Kd.R_below (zrk HO268) hb); replace BK270 := Zaa.mk (Zah (g := gb270) (o := .cells #[.int .i64 t263, .int .i64 t264, .int .i64 t265, .slice Ao15 t266.length co15] 51 (0, 0)) (zbk BK270) hb); replace HB := Zaa.mk (Zae (zb6 HB (Zaj.ge HI262.out) GE270.out) hb); replace HI262 := Zaa.mk (Zaj.below (zl18 HI262 NB262_270.out) hb); (try clear hb)))
   go_ret
   exact ⟨by first | rfl | (simp [errW_none, errW_some] <;> rfl) | (simp [*, errW_none, errW_some] <;> rfl), (zb6 HB (Zaj.ge HI262.out) GE270.out)⟩
  ·rw [if_neg c8] at H
   have c8b0 : ((t272.size : Int) == 0) = false := beq_eq_false_iff_ne.mpr c8
   have c8b1 : ((t272.size : Int) != 0) = true := bne_iff_ne.mpr c8
   replace H := Option.bind_eq_some_iff.mp H
   obtain ⟨⟨t275, t276⟩, A200, H⟩ := H
   try dsimp only at H
   have A20 := Zaa.mk A200
   clear A200
   replace H := Option.bind_eq_some_iff.mp H
   obtain ⟨t277, A210, H⟩ := H
   try dsimp only at H
   have A21 := Zaa.mk A210
   clear A210
   by_cases c22 : t277 = true
   ·subst c22
    rw [if_pos rfl] at H
    by_cases c23 : 0 ≤ t275
    ·rw [if_pos c23] at H
     have c23b0 := eq_true c23
     have c23b1 : decide (0 ≤ t275) = true := decide_eq_true c23
     clear c23
     by_cases c24 : t275 ≤ (t272.size : Int)
     ·rw [if_pos c24] at H
      have c24b0 := eq_true c24
      have c24b1 : decide (t275 ≤ (t272.size : Int)) = true := decide_eq_true c24
      clear c24
      obtain ⟨y278, hy278⟩ : ∃ y_ : List Int, y_ = (([a1] : List Int)) := ⟨_, rfl⟩
      replace H : (if (t272.extract 0 (t275 : Int).toNat).size + (strOfNums y278).size ≤ 9223372036854775807 then (if 0 ≤ (wrap64 (t275 + 1)) then (if (wrap64 (t275 + 1)) ≤ (t272.size : Int) then (if ((t272.extract 0 (t275 : Int).toNat) ++ (strOfNums y278)).size + (t272.extract ((wrap64 (t275 + 1)) : Int).toNat t272.size).size ≤ 9223372036854775807 then ((kauditlaw03_reads.f k (((t272.extract 0 (t275 : Int).toNat) ++ (strOfNums y278)) ++ (t272.extract ((wrap64 (t275 + 1)) : Int).toNat t272.size))).bind fun t281 => (if t281 = true then (if (t272.extract 0 (t275 : Int).toNat).size + (t272.extract ((wrap64 (t275 + 1)) : Int).toNat t272.size).size ≤ 9223372036854775807 then ((kauditlaw03_reads.f k ((t272.extract 0 (t275 : Int).toNat) ++ (t272.extract ((wrap64 (t275 + 1)) : Int).toNat t272.size))).bind fun t282 => (if t282 = true then ((some (([a1] : List Int) : List Int)).bind fun y283 => (if (t272.extract 0 (t275 : Int).toNat).size + (strOfNums y283).size ≤ 9223372036854775807 then (if ((t272.extract 0 (t275 : Int).toNat) ++ (strOfNums y283)).size + (t272.extract (t275 : Int).toNat t272.size).size ≤ 9223372036854775807 then ((kauditlaw03_reads.f k (((t272.extract 0 (t275 : Int).toNat) ++ (strOfNums y283)) ++ (t272.extract (t275 : Int).toNat t272.size))).bind fun t286 => (if t286 = true then (if t272.size + 1 ≤ 9223372036854775807 then ((kauditlaw03_reads.f k (t272 ++ (⟨#[32]⟩ : ByteArray))).bind fun t287 => (if t287 = true then ((kauditlaw03_awake.f).bind fun t288 => (some t288)) else (some false))) else (none)) else (some false))) else (none)) else (none))) else (some false))) else (none)) else (some false))) else (none)) else (none)) else (none)) else (none)) = some r := by first | (rw [hy278]; with_reducible exact H) | (have H2_ := (Option.bind_some _ _).symm.trans H; rw [hy278]; with_reducible exact H2_) | (have H2_ := (Option.bind_some _ _).symm.trans H; with_reducible exact H2_) | with_reducible exact H | (rw [hy278]; exact H) | exact H
      have Ny278 := Zaa.mk hy278
      clear hy278
      by_cases c25 : (t272.extract 0 (t275 : Int).toNat).size + (strOfNums y278).size ≤ 9223372036854775807
      ·rw [if_pos c25] at H
       have c25b0 := eq_true c25
       have c25b1 : decide ((t272.extract 0 (t275 : Int).toNat).size + (strOfNums y278).size ≤ 9223372036854775807) = true := decide_eq_true c25
       try have c25b2 : (9223372036854775807 < (t272.extract 0 (t275 : Int).toNat).size + (strOfNums y278).size) = False := eq_false (Nat.not_lt.2 c25)
       try (have c25b5 : (9223372036854775807 < t275.toNat + (strOfNums y278).size) = False := eq_false (by have h_ := c25; have g0a_ : (0 : Int) ≤ t275 := (by first | omega | exact zod); have g0_ : t275 ≤ (t272.size : Int) := (by first | omega | exact zod); simp only [ByteArray.size_append, ByteArray.size_extract, Go.Proofs.YtodbabeldolcbaaGreatDoor.PW.size_mk, List.size_toArray, List.length_cons, List.length_nil] at h_; omega))
       obtain ⟨ji26, hji26⟩ : ∃ j_ : Int, (wrap64 (t275 + 1)) = j_ := ⟨_, rfl⟩
       replace H : (if 0 ≤ (ji26) then (if (ji26) ≤ (t272.size : Int) then (if ((t272.extract 0 (t275 : Int).toNat) ++ (strOfNums y278)).size + (t272.extract ((ji26) : Int).toNat t272.size).size ≤ 9223372036854775807 then ((kauditlaw03_reads.f k (((t272.extract 0 (t275 : Int).toNat) ++ (strOfNums y278)) ++ (t272.extract ((ji26) : Int).toNat t272.size))).bind fun t281 => (if t281 = true then (if (t272.extract 0 (t275 : Int).toNat).size + (t272.extract ((ji26) : Int).toNat t272.size).size ≤ 9223372036854775807 then ((kauditlaw03_reads.f k ((t272.extract 0 (t275 : Int).toNat) ++ (t272.extract ((ji26) : Int).toNat t272.size))).bind fun t282 => (if t282 = true then ((some (([a1] : List Int) : List Int)).bind fun y283 => (if (t272.extract 0 (t275 : Int).toNat).size + (strOfNums y283).size ≤ 9223372036854775807 then (if ((t272.extract 0 (t275 : Int).toNat) ++ (strOfNums y283)).size + (t272.extract (t275 : Int).toNat t272.size).size ≤ 9223372036854775807 then ((kauditlaw03_reads.f k (((t272.extract 0 (t275 : Int).toNat) ++ (strOfNums y283)) ++ (t272.extract (t275 : Int).toNat t272.size))).bind fun t286 => (if t286 = true then (if t272.size + 1 ≤ 9223372036854775807 then ((kauditlaw03_reads.f k (t272 ++ (⟨#[32]⟩ : ByteArray))).bind fun t287 => (if t287 = true then ((kauditlaw03_awake.f).bind fun t288 => (some t288)) else (some false))) else (none)) else (some false))) else (none)) else (none))) else (some false))) else (none)) else (some false))) else (none)) else (none)) else (none)) = some r := by first | (rw [hji26] at H; exact H) | (simp only [hji26] at H ⊢; exact H)
       (try rw [hji26] at A3)
       (try rw [hji26] at A4)
       (try rw [hji26] at A5)
       (try rw [hji26] at A7)
       (try rw [hji26] at A20)
       (try rw [hji26] at A21)
       have hji26w : (IntKind.i64.wrap (t275 + 1)) = ji26 := (Zax _).trans hji26
       by_cases c27 : 0 ≤ (ji26)
       ·rw [if_pos c27] at H
        have c27b0 := eq_true c27
        have c27b1 : decide (0 ≤ (ji26)) = true := decide_eq_true c27
        clear c27
        by_cases c28 : (ji26) ≤ (t272.size : Int)
        ·rw [if_pos c28] at H
         have c28b0 := eq_true c28
         have c28b1 : decide ((ji26) ≤ (t272.size : Int)) = true := decide_eq_true c28
         clear c28
         by_cases c29 : ((t272.extract 0 (t275 : Int).toNat) ++ (strOfNums y278)).size + (t272.extract ((ji26) : Int).toNat t272.size).size ≤ 9223372036854775807
         ·rw [if_pos c29] at H
          have c29b0 := eq_true c29
          have c29b1 : decide (((t272.extract 0 (t275 : Int).toNat) ++ (strOfNums y278)).size + (t272.extract ((ji26) : Int).toNat t272.size).size ≤ 9223372036854775807) = true := decide_eq_true c29
          try have c29b2 : (9223372036854775807 < ((t272.extract 0 (t275 : Int).toNat) ++ (strOfNums y278)).size + (t272.extract ((ji26) : Int).toNat t272.size).size) = False := eq_false (Nat.not_lt.2 c29)
          try (have c29b3 := c29; simp only [ByteArray.size_append, Go.Proofs.YtodbabeldolcbaaGreatDoor.PW.size_mk, List.size_toArray, List.length_cons, List.length_nil, Nat.reduceAdd] at c29b3; have c29b4 := eq_false (Nat.not_lt.2 c29b3))
          try (have c29b5 : (9223372036854775807 < t275.toNat + (strOfNums y278).size + (t272.size - ji26.toNat)) = False := eq_false (by have h_ := c29; have g0a_ : (0 : Int) ≤ t275 := (by first | omega | exact zod); have g0_ : t275 ≤ (t272.size : Int) := (by first | omega | exact zod); have g1a_ : (0 : Int) ≤ ji26 := (by first | omega | exact zod); have g1_ : ji26 ≤ (t272.size : Int) := (by first | omega | exact zod); simp only [ByteArray.size_append, ByteArray.size_extract, Go.Proofs.YtodbabeldolcbaaGreatDoor.PW.size_mk, List.size_toArray, List.length_cons, List.length_nil] at h_; omega))
          replace H := Option.bind_eq_some_iff.mp H
          obtain ⟨t281, A300, H⟩ := H
          try dsimp only at H
          have A30 := Zaa.mk A300
          clear A300
          by_cases c31 : t281 = true
          ·subst c31
           rw [if_pos rfl] at H
           have c32b0 := eq_true (zod : 0 ≤ t275)
           have c33b0 := eq_true (zod : t275 ≤ (t272.size : Int))
           have c34b0 := eq_true (zod : 0 ≤ (ji26))
           have c35b0 := eq_true (zod : (ji26) ≤ (t272.size : Int))
           by_cases c36 : (t272.extract 0 (t275 : Int).toNat).size + (t272.extract ((ji26) : Int).toNat t272.size).size ≤ 9223372036854775807
           ·rw [if_pos c36] at H
            have c36b0 := eq_true c36
            have c36b1 : decide ((t272.extract 0 (t275 : Int).toNat).size + (t272.extract ((ji26) : Int).toNat t272.size).size ≤ 9223372036854775807) = true := decide_eq_true c36
            try have c36b2 : (9223372036854775807 < (t272.extract 0 (t275 : Int).toNat).size + (t272.extract ((ji26) : Int).toNat t272.size).size) = False := eq_false (Nat.not_lt.2 c36)
            try (have c36b5 : (9223372036854775807 < t275.toNat + (t272.size - ji26.toNat)) = False := eq_false (by have h_ := c36; have g0a_ : (0 : Int) ≤ t275 := (by first | omega | exact zod); have g0_ : t275 ≤ (t272.size : Int) := (by first | omega | exact zod); have g1a_ : (0 : Int) ≤ ji26 := (by first | omega | exact zod); have g1_ : ji26 ≤ (t272.size : Int) := (by first | omega | exact zod); simp only [ByteArray.size_append, ByteArray.size_extract, Go.Proofs.YtodbabeldolcbaaGreatDoor.PW.size_mk, List.size_toArray, List.length_cons, List.length_nil] at h_; omega))
            replace H := Option.bind_eq_some_iff.mp H
            obtain ⟨t282, A370, H⟩ := H
            try dsimp only at H
            have A37 := Zaa.mk A370
            clear A370
            by_cases c38 : t282 = true
            ·subst c38
             rw [if_pos rfl] at H
             have c39b0 := eq_true (zod : 0 ≤ t275)
             have c40b0 := eq_true (zod : t275 ≤ (t272.size : Int))
             obtain ⟨y283, hy283⟩ : ∃ y_ : List Int, y_ = (([a1] : List Int)) := ⟨_, rfl⟩
             replace H : (if (t272.extract 0 (t275 : Int).toNat).size + (strOfNums y283).size ≤ 9223372036854775807 then (if ((t272.extract 0 (t275 : Int).toNat) ++ (strOfNums y283)).size + (t272.extract (t275 : Int).toNat t272.size).size ≤ 9223372036854775807 then ((kauditlaw03_reads.f k (((t272.extract 0 (t275 : Int).toNat) ++ (strOfNums y283)) ++ (t272.extract (t275 : Int).toNat t272.size))).bind fun t286 => (if t286 = true then (if t272.size + 1 ≤ 9223372036854775807 then ((kauditlaw03_reads.f k (t272 ++ (⟨#[32]⟩ : ByteArray))).bind fun t287 => (if t287 = true then ((kauditlaw03_awake.f).bind fun t288 => (some t288)) else (some false))) else (none)) else (some false))) else (none)) else (none)) = some r := by first | (rw [hy283]; with_reducible exact H) | (have H2_ := (Option.bind_some _ _).symm.trans H; rw [hy283]; with_reducible exact H2_) | (have H2_ := (Option.bind_some _ _).symm.trans H; with_reducible exact H2_) | with_reducible exact H | (rw [hy283]; exact H) | exact H
             have Ny283 := Zaa.mk hy283
             clear hy283
             by_cases c41 : (t272.extract 0 (t275 : Int).toNat).size + (strOfNums y283).size ≤ 9223372036854775807
             ·rw [if_pos c41] at H
              have c41b0 := eq_true c41
              have c41b1 : decide ((t272.extract 0 (t275 : Int).toNat).size + (strOfNums y283).size ≤ 9223372036854775807) = true := decide_eq_true c41
              try have c41b2 : (9223372036854775807 < (t272.extract 0 (t275 : Int).toNat).size + (strOfNums y283).size) = False := eq_false (Nat.not_lt.2 c41)
              try (have c41b5 : (9223372036854775807 < t275.toNat + (strOfNums y283).size) = False := eq_false (by have h_ := c41; have g0a_ : (0 : Int) ≤ t275 := (by first | omega | exact zod); have g0_ : t275 ≤ (t272.size : Int) := (by first | omega | exact zod); simp only [ByteArray.size_append, ByteArray.size_extract, Go.Proofs.YtodbabeldolcbaaGreatDoor.PW.size_mk, List.size_toArray, List.length_cons, List.length_nil] at h_; omega))
              have c42b0 := eq_true (zod : 0 ≤ t275)
              have c43b0 := eq_true (zod : t275 ≤ (t272.size : Int))
              by_cases c44 : ((t272.extract 0 (t275 : Int).toNat) ++ (strOfNums y283)).size + (t272.extract (t275 : Int).toNat t272.size).size ≤ 9223372036854775807
              ·rw [if_pos c44] at H
               have c44b0 := eq_true c44
               have c44b1 : decide (((t272.extract 0 (t275 : Int).toNat) ++ (strOfNums y283)).size + (t272.extract (t275 : Int).toNat t272.size).size ≤ 9223372036854775807) = true := decide_eq_true c44
               try have c44b2 : (9223372036854775807 < ((t272.extract 0 (t275 : Int).toNat) ++ (strOfNums y283)).size + (t272.extract (t275 : Int).toNat t272.size).size) = False := eq_false (Nat.not_lt.2 c44)
               try (have c44b3 := c44; simp only [ByteArray.size_append, Go.Proofs.YtodbabeldolcbaaGreatDoor.PW.size_mk, List.size_toArray, List.length_cons, List.length_nil, Nat.reduceAdd] at c44b3; have c44b4 := eq_false (Nat.not_lt.2 c44b3))
               try (have c44b5 : (9223372036854775807 < t275.toNat + (strOfNums y283).size + (t272.size - t275.toNat)) = False := eq_false (by have h_ := c44; have g0a_ : (0 : Int) ≤ t275 := (by first | omega | exact zod); have g0_ : t275 ≤ (t272.size : Int) := (by first | omega | exact zod); simp only [ByteArray.size_append, ByteArray.size_extract, Go.Proofs.YtodbabeldolcbaaGreatDoor.PW.size_mk, List.size_toArray, List.length_cons, List.length_nil] at h_; omega))
               replace H := Option.bind_eq_some_iff.mp H
               obtain ⟨t286, A450, H⟩ := H
               try dsimp only at H
               have A45 := Zaa.mk A450
               clear A450
               by_cases c46 : t286 = true
               ·subst c46
                rw [if_pos rfl] at H
                by_cases c47 : t272.size + 1 ≤ 9223372036854775807
                ·rw [if_pos c47] at H
                 have c47b0 := eq_true c47
                 have c47b1 : decide (t272.size + 1 ≤ 9223372036854775807) = true := decide_eq_true c47
                 try have c47b2 : (9223372036854775807 < t272.size + 1) = False := eq_false (Nat.not_lt.2 c47)
                 replace H := Option.bind_eq_some_iff.mp H
                 obtain ⟨t287, A480, H⟩ := H
                 try dsimp only at H
                 have A48 := Zaa.mk A480
                 clear A480
                 by_cases c49 : t287 = true
                 ·subst c49
                  rw [if_pos rfl] at H
                  replace H := Option.bind_eq_some_iff.mp H
                  obtain ⟨t288, A500, H⟩ := H
                  try dsimp only at H
                  have A50 := Zaa.mk A500
                  clear A500
                  obtain rfl := Option.some.inj H
                  go_enter Tryz.func5, Tryz.ntmps5
                  try go_wp2_with (first | ((with_reducible refine Zam (f := 14) rfl ?_); refine Za1 (some 11) rfl rfl Tryz.func14 (by kernel_rfl) rfl #[.slice A0 l0.length c0] rfl zam ?_; (with_reducible refine (kauditmake_New.calls _ _ l0 t260 t261 w _ ?side1 ?side2 ?side3 A3.out).mono ?_); (case side1 => repeat (first | (with_reducible first | exact HB.out | apply Zal | apply Zar | apply Zau) | exact HB.out)); (case side2 => exact HR0.out); (case side3 => exact HC0.out); rintro e w51 ⟨g262, rfl, hi, hb, hb2⟩; refine ⟨_, rfl, ?_⟩; replace HB := Zaa.mk (hb); have HI262 := Zaa.mk (hi); (try clear hb); (try clear hb2); (try clear hi)) | ((with_reducible refine Zam (f := 15) rfl ?_); refine Za1 (some 13) rfl rfl Tryz.func15 (by kernel_rfl) rfl #[.pointer (some ⟨g262, 0, none⟩)] rfl zam ?_; (with_reducible refine (kauditmake_Src_Record.calls k g262 t260 t261 t263 t264 t265 t266 t269 w _ ?side1 ?side2 A4.out).mono ?_); (case side1 => repeat (first | (with_reducible first | exact HI262.out | apply Zaj.alloc | apply Zaj.drewN | apply Zaj.drew | apply Zaj.set_1) | exact HI262.out)); (case side2 => repeat (first | (with_reducible first | exact HB.out | apply Zal | apply Zar | apply Zau | refine Zag ?_ (Zaj.ge HI262.out)) | exact HB.out)); rintro e w52 ⟨v267, rfl, ho0, hi, hb, hk⟩; refine ⟨_, rfl, ?_⟩; have HO268 := Zaa.mk (Kd.R_lower ho0 (Zai (zb2 HB (Zaj.ge HI262.out)))); replace HB := Zaa.mk (hb); replace HI262 := Zaa.mk (hi); (try clear hb); (try clear hk); (try clear hi); (try clear ho0)) | ((with_reducible refine Zav (N := 6) rfl ?_); (try (refine Zbv (by rfl) ?_; dsimp only)); refine Zaw ?hg (N := 6) ?hd (cs := #[.int .i64 0, .int .i64 0, .int .i64 0, .slice none 0 0]) (t := 51) ?hr ?_; (case hd => rfl); (case hg => rfl); (case hr => first | (go_simp; done) | (go_simp; rfl)); intro gb270 hg w53 hbox hb; replace HO268 := Zaa.mk (Kd.R_below (zrk HO268) hb); have BK270 := Zaa.mk (hbox); have GW270 := Zaa.mk ((by rw [hg]; exact (Zai (zb2 HB (Zaj.ge HI262.out))) : w.heap.size ≤ gb270)); have GE270 := Zaa.mk ((by rw [hg]; exact (Zai (zb2 HB (Zaj.ge HI262.out))) : w.heap.size ≤ gb270)); replace HB := Zaa.mk (Zae (zb2 HB (Zaj.ge HI262.out)) hb); have NB262_270 := Zaa.mk ((by rw [hg]; exact Nat.ne_of_lt (Zaj.lt (show Zaj w _ g262 t260 t269 from (zl17 HI262))) : g262 ≠ gb270)); have NB270_262 := Zaa.mk ((by rw [hg]; exact Nat.ne_of_gt (Zaj.lt (show Zaj w _ g262 t260 t269 from (zl17 HI262))) : gb270 ≠ g262)); replace HI262 := Zaa.mk (Zaj.below (zl17 HI262) hb); clear hb hbox hg; have hnb54 := NB270_262.out; have hnc54 := NB262_270.out; obtain ⟨hcz55_0, hcz55_1, hcz55_2, hcz55_3⟩ := bc4 BK270.out; obtain ⟨hfz55_0, hfz55_1, hfz55_2, hfz55_3⟩ := bf4 BK270.out; obtain ⟨Ao56, co56, eo56⟩ := Kd.R_slice HO268.out; subst eo56) | ((with_reducible refine Zam (f := 16) rfl ?_); refine Za1 (some 15) rfl rfl Tryz.func16 (by kernel_rfl) rfl #[.agg #[.int .i64 t263, .int .i64 t264, .int .i64 t265, .slice Ao56 t266.length co56]] rfl zam ?_; (with_reducible refine (kauditlaw03_agrees.calls k t263 t264 t265 _ _ t266 true _ ?side1 ?side2 ?side3 ?side4 A5.out).mono ?_); (case side1 => exact GT.below (by decide) HG.out (zb6 HB (Zaj.ge HI262.out) GE270.out)); (case side2 => rfl); (case side3 => refine (Kd.R_reads' (e := 88) (base := w.heap.size) (ok := fun k_ => True) (n := t266.length) (c := co56) ?_).2.2; exact (by (with_reducible repeat (first | apply Kd.R_alloc | apply Kd.R_drewN | apply Kd.R_drew)); exact (Kd.R_mono (Kd.R_far (p := ⟨gb270, 3, none⟩) (Kd.R_far (p := ⟨gb270, 2, none⟩) (Kd.R_far (p := ⟨gb270, 1, none⟩) (Kd.R_far (p := ⟨gb270, 0, none⟩) (Kd.R_types HO268.out BK270.out (by decide)) (fun _ hk => hk.2) (.int .i64 t263)) (fun _ hk => hk.2) (.int .i64 t264)) (fun _ hk => hk.2) (.int .i64 t265)) (fun _ hk => hk.2) (.slice Ao56 t266.length co56)) (fun _ h_ => h_.1)))); (case side4 => exact (Kd.R_reads' HO268.out).2.1); rintro e w57 ⟨rfl, hb⟩; refine ⟨_, rfl, ?_⟩; replace HO268 := Zaa.mk (Kd.R_below (by (with_reducible repeat (first | apply Kd.R_alloc | apply Kd.R_drewN | apply Kd.R_drew)); exact (Kd.R_mono (Kd.R_far (p := ⟨gb270, 3, none⟩) (Kd.R_far (p := ⟨gb270, 2, none⟩) (Kd.R_far (p := ⟨gb270, 1, none⟩) (Kd.R_far (p := ⟨gb270, 0, none⟩) (Kd.R_types HO268.out BK270.out (by decide)) (fun _ hk => hk.2) (.int .i64 t263)) (fun _ hk => hk.2) (.int .i64 t264)) (fun _ hk => hk.2) (.int .i64 t265)) (fun _ hk => hk.2) (.slice Ao56 t266.length co56)) (fun _ h_ => h_.1))) hb); replace BK270 := Zaa.mk (Zah (g := gb270) (o := .cells #[.int .i64 t263, .int .i64 t264, .int .i64 t265, .slice Ao56 t266.length co56] 51 (0, 0)) (by (with_reducible repeat (first | refine Zac ?_ _ | refine Zad ?_ | refine Zab ?_ _)); refine Zas (cs := #[.int .i64 t263, .int .i64 t264, .int .i64 t265, .slice none 0 0]) ?_ 3 _ rfl; (with_reducible repeat (first | refine Zac ?_ _ | refine Zad ?_ | refine Zab ?_ _)); refine Zas (cs := #[.int .i64 t263, .int .i64 t264, .int .i64 0, .slice none 0 0]) ?_ 2 _ rfl; (with_reducible repeat (first | refine Zac ?_ _ | refine Zad ?_ | refine Zab ?_ _)); refine Zas (cs := #[.int .i64 t263, .int .i64 0, .int .i64 0, .slice none 0 0]) ?_ 1 _ rfl; (with_reducible repeat (first | refine Zac ?_ _ | refine Zad ?_ | refine Zab ?_ _)); refine Zas (cs := #[.int .i64 0, .int .i64 0, .int .i64 0, .slice none 0 0]) ?_ 0 _ rfl; (with_reducible repeat (first | refine Zac ?_ _ | refine Zad ?_ | refine Zab ?_ _)); exact BK270.out) hb); replace HB := Zaa.mk (Zae (zb6 HB (Zaj.ge HI262.out) GE270.out) hb); replace HI262 := Zaa.mk (Zaj.below (show Zaj w ((((w53.setCell ⟨gb270, 0, none⟩ (.int .i64 t263)).setCell ⟨gb270, 1, none⟩ (.int .i64 t264)).setCell ⟨gb270, 2, none⟩ (.int .i64 t265)).setCell ⟨gb270, 3, none⟩ (.slice Ao56 t266.length co56)) g262 t260 t269 from (zl18 HI262 NB262_270.out)) hb); (try clear hb); obtain ⟨hcz58_0, hcz58_1, hcz58_2, hcz58_3⟩ := bc4 BK270.out; obtain ⟨hfz58_0, hfz58_1, hfz58_2, hfz58_3⟩ := bf4 BK270.out) | ((with_reducible refine Zam (f := 17) rfl ?_); refine Za1 (some 19) rfl rfl Tryz.func17 (by kernel_rfl) rfl #[.agg #[.int .i64 t263, .int .i64 t264, .int .i64 t265, .slice Ao56 t266.length co56]] rfl zam ?_; (with_reducible refine (kauditref03_Format.calls k t263 t264 t265 _ _ t266 t272 t273 _ ?side1 ?side2 A7.out).mono ?_); (case side1 => repeat (first | exact (Kd.R_reads' HO268.out).2.2 | (with_reducible refine Kd.C_alloc ?_ _) | (with_reducible refine Kd.C_drewN ?_ _) | (with_reducible refine Kd.C_drew ?_))); (case side2 => exact (Kd.R_reads' HO268.out).2.1); rintro e w59 ⟨rfl, hb⟩; refine ⟨_, rfl, ?_⟩; replace HO268 := Zaa.mk (Kd.R_below (zrk HO268) hb); replace BK270 := Zaa.mk (Zah (g := gb270) (o := .cells #[.int .i64 t263, .int .i64 t264, .int .i64 t265, .slice Ao56 t266.length co56] 51 (0, 0)) (zbk BK270) hb); replace HB := Zaa.mk (Zae (zb6 HB (Zaj.ge HI262.out) GE270.out) hb); replace HI262 := Zaa.mk (Zaj.below (zl18 HI262 NB262_270.out) hb); (try clear hb)) | ((with_reducible refine Zam (f := 19) rfl ?_); refine Za1 (some 29) rfl rfl Tryz.func19 (by kernel_rfl) rfl #[.pointer (some ⟨g262, 0, none⟩), .int .i64 (t272.size : Int)] rfl zam ?_; (with_reducible refine (kauditmake_Src_N.calls g262 t260 t269 (t272.size : Int) t275 t276 w _ ?side1 ?side2 A20.out).mono ?_); (case side1 => repeat (first | (with_reducible first | exact HI262.out | apply Zaj.alloc | apply Zaj.drewN | apply Zaj.drew | apply Zaj.set_1 | refine Zaj.far ?_ NB262_270.out _) | exact HI262.out)); (case side2 => repeat (first | (with_reducible first | exact HB.out | apply Zal | apply Zar | apply Zau | refine Zag ?_ (Zaj.ge HI262.out) | refine Zag ?_ GE270.out) | exact HB.out)); rintro e w60 ⟨rfl, hi, hb, hk⟩; refine ⟨_, rfl, ?_⟩; replace HO268 := Zaa.mk (Kd.R_mono (Kd.R_keep (Zaj.apart (show Zaj w _ g262 t260 t269 from (zl18 HI262 NB262_270.out)) (zrk HO268) (by decide)) hk (fun _ h => h.2)) (fun _ h => h.1)); replace BK270 := Zaa.mk (Zap.blk hk (g' := gb270) (o := .cells #[.int .i64 t263, .int .i64 t264, .int .i64 t265, .slice Ao56 t266.length co56] 51 (0, 0)) (zbk BK270) NB270_262.out (by simp)); replace HB := Zaa.mk (hb); replace HI262 := Zaa.mk (hi); (try clear hb); (try clear hk); (try clear hi)))
                  replace HO268 := Zaa.mk (Kd.R_drew HO268.out)
                  replace BK270 := Zaa.mk (Zad BK270.out)
                  replace HI262 := Zaa.mk (Zaj.drew HI262.out)
                  replace HB := Zaa.mk (Zau HB.out)
                  refine start_ (n := 51) (S := fun w' => True) (ds := []) #[false, false, false, false, false, false, false, false, false, false, false, false, false, false, false, false, false, false, false, false, false, false, false, false, false, false, false, false, false, false, false, false, false, false, false, false, false, false, false, false, false, false, false, false, false, false, false, false, false, false, false] (by kernel_rfl) rfl rfl trivial (fun hHeld => ?_); refine with_tabW kauditlaw03_RecordBuilt.tab9 kauditlaw03_RecordBuilt.bits9 (fun HT_ HW_ => ?_)
                  generalize w60.drew = w61 at HO268 BK270 HI262 HB hHeld ⊢
                  refine Za4 (i := 0) (N := some 30) (v := ?_) (a' := ?_) #[true, false, false, false, false, false, false, false, false, false, false, false, false, false, false, false, false, false, false, false, false, false, false, false, false, false, false, false, false, false, false, false, false, false, false, false, false, false, false, false, false, false, false, false, false, false, false, false, false, false, false] rfl rfl (Zaz HT_.out (by kernel_rfl)) (fun _ _ _ h => h) (Or.inl ⟨by rfl, ?_⟩) ?_ ?_
                  rotate_left
                  ·intro w'
                   go_simp
                   with_reducible rfl
                  rotate_left
                  ·simp only [Act.put, List.setIfInBounds_toArray, List.set_cons_zero, List.set_cons_succ, Zax, Zay]
                   rfl
                  refine one_ (i := 1) (N := some 31) #[true, true, false, false, false, false, false, false, false, false, false, false, false, false, false, false, false, false, false, false, false, false, false, false, false, false, false, false, false, false, false, false, false, false, false, false, false, false, false, false, false, false, false, false, false, false, false, false, false, false, false] rfl rfl (Zbq HT_.out (by kernel_rfl)) (by decide) (fun K hK => ?_)
                  refine goes_ Tryz.func20 (by kernel_rfl) rfl #[.string t272] (by rfl) rfl rfl zam ?_
                  with_reducible refine (kauditlaw03_reads.calls k t272 true _ ?side1 ?side2 A21.out).mono ?_
                  (case side1 => exact GT.below (by decide) HG.out (zb6 HB (Zaj.ge HI262.out) GE270.out))
                  (case side2 => rfl)
                  rintro e w62 ⟨rfl, hb⟩
                  refine ⟨_, rfl, ?_⟩
                  replace HO268 := Zaa.mk (Kd.R_below (zrk HO268) hb)
                  replace BK270 := Zaa.mk (Zah (g := gb270) (o := .cells #[.int .i64 t263, .int .i64 t264, .int .i64 t265, .slice Ao56 t266.length co56] 51 (0, 0)) (zbk BK270) hb)
                  replace HB := Zaa.mk (Zae (zb6 HB (Zaj.ge HI262.out) GE270.out) hb)
                  replace HI262 := Zaa.mk (Zaj.below (zl18 HI262 NB262_270.out) hb)
                  (try clear hb)
                  (try clear hb2)
                  (try clear hk)
                  (try clear hi)
                  refine hK.out _ _ trivial (fun hHeld => ?_)
                  clear hK K
                  refine norm_ (a' := ?_) ?_ ?_
                  rotate_left
                  ·show Act.put _ (some 31) _ = _
                   simp only [Act.put, List.setIfInBounds_toArray, List.set_cons_zero, List.set_cons_succ, Zax, Zay]
                   rfl
                  refine Za4 (i := 2) (N := some 32) (v := ?_) (a' := ?_) #[true, true, true, false, false, false, false, false, false, false, false, false, false, false, false, false, false, false, false, false, false, false, false, false, false, false, false, false, false, false, false, false, false, false, false, false, false, false, false, false, false, false, false, false, false, false, false, false, false, false, false] rfl rfl (Zaz HT_.out (by kernel_rfl)) (fun _ _ _ h => h) (Or.inl ⟨by rfl, ?_⟩) ?_ ?_
                  rotate_left
                  ·intro w'
                   go_simp
                   with_reducible rfl
                  rotate_left
                  ·simp only [Act.put, List.setIfInBounds_toArray, List.set_cons_zero, List.set_cons_succ, Zax, Zay]
                   rfl
                  refine Za4 (i := 3) (N := some 33) (v := ?_) (a' := ?_) #[true, true, true, true, false, false, false, false, false, false, false, false, false, false, false, false, false, false, false, false, false, false, false, false, false, false, false, false, false, false, false, false, false, false, false, false, false, false, false, false, false, false, false, false, false, false, false, false, false, false, false] rfl rfl (Zaz HT_.out (by kernel_rfl)) (fun _ _ _ h => h) (Or.inl ⟨by rfl, ?_⟩) ?_ ?_
                  rotate_left
                  ·intro w'
                   go_simp
                   with_reducible rfl
                  rotate_left
                  ·simp only [Act.put, List.setIfInBounds_toArray, List.set_cons_zero, List.set_cons_succ, Zax, Zay]
                   rfl
                  refine Za4 (i := 4) (N := some 34) (v := ?_) (a' := ?_) #[true, true, true, true, true, false, false, false, false, false, false, false, false, false, false, false, false, false, false, false, false, false, false, false, false, false, false, false, false, false, false, false, false, false, false, false, false, false, false, false, false, false, false, false, false, false, false, false, false, false, false] rfl rfl (Zaz HT_.out (by kernel_rfl)) (fun _ _ _ h => h) (Or.inl ⟨by rfl, ?_⟩) ?_ ?_
                  rotate_left
                  ·intro w'
                   go_simp
                   with_reducible rfl
                  rotate_left
                  ·simp only [Act.put, List.setIfInBounds_toArray, List.set_cons_zero, List.set_cons_succ, Zax, Zay]
                   rfl
                  refine Za4 (i := 5) (N := some 35) (v := ?_) (a' := ?_) #[true, true, true, true, true, true, false, false, false, false, false, false, false, false, false, false, false, false, false, false, false, false, false, false, false, false, false, false, false, false, false, false, false, false, false, false, false, false, false, false, false, false, false, false, false, false, false, false, false, false, false] rfl rfl (Zaz HT_.out (by kernel_rfl)) (fun _ _ _ h => h) (Or.inl ⟨by rfl, ?_⟩) ?_ ?_
                  rotate_left
                  ·intro w'
                   go_simp
                   with_reducible rfl
                  rotate_left
                  ·simp only [Act.put, List.setIfInBounds_toArray, List.set_cons_zero, List.set_cons_succ, Zax, Zay]
                   rfl
                  refine Za4 (i := 6) (N := some 36) (v := ?_) (a' := ?_) #[true, true, true, true, true, true, true, false, false, false, false, false, false, false, false, false, false, false, false, false, false, false, false, false, false, false, false, false, false, false, false, false, false, false, false, false, false, false, false, false, false, false, false, false, false, false, false, false, false, false, false] rfl rfl (Zaz HT_.out (by kernel_rfl)) (fun _ _ _ h => h) (Or.inl ⟨by rfl, ?_⟩) ?_ ?_
                  rotate_left
                  ·intro w'
                   go_simp
                   with_reducible rfl
                  rotate_left
                  ·simp only [Act.put, List.setIfInBounds_toArray, List.set_cons_zero, List.set_cons_succ, Zax, Zay]
                   rfl
                  refine Za4 (i := 10) (N := some 40) (v := ?_) (a' := ?_) #[true, true, true, true, true, true, true, false, false, false, true, false, false, false, false, false, false, false, false, false, false, false, false, false, false, false, false, false, false, false, false, false, false, false, false, false, false, false, false, false, false, false, false, false, false, false, false, false, false, false, false] rfl rfl (Zaz HT_.out (by kernel_rfl)) (fun _ _ _ h => h) (Or.inl ⟨by rfl, ?_⟩) ?_ ?_
                  rotate_left
                  ·intro w'
                   go_simp
                   with_reducible rfl
                  rotate_left
                  ·simp only [Act.put, List.setIfInBounds_toArray, List.set_cons_zero, List.set_cons_succ, Zax, Zay]
                   rfl
                  refine Za4 (i := 11) (N := some 41) (v := ?_) (a' := ?_) #[true, true, true, true, true, true, true, false, false, false, true, true, false, false, false, false, false, false, false, false, false, false, false, false, false, false, false, false, false, false, false, false, false, false, false, false, false, false, false, false, false, false, false, false, false, false, false, false, false, false, false] rfl rfl (Zaz HT_.out (by kernel_rfl)) (fun _ _ _ h => h) (Or.inl ⟨by rfl, ?_⟩) ?_ ?_
                  rotate_left
                  ·intro w'
                   go_simp
                   with_reducible rfl
                  rotate_left
                  ·simp only [Act.put, List.setIfInBounds_toArray, List.set_cons_zero, List.set_cons_succ, Zax, Zay]
                   rfl
                  refine Za4 (i := 12) (N := some 42) (v := ?_) (a' := ?_) #[true, true, true, true, true, true, true, false, false, false, true, true, true, false, false, false, false, false, false, false, false, false, false, false, false, false, false, false, false, false, false, false, false, false, false, false, false, false, false, false, false, false, false, false, false, false, false, false, false, false, false] rfl rfl (Zaz HT_.out (by kernel_rfl)) (fun _ _ _ h => h) (Or.inl ⟨by rfl, ?_⟩) ?_ ?_
                  rotate_left
                  ·intro w'
                   go_simp
                   with_reducible rfl
                  rotate_left
                  ·simp only [Act.put, List.setIfInBounds_toArray, List.set_cons_zero, List.set_cons_succ, Zax, Zay]
                   rfl
                  refine Za4 (i := 13) (N := some 43) (v := ?_) (a' := ?_) #[true, true, true, true, true, true, true, false, false, false, true, true, true, true, false, false, false, false, false, false, false, false, false, false, false, false, false, false, false, false, false, false, false, false, false, false, false, false, false, false, false, false, false, false, false, false, false, false, false, false, false] rfl rfl (Zaz HT_.out (by kernel_rfl)) (fun _ _ _ h => h) (Or.inl ⟨by rfl, ?_⟩) ?_ ?_
                  rotate_left
                  ·intro w'
                   go_simp
                   with_reducible rfl
                  rotate_left
                  ·simp only [Act.put, List.setIfInBounds_toArray, List.set_cons_zero, List.set_cons_succ, Zax, Zay]
                   rfl
                  refine one_ (i := 7) (N := some 37) #[true, true, true, true, true, true, true, true, false, false, true, true, true, true, false, false, false, false, false, false, false, false, false, false, false, false, false, false, false, false, false, false, false, false, false, false, false, false, false, false, false, false, false, false, false, false, false, false, false, false, false] rfl rfl (Zbq HT_.out (by kernel_rfl)) (by decide) (fun K hK => ?_)
                  refine Kd.R_lit_step (Kd.int .u8) _ 5 ?hg (N := 37) ?hd (xs := ([a1] : List Int)) (inner := [.int .u8 a1]) (ok := fun _ => True) (okp := fun _ => True) ?hr ?hp (fun _ hk => hk) trivial (Below.refl _ _) (Nat.le_refl _) (by simp) ?_; (case hd => rfl); (case hg => rfl); (case hr => first | (go_simp; done) | (go_simp; rfl)); (case hp => exact (Reps.one (show Kd.M (Kd.int .u8) _ _ _ a1 [.int .u8 a1] from rfl) (Reps.none _ _)))
                  intro v279 w63 ho64 hb hg_ hnew_
                  clear hg_ hnew_
                  (first | rw [← Ny278.out] at ho64 | (simp only [Int.reduceToNat] at ho64; rw [← Ny278.out] at ho64))
                  replace HO268 := Zaa.mk (Kd.R_below (zrk HO268) hb)
                  have HO280 := Zaa.mk (Kd.R_lower ho64 (Zai (zb6 HB (Zaj.ge HI262.out) GE270.out)))
                  replace BK270 := Zaa.mk (Zah (g := gb270) (o := .cells #[.int .i64 t263, .int .i64 t264, .int .i64 t265, .slice Ao56 t266.length co56] 51 (0, 0)) (zbk BK270) hb)
                  replace HB := Zaa.mk (Zae (zb6 HB (Zaj.ge HI262.out) GE270.out) hb)
                  replace HI262 := Zaa.mk (Zaj.below (zl18 HI262 NB262_270.out) hb)
                  clear hb ho64
                  refine hK.out _ _ trivial (fun hHeld => ?_)
                  clear hK K
                  refine norm_ (a' := ?_) ?_ ?_
                  rotate_left
                  ·show Act.put _ (some 37) _ = _
                   simp only [Act.put, List.setIfInBounds_toArray, List.set_cons_zero, List.set_cons_succ, Zax, Zay]
                   rfl
                  refine one_ (i := 8) (N := some 38) #[true, true, true, true, true, true, true, true, true, false, true, true, true, true, false, false, false, false, false, false, false, false, false, false, false, false, false, false, false, false, false, false, false, false, false, false, false, false, false, false, false, false, false, false, false, false, false, false, false, false, false] rfl rfl (Zbq HT_.out (by kernel_rfl)) (by decide) (fun K hK => ?_)
                  have hcv65 := Zcc (P := Tryz.prog) Tryz.underlying22 Tryz.underlying5 Tryz.underlying9 (Kd.own_of_R HO280.out)
                  refine value_ (w1 := ?_) (v := ?_) (by rfl) rfl ?_ ?_
                  rotate_left 2
                  ·go_simp
                   constructor
                   ·rfl
                   ·rfl
                  clear hcv65
                  refine hK.out _ _ trivial (fun hHeld => ?_)
                  clear hK K
                  refine norm_ (a' := ?_) ?_ ?_
                  rotate_left
                  ·show Act.put _ (some 38) _ = _
                   simp only [Act.put, List.setIfInBounds_toArray, List.set_cons_zero, List.set_cons_succ, Zax, Zay]
                   rfl
                  refine Za4 (i := 9) (N := some 39) (v := ?_) (a' := ?_) #[true, true, true, true, true, true, true, true, true, true, true, true, true, true, false, false, false, false, false, false, false, false, false, false, false, false, false, false, false, false, false, false, false, false, false, false, false, false, false, false, false, false, false, false, false, false, false, false, false, false, false] rfl rfl (Zaz HT_.out (by kernel_rfl)) (fun _ _ _ h => h) (Or.inl ⟨by rfl, ?_⟩) ?_ ?_
                  rotate_left
                  ·intro w'
                   go_simp
                   with_reducible rfl
                  rotate_left
                  ·simp only [Act.put, List.setIfInBounds_toArray, List.set_cons_zero, List.set_cons_succ, Zax, Zay]
                   rfl
                  refine Za4 (i := 14) (N := some 44) (v := ?_) (a' := ?_) #[true, true, true, true, true, true, true, true, true, true, true, true, true, true, true, false, false, false, false, false, false, false, false, false, false, false, false, false, false, false, false, false, false, false, false, false, false, false, false, false, false, false, false, false, false, false, false, false, false, false, false] rfl rfl (Zaz HT_.out (by kernel_rfl)) (fun _ _ _ h => h) (Or.inl ⟨by rfl, ?_⟩) ?_ ?_
                  rotate_left
                  ·intro w'
                   go_simp
                   with_reducible rfl
                  rotate_left
                  ·simp only [Act.put, List.setIfInBounds_toArray, List.set_cons_zero, List.set_cons_succ, Zax, Zay]
                   rfl
                  refine one_ (i := 15) (N := some 45) #[true, true, true, true, true, true, true, true, true, true, true, true, true, true, true, true, false, false, false, false, false, false, false, false, false, false, false, false, false, false, false, false, false, false, false, false, false, false, false, false, false, false, false, false, false, false, false, false, false, false, false] rfl rfl (Zbq HT_.out (by kernel_rfl)) (by decide) (fun K hK => ?_)
                  refine goes_ Tryz.func20 (by kernel_rfl) rfl #[.string (((t272.extract 0 (t275 : Int).toNat) ++ (strOfNums y278)) ++ (t272.extract ((ji26) : Int).toNat t272.size))] (by rfl) rfl rfl (by (try simp only [List.map_toArray, List.map_cons, List.map_nil]); first | done | (simp only [hji26]; rfl) | rfl | (simp only [List.length_drop, List.length_take]; rfl)) ?_
                  with_reducible refine (kauditlaw03_reads.calls k (((t272.extract 0 (t275 : Int).toNat) ++ (strOfNums y278)) ++ (t272.extract ((ji26) : Int).toNat t272.size)) true _ ?side1 ?side2 A30.out).mono ?_
                  (case side1 => exact GT.below (by decide) HG.out (zb6 HB (Zaj.ge HI262.out) GE270.out))
                  (case side2 => rfl)
                  rintro e w66 ⟨rfl, hb⟩
                  refine ⟨_, rfl, ?_⟩
                  replace HO268 := Zaa.mk (Kd.R_below (zrk HO268) hb)
                  replace HO280 := Zaa.mk (Kd.R_below (zrk HO280) hb)
                  replace BK270 := Zaa.mk (Zah (g := gb270) (o := .cells #[.int .i64 t263, .int .i64 t264, .int .i64 t265, .slice Ao56 t266.length co56] 51 (0, 0)) (zbk BK270) hb)
                  replace HB := Zaa.mk (Zae (zb6 HB (Zaj.ge HI262.out) GE270.out) hb)
                  replace HI262 := Zaa.mk (Zaj.below (zl18 HI262 NB262_270.out) hb)
                  (try clear hb)
                  (try clear hb2)
                  (try clear hk)
                  (try clear hi)
                  refine hK.out _ _ trivial (fun hHeld => ?_)
                  clear hK K
                  refine norm_ (a' := ?_) ?_ ?_
                  rotate_left
                  ·show Act.put _ (some 45) _ = _
                   simp only [Act.put, List.setIfInBounds_toArray, List.set_cons_zero, List.set_cons_succ, Zax, Zay]
                   rfl
                  refine Za4 (i := 16) (N := some 46) (v := ?_) (a' := ?_) #[true, true, true, true, true, true, true, true, true, true, true, true, true, true, true, true, true, false, false, false, false, false, false, false, false, false, false, false, false, false, false, false, false, false, false, false, false, false, false, false, false, false, false, false, false, false, false, false, false, false, false] rfl rfl (Zaz HT_.out (by kernel_rfl)) (fun _ _ _ h => h) (Or.inl ⟨by rfl, ?_⟩) ?_ ?_
                  rotate_left
                  ·intro w'
                   go_simp
                   with_reducible rfl
                  rotate_left
                  ·simp only [Act.put, List.setIfInBounds_toArray, List.set_cons_zero, List.set_cons_succ, Zax, Zay]
                   rfl
                  refine Za4 (i := 17) (N := some 47) (v := ?_) (a' := ?_) #[true, true, true, true, true, true, true, true, true, true, true, true, true, true, true, true, true, true, false, false, false, false, false, false, false, false, false, false, false, false, false, false, false, false, false, false, false, false, false, false, false, false, false, false, false, false, false, false, false, false, false] rfl rfl (Zaz HT_.out (by kernel_rfl)) (fun _ _ _ h => h) (Or.inl ⟨by rfl, ?_⟩) ?_ ?_
                  rotate_left
                  ·intro w'
                   go_simp
                   with_reducible rfl
                  rotate_left
                  ·simp only [Act.put, List.setIfInBounds_toArray, List.set_cons_zero, List.set_cons_succ, Zax, Zay]
                   rfl
                  refine Za4 (i := 18) (N := some 48) (v := ?_) (a' := ?_) #[true, true, true, true, true, true, true, true, true, true, true, true, true, true, true, true, true, true, true, false, false, false, false, false, false, false, false, false, false, false, false, false, false, false, false, false, false, false, false, false, false, false, false, false, false, false, false, false, false, false, false] rfl rfl (Zaz HT_.out (by kernel_rfl)) (fun _ _ _ h => h) (Or.inl ⟨by rfl, ?_⟩) ?_ ?_
                  rotate_left
                  ·intro w'
                   go_simp
                   with_reducible rfl
                  rotate_left
                  ·simp only [Act.put, List.setIfInBounds_toArray, List.set_cons_zero, List.set_cons_succ, Zax, Zay]
                   rfl
                  refine Za4 (i := 19) (N := some 49) (v := ?_) (a' := ?_) #[true, true, true, true, true, true, true, true, true, true, true, true, true, true, true, true, true, true, true, true, false, false, false, false, false, false, false, false, false, false, false, false, false, false, false, false, false, false, false, false, false, false, false, false, false, false, false, false, false, false, false] rfl rfl (Zaz HT_.out (by kernel_rfl)) (fun _ _ _ h => h) (Or.inl ⟨by rfl, ?_⟩) ?_ ?_
                  rotate_left
                  ·intro w'
                   go_simp
                   with_reducible rfl
                  rotate_left
                  ·simp only [Act.put, List.setIfInBounds_toArray, List.set_cons_zero, List.set_cons_succ, Zax, Zay]
                   rfl
                  refine Za4 (i := 20) (N := some 50) (v := ?_) (a' := ?_) #[true, true, true, true, true, true, true, true, true, true, true, true, true, true, true, true, true, true, true, true, true, false, false, false, false, false, false, false, false, false, false, false, false, false, false, false, false, false, false, false, false, false, false, false, false, false, false, false, false, false, false] rfl rfl (Zaz HT_.out (by kernel_rfl)) (fun _ _ _ h => h) (Or.inl ⟨by rfl, ?_⟩) ?_ ?_
                  rotate_left
                  ·intro w'
                   go_simp
                   with_reducible rfl
                  rotate_left
                  ·simp only [Act.put, List.setIfInBounds_toArray, List.set_cons_zero, List.set_cons_succ, Zax, Zay]
                   rfl
                  refine Za4 (i := 21) (N := some 51) (v := ?_) (a' := ?_) #[true, true, true, true, true, true, true, true, true, true, true, true, true, true, true, true, true, true, true, true, true, true, false, false, false, false, false, false, false, false, false, false, false, false, false, false, false, false, false, false, false, false, false, false, false, false, false, false, false, false, false] rfl rfl (Zaz HT_.out (by kernel_rfl)) (fun _ _ _ h => h) (Or.inl ⟨by rfl, ?_⟩) ?_ ?_
                  rotate_left
                  ·intro w'
                   go_simp
                   with_reducible rfl
                  rotate_left
                  ·simp only [Act.put, List.setIfInBounds_toArray, List.set_cons_zero, List.set_cons_succ, Zax, Zay]
                   rfl
                  refine Za4 (i := 22) (N := some 52) (v := ?_) (a' := ?_) #[true, true, true, true, true, true, true, true, true, true, true, true, true, true, true, true, true, true, true, true, true, true, true, false, false, false, false, false, false, false, false, false, false, false, false, false, false, false, false, false, false, false, false, false, false, false, false, false, false, false, false] rfl rfl (Zaz HT_.out (by kernel_rfl)) (fun _ _ _ h => h) (Or.inl ⟨by rfl, ?_⟩) ?_ ?_
                  rotate_left
                  ·intro w'
                   go_simp
                   with_reducible rfl
                  rotate_left
                  ·simp only [Act.put, List.setIfInBounds_toArray, List.set_cons_zero, List.set_cons_succ, Zax, Zay]
                   rfl
                  refine Za4 (i := 23) (N := some 53) (v := ?_) (a' := ?_) #[true, true, true, true, true, true, true, true, true, true, true, true, true, true, true, true, true, true, true, true, true, true, true, true, false, false, false, false, false, false, false, false, false, false, false, false, false, false, false, false, false, false, false, false, false, false, false, false, false, false, false] rfl rfl (Zaz HT_.out (by kernel_rfl)) (fun _ _ _ h => h) (Or.inl ⟨by rfl, ?_⟩) ?_ ?_
                  rotate_left
                  ·intro w'
                   go_simp
                   with_reducible rfl
                  rotate_left
                  ·simp only [Act.put, List.setIfInBounds_toArray, List.set_cons_zero, List.set_cons_succ, Zax, Zay]
                   rfl
                  refine Za4 (i := 24) (N := some 54) (v := ?_) (a' := ?_) #[true, true, true, true, true, true, true, true, true, true, true, true, true, true, true, true, true, true, true, true, true, true, true, true, true, false, false, false, false, false, false, false, false, false, false, false, false, false, false, false, false, false, false, false, false, false, false, false, false, false, false] rfl rfl (Zaz HT_.out (by kernel_rfl)) (fun _ _ _ h => h) (Or.inl ⟨by rfl, ?_⟩) ?_ ?_
                  rotate_left
                  ·intro w'
                   go_simp
                   with_reducible rfl
                  rotate_left
                  ·simp only [Act.put, List.setIfInBounds_toArray, List.set_cons_zero, List.set_cons_succ, Zax, Zay]
                   rfl
                  refine Za4 (i := 25) (N := some 55) (v := ?_) (a' := ?_) #[true, true, true, true, true, true, true, true, true, true, true, true, true, true, true, true, true, true, true, true, true, true, true, true, true, true, false, false, false, false, false, false, false, false, false, false, false, false, false, false, false, false, false, false, false, false, false, false, false, false, false] rfl rfl (Zaz HT_.out (by kernel_rfl)) (fun _ _ _ h => h) (Or.inl ⟨by rfl, ?_⟩) ?_ ?_
                  rotate_left
                  ·intro w'
                   go_simp
                   with_reducible rfl
                  rotate_left
                  ·simp only [Act.put, List.setIfInBounds_toArray, List.set_cons_zero, List.set_cons_succ, Zax, Zay]
                   rfl
                  refine one_ (i := 26) (N := some 56) #[true, true, true, true, true, true, true, true, true, true, true, true, true, true, true, true, true, true, true, true, true, true, true, true, true, true, true, false, false, false, false, false, false, false, false, false, false, false, false, false, false, false, false, false, false, false, false, false, false, false, false] rfl rfl (Zbq HT_.out (by kernel_rfl)) (by decide) (fun K hK => ?_)
                  refine goes_ Tryz.func20 (by kernel_rfl) rfl #[.string ((t272.extract 0 (t275 : Int).toNat) ++ (t272.extract ((ji26) : Int).toNat t272.size))] (by rfl) rfl rfl (by (try simp only [List.map_toArray, List.map_cons, List.map_nil]); first | done | (simp only [hji26]; rfl) | rfl | (simp only [List.length_drop, List.length_take]; rfl)) ?_
                  with_reducible refine (kauditlaw03_reads.calls k ((t272.extract 0 (t275 : Int).toNat) ++ (t272.extract ((ji26) : Int).toNat t272.size)) true _ ?side1 ?side2 A37.out).mono ?_
                  (case side1 => exact GT.below (by decide) HG.out (zb6 HB (Zaj.ge HI262.out) GE270.out))
                  (case side2 => rfl)
                  rintro e w67 ⟨rfl, hb⟩
                  refine ⟨_, rfl, ?_⟩
                  replace HO268 := Zaa.mk (Kd.R_below (zrk HO268) hb)
                  replace HO280 := Zaa.mk (Kd.R_below (zrk HO280) hb)
                  replace BK270 := Zaa.mk (Zah (g := gb270) (o := .cells #[.int .i64 t263, .int .i64 t264, .int .i64 t265, .slice Ao56 t266.length co56] 51 (0, 0)) (zbk BK270) hb)
                  replace HB := Zaa.mk (Zae (zb6 HB (Zaj.ge HI262.out) GE270.out) hb)
                  replace HI262 := Zaa.mk (Zaj.below (zl18 HI262 NB262_270.out) hb)
                  (try clear hb)
                  (try clear hb2)
                  (try clear hk)
                  (try clear hi)
                  refine hK.out _ _ trivial (fun hHeld => ?_)
                  clear hK K
                  refine norm_ (a' := ?_) ?_ ?_
                  rotate_left
                  ·show Act.put _ (some 56) _ = _
                   simp only [Act.put, List.setIfInBounds_toArray, List.set_cons_zero, List.set_cons_succ, Zax, Zay]
                   rfl
                  refine Za4 (i := 27) (N := some 57) (v := ?_) (a' := ?_) #[true, true, true, true, true, true, true, true, true, true, true, true, true, true, true, true, true, true, true, true, true, true, true, true, true, true, true, true, false, false, false, false, false, false, false, false, false, false, false, false, false, false, false, false, false, false, false, false, false, false, false] rfl rfl (Zaz HT_.out (by kernel_rfl)) (fun _ _ _ h => h) (Or.inl ⟨by rfl, ?_⟩) ?_ ?_
                  rotate_left
                  ·intro w'
                   go_simp
                   with_reducible rfl
                  rotate_left
                  ·simp only [Act.put, List.setIfInBounds_toArray, List.set_cons_zero, List.set_cons_succ, Zax, Zay]
                   rfl
                  refine Za4 (i := 28) (N := some 58) (v := ?_) (a' := ?_) #[true, true, true, true, true, true, true, true, true, true, true, true, true, true, true, true, true, true, true, true, true, true, true, true, true, true, true, true, true, false, false, false, false, false, false, false, false, false, false, false, false, false, false, false, false, false, false, false, false, false, false] rfl rfl (Zaz HT_.out (by kernel_rfl)) (fun _ _ _ h => h) (Or.inl ⟨by rfl, ?_⟩) ?_ ?_
                  rotate_left
                  ·intro w'
                   go_simp
                   with_reducible rfl
                  rotate_left
                  ·simp only [Act.put, List.setIfInBounds_toArray, List.set_cons_zero, List.set_cons_succ, Zax, Zay]
                   rfl
                  refine Za4 (i := 29) (N := some 59) (v := ?_) (a' := ?_) #[true, true, true, true, true, true, true, true, true, true, true, true, true, true, true, true, true, true, true, true, true, true, true, true, true, true, true, true, true, true, false, false, false, false, false, false, false, false, false, false, false, false, false, false, false, false, false, false, false, false, false] rfl rfl (Zaz HT_.out (by kernel_rfl)) (fun _ _ _ h => h) (Or.inl ⟨by rfl, ?_⟩) ?_ ?_
                  rotate_left
                  ·intro w'
                   go_simp
                   with_reducible rfl
                  rotate_left
                  ·simp only [Act.put, List.setIfInBounds_toArray, List.set_cons_zero, List.set_cons_succ, Zax, Zay]
                   rfl
                  refine Za4 (i := 30) (N := some 60) (v := ?_) (a' := ?_) #[true, true, true, true, true, true, true, true, true, true, true, true, true, true, true, true, true, true, true, true, true, true, true, true, true, true, true, true, true, true, true, false, false, false, false, false, false, false, false, false, false, false, false, false, false, false, false, false, false, false, false] rfl rfl (Zaz HT_.out (by kernel_rfl)) (fun _ _ _ h => h) (Or.inl ⟨by rfl, ?_⟩) ?_ ?_
                  rotate_left
                  ·intro w'
                   go_simp
                   with_reducible rfl
                  rotate_left
                  ·simp only [Act.put, List.setIfInBounds_toArray, List.set_cons_zero, List.set_cons_succ, Zax, Zay]
                   rfl
                  refine Za4 (i := 31) (N := some 61) (v := ?_) (a' := ?_) #[true, true, true, true, true, true, true, true, true, true, true, true, true, true, true, true, true, true, true, true, true, true, true, true, true, true, true, true, true, true, true, true, false, false, false, false, false, false, false, false, false, false, false, false, false, false, false, false, false, false, false] rfl rfl (Zaz HT_.out (by kernel_rfl)) (fun _ _ _ h => h) (Or.inl ⟨by rfl, ?_⟩) ?_ ?_
                  rotate_left
                  ·intro w'
                   go_simp
                   with_reducible rfl
                  rotate_left
                  ·simp only [Act.put, List.setIfInBounds_toArray, List.set_cons_zero, List.set_cons_succ, Zax, Zay]
                   rfl
                  refine Za4 (i := 32) (N := some 62) (v := ?_) (a' := ?_) #[true, true, true, true, true, true, true, true, true, true, true, true, true, true, true, true, true, true, true, true, true, true, true, true, true, true, true, true, true, true, true, true, true, false, false, false, false, false, false, false, false, false, false, false, false, false, false, false, false, false, false] rfl rfl (Zaz HT_.out (by kernel_rfl)) (fun _ _ _ h => h) (Or.inl ⟨by rfl, ?_⟩) ?_ ?_
                  rotate_left
                  ·intro w'
                   go_simp
                   with_reducible rfl
                  rotate_left
                  ·simp only [Act.put, List.setIfInBounds_toArray, List.set_cons_zero, List.set_cons_succ, Zax, Zay]
                   rfl
                  refine Za4 (i := 36) (N := some 66) (v := ?_) (a' := ?_) #[true, true, true, true, true, true, true, true, true, true, true, true, true, true, true, true, true, true, true, true, true, true, true, true, true, true, true, true, true, true, true, true, true, false, false, false, true, false, false, false, false, false, false, false, false, false, false, false, false, false, false] rfl rfl (Zaz HT_.out (by kernel_rfl)) (fun _ _ _ h => h) (Or.inl ⟨by rfl, ?_⟩) ?_ ?_
                  rotate_left
                  ·intro w'
                   go_simp
                   with_reducible rfl
                  rotate_left
                  ·simp only [Act.put, List.setIfInBounds_toArray, List.set_cons_zero, List.set_cons_succ, Zax, Zay]
                   rfl
                  refine Za4 (i := 37) (N := some 67) (v := ?_) (a' := ?_) #[true, true, true, true, true, true, true, true, true, true, true, true, true, true, true, true, true, true, true, true, true, true, true, true, true, true, true, true, true, true, true, true, true, false, false, false, true, true, false, false, false, false, false, false, false, false, false, false, false, false, false] rfl rfl (Zaz HT_.out (by kernel_rfl)) (fun _ _ _ h => h) (Or.inl ⟨by rfl, ?_⟩) ?_ ?_
                  rotate_left
                  ·intro w'
                   go_simp
                   with_reducible rfl
                  rotate_left
                  ·simp only [Act.put, List.setIfInBounds_toArray, List.set_cons_zero, List.set_cons_succ, Zax, Zay]
                   rfl
                  refine Za4 (i := 38) (N := some 68) (v := ?_) (a' := ?_) #[true, true, true, true, true, true, true, true, true, true, true, true, true, true, true, true, true, true, true, true, true, true, true, true, true, true, true, true, true, true, true, true, true, false, false, false, true, true, true, false, false, false, false, false, false, false, false, false, false, false, false] rfl rfl (Zaz HT_.out (by kernel_rfl)) (fun _ _ _ h => h) (Or.inl ⟨by rfl, ?_⟩) ?_ ?_
                  rotate_left
                  ·intro w'
                   go_simp
                   with_reducible rfl
                  rotate_left
                  ·simp only [Act.put, List.setIfInBounds_toArray, List.set_cons_zero, List.set_cons_succ, Zax, Zay]
                   rfl
                  refine one_ (i := 33) (N := some 63) #[true, true, true, true, true, true, true, true, true, true, true, true, true, true, true, true, true, true, true, true, true, true, true, true, true, true, true, true, true, true, true, true, true, true, false, false, true, true, true, false, false, false, false, false, false, false, false, false, false, false, false] rfl rfl (Zbq HT_.out (by kernel_rfl)) (by decide) (fun K hK => ?_)
                  refine Kd.R_lit_step (Kd.int .u8) _ 5 ?hg (N := 63) ?hd (xs := ([a1] : List Int)) (inner := [.int .u8 a1]) (ok := fun _ => True) (okp := fun _ => True) ?hr ?hp (fun _ hk => hk) trivial (Below.refl _ _) (Nat.le_refl _) (by simp) ?_; (case hd => rfl); (case hg => rfl); (case hr => first | (go_simp; done) | (go_simp; rfl)); (case hp => exact (Reps.one (show Kd.M (Kd.int .u8) _ _ _ a1 [.int .u8 a1] from rfl) (Reps.none _ _)))
                  intro v284 w68 ho69 hb hg_ hnew_
                  clear hg_ hnew_
                  (first | rw [← Ny283.out] at ho69 | (simp only [Int.reduceToNat] at ho69; rw [← Ny283.out] at ho69))
                  replace HO268 := Zaa.mk (Kd.R_below (zrk HO268) hb)
                  have HO285 := Zaa.mk (Kd.R_lower (Kd.R_new' ho69 (Kd.R_lt (zrk HO280))) (Zai (zb6 HB (Zaj.ge HI262.out) GE270.out)))
                  replace HO280 := Zaa.mk (Kd.R_elder' (zrk HO280) (Kd.R_base ho69) hb)
                  replace BK270 := Zaa.mk (Zah (g := gb270) (o := .cells #[.int .i64 t263, .int .i64 t264, .int .i64 t265, .slice Ao56 t266.length co56] 51 (0, 0)) (zbk BK270) hb)
                  replace HB := Zaa.mk (Zae (zb6 HB (Zaj.ge HI262.out) GE270.out) hb)
                  replace HI262 := Zaa.mk (Zaj.below (zl18 HI262 NB262_270.out) hb)
                  clear hb ho69
                  refine hK.out _ _ trivial (fun hHeld => ?_)
                  clear hK K
                  refine norm_ (a' := ?_) ?_ ?_
                  rotate_left
                  ·show Act.put _ (some 63) _ = _
                   simp only [Act.put, List.setIfInBounds_toArray, List.set_cons_zero, List.set_cons_succ, Zax, Zay]
                   rfl
                  refine one_ (i := 34) (N := some 64) #[true, true, true, true, true, true, true, true, true, true, true, true, true, true, true, true, true, true, true, true, true, true, true, true, true, true, true, true, true, true, true, true, true, true, true, false, true, true, true, false, false, false, false, false, false, false, false, false, false, false, false] rfl rfl (Zbq HT_.out (by kernel_rfl)) (by decide) (fun K hK => ?_)
                  have hcv70 := Zcc (P := Tryz.prog) Tryz.underlying22 Tryz.underlying5 Tryz.underlying9 (Kd.own_of_R HO285.out)
                  refine value_ (w1 := ?_) (v := ?_) (by rfl) rfl ?_ ?_
                  rotate_left 2
                  ·go_simp
                   constructor
                   ·rfl
                   ·rfl
                  clear hcv70
                  refine hK.out _ _ trivial (fun hHeld => ?_)
                  clear hK K
                  refine norm_ (a' := ?_) ?_ ?_
                  rotate_left
                  ·show Act.put _ (some 64) _ = _
                   simp only [Act.put, List.setIfInBounds_toArray, List.set_cons_zero, List.set_cons_succ, Zax, Zay]
                   rfl
                  refine Za4 (i := 35) (N := some 65) (v := ?_) (a' := ?_) #[true, true, true, true, true, true, true, true, true, true, true, true, true, true, true, true, true, true, true, true, true, true, true, true, true, true, true, true, true, true, true, true, true, true, true, true, true, true, true, false, false, false, false, false, false, false, false, false, false, false, false] rfl rfl (Zaz HT_.out (by kernel_rfl)) (fun _ _ _ h => h) (Or.inl ⟨by rfl, ?_⟩) ?_ ?_
                  rotate_left
                  ·intro w'
                   go_simp
                   with_reducible rfl
                  rotate_left
                  ·simp only [Act.put, List.setIfInBounds_toArray, List.set_cons_zero, List.set_cons_succ, Zax, Zay]
                   rfl
                  refine Za4 (i := 39) (N := some 69) (v := ?_) (a' := ?_) #[true, true, true, true, true, true, true, true, true, true, true, true, true, true, true, true, true, true, true, true, true, true, true, true, true, true, true, true, true, true, true, true, true, true, true, true, true, true, true, true, false, false, false, false, false, false, false, false, false, false, false] rfl rfl (Zaz HT_.out (by kernel_rfl)) (fun _ _ _ h => h) (Or.inl ⟨by rfl, ?_⟩) ?_ ?_
                  rotate_left
                  ·intro w'
                   go_simp
                   with_reducible rfl
                  rotate_left
                  ·simp only [Act.put, List.setIfInBounds_toArray, List.set_cons_zero, List.set_cons_succ, Zax, Zay]
                   rfl
                  refine one_ (i := 40) (N := some 70) #[true, true, true, true, true, true, true, true, true, true, true, true, true, true, true, true, true, true, true, true, true, true, true, true, true, true, true, true, true, true, true, true, true, true, true, true, true, true, true, true, true, false, false, false, false, false, false, false, false, false, false] rfl rfl (Zbq HT_.out (by kernel_rfl)) (by decide) (fun K hK => ?_)
                  refine goes_ Tryz.func20 (by kernel_rfl) rfl #[.string (((t272.extract 0 (t275 : Int).toNat) ++ (strOfNums y283)) ++ (t272.extract (t275 : Int).toNat t272.size))] (by rfl) rfl rfl zam ?_
                  with_reducible refine (kauditlaw03_reads.calls k (((t272.extract 0 (t275 : Int).toNat) ++ (strOfNums y283)) ++ (t272.extract (t275 : Int).toNat t272.size)) true _ ?side1 ?side2 A45.out).mono ?_
                  (case side1 => exact GT.below (by decide) HG.out (zb6 HB (Zaj.ge HI262.out) GE270.out))
                  (case side2 => rfl)
                  rintro e w71 ⟨rfl, hb⟩
                  refine ⟨_, rfl, ?_⟩
                  replace HO268 := Zaa.mk (Kd.R_below (zrk HO268) hb)
                  replace HO280 := Zaa.mk (Kd.R_below (zrk HO280) hb)
                  replace HO285 := Zaa.mk (Kd.R_below (zrk HO285) hb)
                  replace BK270 := Zaa.mk (Zah (g := gb270) (o := .cells #[.int .i64 t263, .int .i64 t264, .int .i64 t265, .slice Ao56 t266.length co56] 51 (0, 0)) (zbk BK270) hb)
                  replace HB := Zaa.mk (Zae (zb6 HB (Zaj.ge HI262.out) GE270.out) hb)
                  replace HI262 := Zaa.mk (Zaj.below (zl18 HI262 NB262_270.out) hb)
                  (try clear hb)
                  (try clear hb2)
                  (try clear hk)
                  (try clear hi)
                  refine hK.out _ _ trivial (fun hHeld => ?_)
                  clear hK K
                  refine norm_ (a' := ?_) ?_ ?_
                  rotate_left
                  ·show Act.put _ (some 70) _ = _
                   simp only [Act.put, List.setIfInBounds_toArray, List.set_cons_zero, List.set_cons_succ, Zax, Zay]
                   rfl
                  refine Za4 (i := 41) (N := some 71) (v := ?_) (a' := ?_) #[true, true, true, true, true, true, true, true, true, true, true, true, true, true, true, true, true, true, true, true, true, true, true, true, true, true, true, true, true, true, true, true, true, true, true, true, true, true, true, true, true, true, false, false, false, false, false, false, false, false, false] rfl rfl (Zaz HT_.out (by kernel_rfl)) (fun _ _ _ h => h) (Or.inl ⟨by rfl, ?_⟩) ?_ ?_
                  rotate_left
                  ·intro w'
                   go_simp
                   with_reducible rfl
                  rotate_left
                  ·simp only [Act.put, List.setIfInBounds_toArray, List.set_cons_zero, List.set_cons_succ, Zax, Zay]
                   rfl
                  refine Za4 (i := 42) (N := some 72) (v := ?_) (a' := ?_) #[true, true, true, true, true, true, true, true, true, true, true, true, true, true, true, true, true, true, true, true, true, true, true, true, true, true, true, true, true, true, true, true, true, true, true, true, true, true, true, true, true, true, true, false, false, false, false, false, false, false, false] rfl rfl (Zaz HT_.out (by kernel_rfl)) (fun _ _ _ h => h) (Or.inl ⟨by rfl, ?_⟩) ?_ ?_
                  rotate_left
                  ·intro w'
                   go_simp
                   with_reducible rfl
                  rotate_left
                  ·simp only [Act.put, List.setIfInBounds_toArray, List.set_cons_zero, List.set_cons_succ, Zax, Zay]
                   rfl
                  refine Za4 (i := 43) (N := some 73) (v := ?_) (a' := ?_) #[true, true, true, true, true, true, true, true, true, true, true, true, true, true, true, true, true, true, true, true, true, true, true, true, true, true, true, true, true, true, true, true, true, true, true, true, true, true, true, true, true, true, true, true, false, false, false, false, false, false, false] rfl rfl (Zaz HT_.out (by kernel_rfl)) (fun _ _ _ h => h) (Or.inl ⟨by rfl, ?_⟩) ?_ ?_
                  rotate_left
                  ·intro w'
                   go_simp
                   with_reducible rfl
                  rotate_left
                  ·simp only [Act.put, List.setIfInBounds_toArray, List.set_cons_zero, List.set_cons_succ, Zax, Zay]
                   rfl
                  refine Za4 (i := 44) (N := some 74) (v := ?_) (a' := ?_) #[true, true, true, true, true, true, true, true, true, true, true, true, true, true, true, true, true, true, true, true, true, true, true, true, true, true, true, true, true, true, true, true, true, true, true, true, true, true, true, true, true, true, true, true, true, false, false, false, false, false, false] rfl rfl (Zaz HT_.out (by kernel_rfl)) (fun _ _ _ h => h) (Or.inl ⟨by rfl, ?_⟩) ?_ ?_
                  rotate_left
                  ·intro w'
                   go_simp
                   with_reducible rfl
                  rotate_left
                  ·simp only [Act.put, List.setIfInBounds_toArray, List.set_cons_zero, List.set_cons_succ, Zax, Zay]
                   rfl
                  refine one_ (i := 45) (N := some 75) #[true, true, true, true, true, true, true, true, true, true, true, true, true, true, true, true, true, true, true, true, true, true, true, true, true, true, true, true, true, true, true, true, true, true, true, true, true, true, true, true, true, true, true, true, true, true, false, false, false, false, false] rfl rfl (Zbq HT_.out (by kernel_rfl)) (by decide) (fun K hK => ?_)
                  refine goes_ Tryz.func20 (by kernel_rfl) rfl #[.string (t272 ++ (⟨#[32]⟩ : ByteArray))] (by rfl) rfl rfl zam ?_
                  with_reducible refine (kauditlaw03_reads.calls k (t272 ++ (⟨#[32]⟩ : ByteArray)) true _ ?side1 ?side2 A48.out).mono ?_
                  (case side1 => exact GT.below (by decide) HG.out (zb6 HB (Zaj.ge HI262.out) GE270.out))
                  (case side2 => rfl)
                  rintro e w72 ⟨rfl, hb⟩
                  refine ⟨_, rfl, ?_⟩
                  replace HO268 := Zaa.mk (Kd.R_below (zrk HO268) hb)
                  replace HO280 := Zaa.mk (Kd.R_below (zrk HO280) hb)
                  replace HO285 := Zaa.mk (Kd.R_below (zrk HO285) hb)
                  replace BK270 := Zaa.mk (Zah (g := gb270) (o := .cells #[.int .i64 t263, .int .i64 t264, .int .i64 t265, .slice Ao56 t266.length co56] 51 (0, 0)) (zbk BK270) hb)
                  replace HB := Zaa.mk (Zae (zb6 HB (Zaj.ge HI262.out) GE270.out) hb)
                  replace HI262 := Zaa.mk (Zaj.below (zl18 HI262 NB262_270.out) hb)
                  (try clear hb)
                  (try clear hb2)
                  (try clear hk)
                  (try clear hi)
                  refine hK.out _ _ trivial (fun hHeld => ?_)
                  clear hK K
                  refine norm_ (a' := ?_) ?_ ?_
                  rotate_left
                  ·show Act.put _ (some 75) _ = _
                   simp only [Act.put, List.setIfInBounds_toArray, List.set_cons_zero, List.set_cons_succ, Zax, Zay]
                   rfl
                  refine Za4 (i := 46) (N := some 76) (v := ?_) (a' := ?_) #[true, true, true, true, true, true, true, true, true, true, true, true, true, true, true, true, true, true, true, true, true, true, true, true, true, true, true, true, true, true, true, true, true, true, true, true, true, true, true, true, true, true, true, true, true, true, true, false, false, false, false] rfl rfl (Zaz HT_.out (by kernel_rfl)) (fun _ _ _ h => h) (Or.inl ⟨by rfl, ?_⟩) ?_ ?_
                  rotate_left
                  ·intro w'
                   go_simp
                   with_reducible rfl
                  rotate_left
                  ·simp only [Act.put, List.setIfInBounds_toArray, List.set_cons_zero, List.set_cons_succ, Zax, Zay]
                   rfl
                  refine Za4 (i := 47) (N := some 77) (v := ?_) (a' := ?_) #[true, true, true, true, true, true, true, true, true, true, true, true, true, true, true, true, true, true, true, true, true, true, true, true, true, true, true, true, true, true, true, true, true, true, true, true, true, true, true, true, true, true, true, true, true, true, true, true, false, false, false] rfl rfl (Zaz HT_.out (by kernel_rfl)) (fun _ _ _ h => h) (Or.inl ⟨by rfl, ?_⟩) ?_ ?_
                  rotate_left
                  ·intro w'
                   go_simp
                   with_reducible rfl
                  rotate_left
                  ·simp only [Act.put, List.setIfInBounds_toArray, List.set_cons_zero, List.set_cons_succ, Zax, Zay]
                   rfl
                  refine one_ (i := 48) (N := some 78) #[true, true, true, true, true, true, true, true, true, true, true, true, true, true, true, true, true, true, true, true, true, true, true, true, true, true, true, true, true, true, true, true, true, true, true, true, true, true, true, true, true, true, true, true, true, true, true, true, true, false, false] rfl rfl (Zbq HT_.out (by kernel_rfl)) (by decide) (fun K hK => ?_)
                  refine goes_ Tryz.func18 (by kernel_rfl) rfl #[] (by rfl) rfl rfl zam ?_
                  with_reducible refine (kauditlaw03_awake.calls  t288 _ ?side1 A50.out).mono ?_
                  (case side1 => exact GT.below (by decide) HG.out (zb6 HB (Zaj.ge HI262.out) GE270.out))
                  rintro e w73 ⟨rfl, hb⟩
                  refine ⟨_, rfl, ?_⟩
                  replace HO268 := Zaa.mk (Kd.R_below (zrk HO268) hb)
                  replace HO280 := Zaa.mk (Kd.R_below (zrk HO280) hb)
                  replace HO285 := Zaa.mk (Kd.R_below (zrk HO285) hb)
                  replace BK270 := Zaa.mk (Zah (g := gb270) (o := .cells #[.int .i64 t263, .int .i64 t264, .int .i64 t265, .slice Ao56 t266.length co56] 51 (0, 0)) (zbk BK270) hb)
                  replace HB := Zaa.mk (Zae (zb6 HB (Zaj.ge HI262.out) GE270.out) hb)
                  replace HI262 := Zaa.mk (Zaj.below (zl18 HI262 NB262_270.out) hb)
                  (try clear hb)
                  (try clear hb2)
                  (try clear hk)
                  (try clear hi)
                  refine hK.out _ _ trivial (fun hHeld => ?_)
                  clear hK K
                  refine norm_ (a' := ?_) ?_ ?_
                  rotate_left
                  ·show Act.put _ (some 78) _ = _
                   simp only [Act.put, List.setIfInBounds_toArray, List.set_cons_zero, List.set_cons_succ, Zax, Zay]
                   rfl
                  refine Za4 (i := 49) (N := some 79) (v := ?_) (a' := ?_) #[true, true, true, true, true, true, true, true, true, true, true, true, true, true, true, true, true, true, true, true, true, true, true, true, true, true, true, true, true, true, true, true, true, true, true, true, true, true, true, true, true, true, true, true, true, true, true, true, true, true, false] rfl rfl (Zaz HT_.out (by kernel_rfl)) (fun _ _ _ h => h) (Or.inl ⟨by rfl, ?_⟩) ?_ ?_
                  rotate_left
                  ·intro w'
                   go_simp
                   with_reducible rfl
                  rotate_left
                  ·simp only [Act.put, List.setIfInBounds_toArray, List.set_cons_zero, List.set_cons_succ, Zax, Zay]
                   rfl
                  refine Za4 (i := 50) (N := some 4) (v := ?_) (a' := ?_) #[true, true, true, true, true, true, true, true, true, true, true, true, true, true, true, true, true, true, true, true, true, true, true, true, true, true, true, true, true, true, true, true, true, true, true, true, true, true, true, true, true, true, true, true, true, true, true, true, true, true, true] rfl rfl (Zaz HT_.out (by kernel_rfl)) (fun _ _ _ h => h) (Or.inl ⟨by rfl, ?_⟩) ?_ ?_
                  rotate_left
                  ·intro w'
                   go_simp
                   with_reducible rfl
                  rotate_left
                  ·simp only [Act.put, List.setIfInBounds_toArray, List.set_cons_zero, List.set_cons_succ, Zax, Zay]
                   rfl
                  refine done_ (done_of HT_.out (by kernel_rfl)) ?_
                  try go_wp2
                  go_ret
                  exact ⟨by first | rfl | (simp [errW_none, errW_some] <;> rfl) | (simp only [← hji26]; first | rfl | (simp [errW_none, errW_some] <;> rfl)) | (simp [*, errW_none, errW_some] <;> rfl), (zb6 HB (Zaj.ge HI262.out) GE270.out)⟩
                 ·replace c49 := Bool.eq_false_iff.mpr c49
                  subst c49
                  rw [if_neg (show ¬ (false = true) by decide)] at H
                  exact absurd (Option.some.inj H) (by rw [HRT.out]; decide)
                ·rw [if_neg c47] at H
                 exact absurd H (by simp)
               ·replace c46 := Bool.eq_false_iff.mpr c46
                subst c46
                rw [if_neg (show ¬ (false = true) by decide)] at H
                exact absurd (Option.some.inj H) (by rw [HRT.out]; decide)
              ·rw [if_neg c44] at H
               exact absurd H (by simp)
             ·rw [if_neg c41] at H
              exact absurd H (by simp)
            ·replace c38 := Bool.eq_false_iff.mpr c38
             subst c38
             rw [if_neg (show ¬ (false = true) by decide)] at H
             exact absurd (Option.some.inj H) (by rw [HRT.out]; decide)
           ·rw [if_neg c36] at H
            exact absurd H (by simp)
          ·replace c31 := Bool.eq_false_iff.mpr c31
           subst c31
           rw [if_neg (show ¬ (false = true) by decide)] at H
           exact absurd (Option.some.inj H) (by rw [HRT.out]; decide)
         ·rw [if_neg c29] at H
          exact absurd H (by simp)
        ·rw [if_neg c28] at H
         exact absurd H (by simp)
       ·rw [if_neg c27] at H
        exact absurd H (by simp)
      ·rw [if_neg c25] at H
       exact absurd H (by simp)
     ·rw [if_neg c24] at H
      exact absurd H (by simp)
    ·rw [if_neg c23] at H
     exact absurd H (by simp)
   ·replace c22 := Bool.eq_false_iff.mpr c22
    subst c22
    rw [if_neg (show ¬ (false = true) by decide)] at H
    exact absurd (Option.some.inj H) (by rw [HRT.out]; decide)
 ·replace c6 := Bool.eq_false_iff.mpr c6
  subst c6
  rw [if_neg (show ¬ (false = true) by decide)] at H
  exact absurd (Option.some.inj H) (by rw [HRT.out]; decide)
end Go.Proofs.YtodbabeldolcbaaGreatDoor.PA
