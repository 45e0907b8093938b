/- Contracts of functions of the program: written by pr2.py (ours, round the print of the kit) out of the translation; conditions: each contract names its own. -/
import Derived.Test.YtodbabeldolcbaaGreatDoorY9PAx10
import Derived.Test.YtodbabeldolcbaaGreatDoorY9ERefR
noncomputable section
namespace Go.Proofs.YtodbabeldolcbaaGreatDoor.PA
open Go.RowKit Go.Proofs.YtodbabeldolcbaaGreatDoorW.PrintWords Go.Proofs.YtodbabeldolcbaaGreatDoorW.PrintLast Go.Proofs.YtodbabeldolcbaaGreatDoorW.PrintMore
attribute [local go_sem] Zbg Zbe Zbs Zbr Za8 Za7 Zbf Zbd   -- for this text's walks alone
set_option linter.unusedVariables false
set_option linter.unusedSimpArgs false
def kauditlaw03_reads.f (k : Nat) (a0 : ByteArray) : Option (Bool) := (record_Parse.f a0).bind fun bt243 => ((kauditref03_Parse.f a0).bind fun bt251 => (if bt243.2.2.2.2 = bt251.2.2.2.2 then ((kauditref03_Same.f k bt243.1 bt243.2.1 bt243.2.2.1 bt243.2.2.2.1 bt251.1 bt251.2.1 bt251.2.2.1 bt251.2.2.2.1).bind fun t259 => (some t259)) else (some false)))
theorem kauditlaw03_reads.mono : ∀ a0 k, LeO (kauditlaw03_reads.f k a0) (kauditlaw03_reads.f (k + 1) a0) := by
 intro a0 k
 unfold kauditlaw03_reads.f
 repeat' first
   | (with_reducible exact kauditref03_Same.mono _ _ _ _ _ _ _ _ _)
   | (with_reducible exact LeO.refl _)
   | (with_reducible exact LeO.none _)
   | (with_reducible refine LeO.ite ?_ ?_)
   | (with_reducible refine LeO.bind ?_ (fun _ => ?_))
   | exact kauditref03_Same.mono _ _ _ _ _ _ _ _ _
   | exact LeO.none _
   | refine LeO.ite ?_ ?_
   | refine LeO.bind ?_ (fun _ => ?_)
set_option maxHeartbeats 8000000 in
set_option maxRecDepth 100000 in
theorem kauditlaw03_reads.calls (k : Nat) (a0 : ByteArray) (r : Bool) (w : World) (hG : GT 2 w) (hrt : r = true) (h : kauditlaw03_reads.f k a0 = some r) :
  Calls Tryz.prog 20 #[.string a0] w fun e w' => e = .returned (.bool r) ∧ Below w.heap.size w w' := by
 have hu51 := Tryz.underlying51
 have HRT := Zaa.mk hrt
 clear hrt
 have HG := Zaa.mk hG
 clear hG
 have HB := Zaa.mk (Below.refl w.heap.size w)
 unfold kauditlaw03_reads.f at h
 have H := h
 clear h
 replace H := Option.bind_eq_some_iff.mp H
 obtain ⟨⟨t243, t244, t245, t246, t249⟩, A20, H⟩ := H
 try dsimp only at H
 have A2 := Zaa.mk A20
 clear A20
 replace H := Option.bind_eq_some_iff.mp H
 obtain ⟨⟨t251, t252, t253, t254, t257⟩, A30, H⟩ := H
 try dsimp only at H
 have A3 := Zaa.mk A30
 clear A30
 by_cases c4 : t249 = t257
 ·rw [if_pos c4] at H
  have c4b0 : (t249 == t257) = true := beq_iff_eq.mpr c4
  have c4b1 : (t249 != t257) = false := bne_eq_false_iff_eq.mpr c4
  clear c4
  replace H := Option.bind_eq_some_iff.mp H
  obtain ⟨t259, A50, H⟩ := H
  try dsimp only at H
  have A5 := Zaa.mk A50
  clear A50
  obtain rfl := Option.some.inj H
  go_enter Tryz.func20, Tryz.ntmps20
  go_wp2_with (first | ((with_reducible refine Zam (f := 47) rfl ?_); refine Za1 (some 9) rfl rfl Tryz.func47 (by kernel_rfl) rfl #[.string a0] rfl zam ?_; (with_reducible refine (record_Parse.calls a0 t243 t244 t245 t246 t249 _ ?side1 A2.out).mono ?_); (case side1 => exact GT.below (by decide) HG.out (zb1 HB)); rintro e w6 ⟨v247, rfl, ho0, hb⟩; refine ⟨_, rfl, ?_⟩; have HO248 := Zaa.mk (Kd.R_lower ho0 (Zai (zb1 HB))); replace HB := Zaa.mk (Zae (zb1 HB) hb); (try clear hb); (try clear ho0)) | ((with_reducible refine Zav (N := 3) rfl ?_); refine Zaw ?hg (N := 3) ?hd (cs := #[.int .i64 0, .int .i64 0, .int .i64 0, .slice none 0 0]) (t := 51) ?hr ?_; (case hd => rfl); (case hg => rfl); (case hr => first | (go_simp; done) | (go_simp; rfl)); intro gb250 hg w7 hbox hb; replace HO248 := Zaa.mk (Kd.R_below (zrk HO248) hb); have BK250 := Zaa.mk (hbox); have GW250 := Zaa.mk ((by rw [hg]; exact (Zai (zb1 HB)) : w.heap.size ≤ gb250)); have GE250 := Zaa.mk ((by rw [hg]; exact (Zai (zb1 HB)) : w.heap.size ≤ gb250)); replace HB := Zaa.mk (Zae (zb1 HB) hb); clear hb hbox hg; obtain ⟨hcz8_0, hcz8_1, hcz8_2, hcz8_3⟩ := bc4 BK250.out; obtain ⟨hfz8_0, hfz8_1, hfz8_2, hfz8_3⟩ := bf4 BK250.out; obtain ⟨Ao9, co9, eo9⟩ := Kd.R_slice HO248.out; subst eo9) | ((with_reducible refine Zam (f := 48) rfl ?_); refine Za1 (some 14) rfl rfl Tryz.func48 (by kernel_rfl) rfl #[.string a0] rfl zam ?_; (with_reducible refine (kauditref03_Parse.calls a0 t251 t252 t253 t254 t257 _ A3.out).mono ?_); rintro e w10 ⟨v255, rfl, ho0, hb⟩; refine ⟨_, rfl, ?_⟩; have HO256 := Zaa.mk (Kd.R_lower (Kd.R_new' ho0 (Kd.R_lt (by (with_reducible repeat (first | apply Kd.R_alloc | apply Kd.R_drewN | apply Kd.R_drew)); exact (Kd.R_mono (Kd.R_far (p := ⟨gb250, 3, none⟩) (Kd.R_far (p := ⟨gb250, 2, none⟩) (Kd.R_far (p := ⟨gb250, 1, none⟩) (Kd.R_far (p := ⟨gb250, 0, none⟩) (Kd.R_types HO248.out BK250.out (by decide)) (fun _ hk => hk.2) (.int .i64 t243)) (fun _ hk => hk.2) (.int .i64 t244)) (fun _ hk => hk.2) (.int .i64 t245)) (fun _ hk => hk.2) (.slice Ao9 t246.length co9)) (fun _ h_ => h_.1))))) (Zai (zb2 HB GE250.out))); replace HO248 := Zaa.mk (Kd.R_elder' (by (with_reducible repeat (first | apply Kd.R_alloc | apply Kd.R_drewN | apply Kd.R_drew)); exact (Kd.R_mono (Kd.R_far (p := ⟨gb250, 3, none⟩) (Kd.R_far (p := ⟨gb250, 2, none⟩) (Kd.R_far (p := ⟨gb250, 1, none⟩) (Kd.R_far (p := ⟨gb250, 0, none⟩) (Kd.R_types HO248.out BK250.out (by decide)) (fun _ hk => hk.2) (.int .i64 t243)) (fun _ hk => hk.2) (.int .i64 t244)) (fun _ hk => hk.2) (.int .i64 t245)) (fun _ hk => hk.2) (.slice Ao9 t246.length co9)) (fun _ h_ => h_.1))) (Kd.R_base ho0) hb); replace BK250 := Zaa.mk (Zah (g := gb250) (o := .cells #[.int .i64 t243, .int .i64 t244, .int .i64 t245, .slice Ao9 t246.length co9] 51 (0, 0)) (by (with_reducible repeat (first | refine Zac ?_ _ | refine Zad ?_ | refine Zab ?_ _)); refine Zas (cs := #[.int .i64 t243, .int .i64 t244, .int .i64 t245, .slice none 0 0]) ?_ 3 _ rfl; (with_reducible repeat (first | refine Zac ?_ _ | refine Zad ?_ | refine Zab ?_ _)); refine Zas (cs := #[.int .i64 t243, .int .i64 t244, .int .i64 0, .slice none 0 0]) ?_ 2 _ rfl; (with_reducible repeat (first | refine Zac ?_ _ | refine Zad ?_ | refine Zab ?_ _)); refine Zas (cs := #[.int .i64 t243, .int .i64 0, .int .i64 0, .slice none 0 0]) ?_ 1 _ rfl; (with_reducible repeat (first | refine Zac ?_ _ | refine Zad ?_ | refine Zab ?_ _)); refine Zas (cs := #[.int .i64 0, .int .i64 0, .int .i64 0, .slice none 0 0]) ?_ 0 _ rfl; (with_reducible repeat (first | refine Zac ?_ _ | refine Zad ?_ | refine Zab ?_ _)); exact BK250.out) hb); replace HB := Zaa.mk (Zae (zb2 HB GE250.out) hb); (try clear hb); (try clear ho0)) | ((with_reducible refine Zav (N := 5) rfl ?_); refine Zaw ?hg (N := 5) ?hd (cs := #[.int .i64 0, .int .i64 0, .int .i64 0, .slice none 0 0]) (t := 51) ?hr ?_; (case hd => rfl); (case hg => rfl); (case hr => first | (go_simp; done) | (go_simp; rfl)); intro gb258 hg w11 hbox hb; replace HO248 := Zaa.mk (Kd.R_below (zrk HO248) hb); replace HO256 := Zaa.mk (Kd.R_below (zrk HO256) hb); have BK258 := Zaa.mk (hbox); have GW258 := Zaa.mk ((by rw [hg]; exact (Zai (zb2 HB GE250.out)) : w.heap.size ≤ gb258)); have GE258 := Zaa.mk ((by rw [hg]; exact (Zai (zb2 HB GE250.out)) : w.heap.size ≤ gb258)); replace HB := Zaa.mk (Zae (zb2 HB GE250.out) hb); have NB250_258 := Zaa.mk ((by rw [hg]; exact Nat.ne_of_lt (Za3 (g := gb250) (o := .cells #[.int .i64 t243, .int .i64 t244, .int .i64 t245, .slice Ao9 t246.length co9] 51 (0, 0)) (zbk BK250)) : gb250 ≠ gb258)); have NB258_250 := Zaa.mk ((by rw [hg]; exact Nat.ne_of_gt (Za3 (g := gb250) (o := .cells #[.int .i64 t243, .int .i64 t244, .int .i64 t245, .slice Ao9 t246.length co9] 51 (0, 0)) (zbk BK250)) : gb258 ≠ gb250)); replace BK250 := Zaa.mk (Zah (g := gb250) (o := .cells #[.int .i64 t243, .int .i64 t244, .int .i64 t245, .slice Ao9 t246.length co9] 51 (0, 0)) (zbk BK250) hb); clear hb hbox hg; have hnb12 := NB258_250.out; have hnc12 := NB250_258.out; obtain ⟨hcz13_0, hcz13_1, hcz13_2, hcz13_3⟩ := bc4 BK258.out; obtain ⟨hfz13_0, hfz13_1, hfz13_2, hfz13_3⟩ := bf4 BK258.out; obtain ⟨Ao14, co14, eo14⟩ := Kd.R_slice HO256.out; subst eo14; obtain ⟨hcz15_0, hcz15_1, hcz15_2, hcz15_3⟩ := bc4 BK250.out; obtain ⟨hfz15_0, hfz15_1, hfz15_2, hfz15_3⟩ := bf4 BK250.out) | (go_at_call 49; (with_reducible refine (kauditref03_Same.calls k t243 t244 t245 _ _ t246 t251 t252 t253 _ _ t254 t259 _ ?side1 ?side2 ?side3 ?side4 A5.out).mono ?_); (case side1 => refine (Kd.R_reads' (e := 88) (base := w.heap.size) (ok := fun k_ => (True ∧ some k_ ≠ (.slice Ao14 t254.length co14 : Value).ownBlock)) (n := t246.length) (c := co9) ?_).2.2; exact (by (with_reducible repeat (first | apply Kd.R_alloc | apply Kd.R_drewN | apply Kd.R_drew)); exact (Kd.R_mono (Kd.R_far (p := ⟨gb258, 3, none⟩) (Kd.R_far (p := ⟨gb258, 2, none⟩) (Kd.R_far (p := ⟨gb258, 1, none⟩) (Kd.R_far (p := ⟨gb258, 0, none⟩) (Kd.R_types HO248.out BK258.out (by decide)) (fun _ hk => hk.2) (.int .i64 t251)) (fun _ hk => hk.2) (.int .i64 t252)) (fun _ hk => hk.2) (.int .i64 t253)) (fun _ hk => hk.2) (.slice Ao14 t254.length co14)) (fun _ h_ => h_.1)))); (case side2 => exact (Kd.R_reads' HO248.out).2.1); (case side3 => refine (Kd.R_reads' (e := 88) (base := w.heap.size) (ok := fun k_ => (True ∧ some k_ ≠ (.slice Ao9 t246.length co9 : Value).ownBlock)) (n := t254.length) (c := co14) ?_).2.2; exact (by (with_reducible repeat (first | apply Kd.R_alloc | apply Kd.R_drewN | apply Kd.R_drew)); exact (Kd.R_mono (Kd.R_far (p := ⟨gb258, 3, none⟩) (Kd.R_far (p := ⟨gb258, 2, none⟩) (Kd.R_far (p := ⟨gb258, 1, none⟩) (Kd.R_far (p := ⟨gb258, 0, none⟩) (Kd.R_types HO256.out BK258.out (by decide)) (fun _ hk => hk.2) (.int .i64 t251)) (fun _ hk => hk.2) (.int .i64 t252)) (fun _ hk => hk.2) (.int .i64 t253)) (fun _ hk => hk.2) (.slice Ao14 t254.length co14)) (fun _ h_ => h_.1)))); (case side4 => exact (Kd.R_reads' HO256.out).2.1); rintro e w16 ⟨rfl, hb⟩; replace HO248 := Zaa.mk (Kd.R_below (by (with_reducible repeat (first | apply Kd.R_alloc | apply Kd.R_drewN | apply Kd.R_drew)); exact (Kd.R_mono (Kd.R_far (p := ⟨gb258, 3, none⟩) (Kd.R_far (p := ⟨gb258, 2, none⟩) (Kd.R_far (p := ⟨gb258, 1, none⟩) (Kd.R_far (p := ⟨gb258, 0, none⟩) (Kd.R_types HO248.out BK258.out (by decide)) (fun _ hk => hk.2) (.int .i64 t251)) (fun _ hk => hk.2) (.int .i64 t252)) (fun _ hk => hk.2) (.int .i64 t253)) (fun _ hk => hk.2) (.slice Ao14 t254.length co14)) (fun _ h_ => h_.1))) hb); replace HO256 := Zaa.mk (Kd.R_below (by (with_reducible repeat (first | apply Kd.R_alloc | apply Kd.R_drewN | apply Kd.R_drew)); exact (Kd.R_mono (Kd.R_far (p := ⟨gb258, 3, none⟩) (Kd.R_far (p := ⟨gb258, 2, none⟩) (Kd.R_far (p := ⟨gb258, 1, none⟩) (Kd.R_far (p := ⟨gb258, 0, none⟩) (Kd.R_types HO256.out BK258.out (by decide)) (fun _ hk => hk.2) (.int .i64 t251)) (fun _ hk => hk.2) (.int .i64 t252)) (fun _ hk => hk.2) (.int .i64 t253)) (fun _ hk => hk.2) (.slice Ao14 t254.length co14)) (fun _ h_ => h_.1))) hb); replace BK250 := Zaa.mk (Zah (g := gb250) (o := .cells #[.int .i64 t243, .int .i64 t244, .int .i64 t245, .slice Ao9 t246.length co9] 51 (0, 0)) (by (with_reducible repeat (first | refine Zac ?_ _ | refine Zad ?_ | refine Zab ?_ _)); refine Zaq ?_ NB250_258.out _; (with_reducible repeat (first | refine Zac ?_ _ | refine Zad ?_ | refine Zab ?_ _)); refine Zaq ?_ NB250_258.out _; (with_reducible repeat (first | refine Zac ?_ _ | refine Zad ?_ | refine Zab ?_ _)); refine Zaq ?_ NB250_258.out _; (with_reducible repeat (first | refine Zac ?_ _ | refine Zad ?_ | refine Zab ?_ _)); refine Zaq ?_ NB250_258.out _; (with_reducible repeat (first | refine Zac ?_ _ | refine Zad ?_ | refine Zab ?_ _)); exact BK250.out) hb); replace BK258 := Zaa.mk (Zah (g := gb258) (o := .cells #[.int .i64 t251, .int .i64 t252, .int .i64 t253, .slice Ao14 t254.length co14] 51 (0, 0)) (by (with_reducible repeat (first | refine Zac ?_ _ | refine Zad ?_ | refine Zab ?_ _)); refine Zas (cs := #[.int .i64 t251, .int .i64 t252, .int .i64 t253, .slice none 0 0]) ?_ 3 _ rfl; (with_reducible repeat (first | refine Zac ?_ _ | refine Zad ?_ | refine Zab ?_ _)); refine Zas (cs := #[.int .i64 t251, .int .i64 t252, .int .i64 0, .slice none 0 0]) ?_ 2 _ rfl; (with_reducible repeat (first | refine Zac ?_ _ | refine Zad ?_ | refine Zab ?_ _)); refine Zas (cs := #[.int .i64 t251, .int .i64 0, .int .i64 0, .slice none 0 0]) ?_ 1 _ rfl; (with_reducible repeat (first | refine Zac ?_ _ | refine Zad ?_ | refine Zab ?_ _)); refine Zas (cs := #[.int .i64 0, .int .i64 0, .int .i64 0, .slice none 0 0]) ?_ 0 _ rfl; (with_reducible repeat (first | refine Zac ?_ _ | refine Zad ?_ | refine Zab ?_ _)); exact BK258.out) hb); replace HB := Zaa.mk (Zae (zb6 HB GE250.out GE258.out) hb); (try clear hb)))
  go_ret
  exact ⟨by first | rfl | (simp [errW_none, errW_some] <;> rfl) | (simp [*, errW_none, errW_some] <;> rfl), (zb6 HB GE250.out GE258.out)⟩
 ·rw [if_neg c4] at H
  have c4b0 : (t249 == t257) = false := beq_eq_false_iff_ne.mpr c4
  have c4b1 : (t249 != t257) = true := bne_iff_ne.mpr c4
  exact absurd (Option.some.inj H) (by rw [HRT.out]; decide)
end Go.Proofs.YtodbabeldolcbaaGreatDoor.PA
