/- Contracts of functions of the program: written by pr2.py (ours, round the print of the kit) out of the translation; conditions: each contract names its own. -/
import Derived.Test.YtodbabeldolcbaaGreatDoorY9PAx2
namespace Go.Proofs.YtodbabeldolcbaaGreatDoor.PA
open Go.RowKit Go.Proofs.YtodbabeldolcbaaGreatDoorW.PrintWords Go.Proofs.YtodbabeldolcbaaGreatDoorW.PrintLast Go.Proofs.YtodbabeldolcbaaGreatDoorW.PrintMore
attribute [local go_sem] Zbg Zbe Zbs Zbr Za8 Za7 Zbf Zbd   -- for this text's walks alone
set_option linter.unusedVariables false
set_option linter.unusedSimpArgs false
def kauditmake_Src_Record.l0 : Nat → Int → List Int → Int → Int → Int → Int → List (S88) → Option (Int × Int × Int × (List (S88)) × Int)
 | 0, _, _, _, _, _, _, _ => none
 | k + 1, x4, x1000, x1001, x162000, x162001, x162002, x162003 => if x4 > 0 then ((kauditmake_Src_Pair.f k x1000 x1001).bind fun bt164 => (if x162003.length < 2932031007402 then (kauditmake_Src_Record.l0 k (wrap64 (x4 - 1)) x1000 bt164.2.2.2.2 x162000 x162001 x162002 (x162003 ++ [(⟨bt164.1, bt164.2.1, bt164.2.2.1, bt164.2.2.2.1⟩ : S88)])) else (none))) else ((kauditmake_Src_N.f x1000 x1001 20).bind fun bt172 => (if bt172.1 = 19 then ((kauditmake_Src_Range.f x1000 bt172.2 1299 1303).bind fun bt174 => ((kauditmake_Src_Range.f x1000 bt174.2 (-1) 1).bind fun bt176 => (some (bt174.1, bt176.1, x162002, x162003, bt176.2)))) else (some (x162000, x162001, x162002, x162003, bt172.2))))
def kauditmake_Src_Record.f (k : Nat) (s0_0 : List Int) (s0_1 : Int) : Option (Int × Int × Int × (List (S88)) × Int) := (kauditmake_Src_Pick.f s0_0 s0_1 (([1005, 1200, 1300, 1302, 1305, 1306, 1307, 1309, 1320, 1331] : List Int))).bind fun bt149 => ((kauditmake_Src_Pick.f s0_0 bt149.2 (([0, 5, 999, 1000, 12345, 1099511627776] : List Int))).bind fun bt154 => ((kauditmake_Src_Pick.f s0_0 bt154.2 (([0, 1, 7, 1073741824] : List Int))).bind fun bt159 => ((kauditmake_Src_N.f s0_0 bt159.2 4).bind fun bt162 => (kauditmake_Src_Record.l0 k bt162.1 s0_0 bt162.2 bt149.1 bt154.1 bt159.1 ([] : List (S88))))))
theorem kauditmake_Src_Record.mono_l : ∀ k, (∀ y0 y1 y2 y3 y4 y5 y6, LeO (kauditmake_Src_Record.l0 k y0 y1 y2 y3 y4 y5 y6) (kauditmake_Src_Record.l0 (k + 1) y0 y1 y2 y3 y4 y5 y6))
 | 0 => fun _ _ _ _ _ _ _ r h => by simp [kauditmake_Src_Record.l0] at h
 | k + 1 => by
  have ih0 := kauditmake_Src_Record.mono_l k
  ·intro y0 y1 y2 y3 y4 y5 y6
   unfold kauditmake_Src_Record.l0
   repeat' first
   | (with_reducible exact ih0 _ _ _ _ _ _ _)
   | (with_reducible exact kauditmake_Src_Pair.mono _ _ _)
   | (with_reducible exact LeO.refl _)
   | (with_reducible exact LeO.none _)
   | (with_reducible refine LeO.ite ?_ ?_)
   | (with_reducible refine LeO.bind ?_ (fun _ => ?_))
   | exact ih0 _ _ _ _ _ _ _
   | exact kauditmake_Src_Pair.mono _ _ _
   | exact LeO.none _
   | refine LeO.ite ?_ ?_
   | refine LeO.bind ?_ (fun _ => ?_)
theorem kauditmake_Src_Record.mono : ∀ a0 a1 k, LeO (kauditmake_Src_Record.f k a0 a1) (kauditmake_Src_Record.f (k + 1) a0 a1) := by
 intro a0 a1 k
 have ih0 := kauditmake_Src_Record.mono_l k
 unfold kauditmake_Src_Record.f
 repeat' first
   | (with_reducible exact ih0 _ _ _ _ _ _ _)
   | (with_reducible exact kauditmake_Src_Pair.mono _ _ _)
   | (with_reducible exact LeO.refl _)
   | (with_reducible exact LeO.none _)
   | (with_reducible refine LeO.ite ?_ ?_)
   | (with_reducible refine LeO.bind ?_ (fun _ => ?_))
   | exact ih0 _ _ _ _ _ _ _
   | exact kauditmake_Src_Pair.mono _ _ _
   | exact LeO.none _
   | refine LeO.ite ?_ ?_
   | refine LeO.bind ?_ (fun _ => ?_)
def kauditmake_Src_Record.T5 : Bool × List (List Nat × List Nat) := (true, [([], []), ([0], [0]), ([], []), ([2], [2]), ([3], [3]), ([1, 4, 3], [1, 4]), ([0, 1, 2, 3, 4, 5], []), ([6, 5, 5, 0, 1, 2, 3, 4, 5], [5, 6])])
def kauditmake_Src_Record.B5 : List Nat := [0, 1, 0, 4, 12, 31, 63, 127]
theorem kauditmake_Src_Record.tab5 : rtab .any (opsOf Tryz.f15 5) = kauditmake_Src_Record.T5 := by kernel_rfl
theorem kauditmake_Src_Record.bits5 : waitsOk kauditmake_Src_Record.T5.2 kauditmake_Src_Record.B5 = true := by kernel_rfl
theorem zl11 {p q : Prop} (x : Zaa q) (h : q → p := by intro h_; repeat (first | (with_reducible first | exact h_ | apply Zap.set_ | apply keep_drewN | apply keep_drew | apply keep_alloc) | exact h_)) : p := h x.out
theorem zl12 {p q : Prop} (x : Zaa q) (h : q → p := by intro h_; repeat (first | (with_reducible first | exact h_ | apply Zaj.alloc | apply Zaj.drewN | apply Zaj.drew | apply Zaj.set_1) | exact h_)) : p := h x.out
theorem zl13 {p q r1 : Prop} (x : Zaa q) (g1_ : r1) (h : q → r1 → p := by intro h_ g1_; repeat (first | (with_reducible first | exact h_ | apply Zap.set_ | apply keep_drewN | apply keep_drew | apply keep_alloc | refine keep_far ?_ g1_ _) | exact h_)) : p := h x.out g1_
theorem zl14 {p q r1 : Prop} (x : Zaa q) (g1_ : r1) (h : q → r1 → p := by intro h_ g1_; repeat (first | (with_reducible first | exact h_ | apply Zaj.alloc | apply Zaj.drewN | apply Zaj.drew | apply Zaj.set_1 | refine Zaj.far ?_ g1_ _) | exact h_)) : p := h x.out g1_
theorem zl15 {p q r1 r2 : Prop} (x : Zaa q) (g1_ : r1) (g2_ : r2) (h : q → r1 → r2 → p := by intro h_ g1_ g2_; repeat (first | (with_reducible first | exact h_ | apply Zaj.alloc | apply Zaj.drewN | apply Zaj.drew | apply Zaj.set_1 | refine Zaj.far ?_ g1_ _ | refine Zaj.far ?_ g2_ _) | exact h_)) : p := h x.out g1_ g2_
theorem zl16 {p q r1 r2 : Prop} (x : Zaa q) (g1_ : r1) (g2_ : r2) (h : q → r1 → r2 → p := by intro h_ g1_ g2_; repeat (first | (with_reducible first | exact h_ | apply Zap.set_ | apply keep_drewN | apply keep_drew | apply keep_alloc | refine keep_far ?_ g1_ _ | refine keep_far ?_ g2_ _) | exact h_)) : p := h x.out g1_ g2_
set_option maxHeartbeats 8000000 in
set_option maxRecDepth 100000 in
theorem kauditmake_Src_Record.calls (k : Nat) (g : Nat) (s0_0 : List Int) (s0_1 : Int) (r1 : Int) (r2 : Int) (r3 : Int) (r4 : List (S88)) (r5 : Int) (w0 w : World) (hI : Zaj w0 w g s0_0 s0_1) (hB : Below w0.heap.size w0 w) (h : kauditmake_Src_Record.f k s0_0 s0_1 = some (r1, r2, r3, r4, r5)) :
  Calls Tryz.prog 15 #[.pointer (some ⟨g, 0, none⟩)] w fun e w' => ∃ v3_ : Value, e = .returned (.agg #[.int .i64 r1, .int .i64 r2, .int .i64 r3, v3_]) ∧ Kd.R k88 88 w' w.heap.size (fun _ => True) v3_ r4 ∧ Zaj w0 w' g s0_0 r5 ∧ Below w0.heap.size w0 w' ∧ Zap w w' g none := by
 have hu51 := Tryz.underlying51
 have HI0 := Zaa.mk hI
 have HK := Zaa.mk (Zap.refl w g none)
 have HL := Zaa.mk hB.size
 clear hI
 have HW0 := Zaa.mk hB.size
 have HB := Zaa.mk hB
 clear hB
 unfold kauditmake_Src_Record.f at h
 have H := h
 clear h
 obtain ⟨y146, hy146⟩ : ∃ y_ : List Int, y_ = (([1005, 1200, 1300, 1302, 1305, 1306, 1307, 1309, 1320, 1331] : List Int)) := ⟨_, rfl⟩
 replace H : ((kauditmake_Src_Pick.f s0_0 s0_1 y146).bind fun bt149 => ((kauditmake_Src_Pick.f s0_0 bt149.2 (([0, 5, 999, 1000, 12345, 1099511627776] : List Int))).bind fun bt154 => ((kauditmake_Src_Pick.f s0_0 bt154.2 (([0, 1, 7, 1073741824] : List Int))).bind fun bt159 => ((kauditmake_Src_N.f s0_0 bt159.2 4).bind fun bt162 => (kauditmake_Src_Record.l0 k bt162.1 s0_0 bt162.2 bt149.1 bt154.1 bt159.1 ([] : List (S88))))))) = some (r1, r2, r3, r4, r5) := by first | (rw [hy146]; with_reducible exact H) | (have H2_ := (Option.bind_some _ _).symm.trans H; rw [hy146]; with_reducible exact H2_) | (have H2_ := (Option.bind_some _ _).symm.trans H; with_reducible exact H2_) | with_reducible exact H | (rw [hy146]; exact H) | exact H
 have Ny146 := Zaa.mk hy146
 clear hy146
 replace H := Option.bind_eq_some_iff.mp H
 obtain ⟨⟨t149, t150⟩, A20, H⟩ := H
 try dsimp only at H
 have A2 := Zaa.mk A20
 clear A20
 obtain ⟨y151, hy151⟩ : ∃ y_ : List Int, y_ = (([0, 5, 999, 1000, 12345, 1099511627776] : List Int)) := ⟨_, rfl⟩
 replace H : ((kauditmake_Src_Pick.f s0_0 t150 y151).bind fun bt154 => ((kauditmake_Src_Pick.f s0_0 bt154.2 (([0, 1, 7, 1073741824] : List Int))).bind fun bt159 => ((kauditmake_Src_N.f s0_0 bt159.2 4).bind fun bt162 => (kauditmake_Src_Record.l0 k bt162.1 s0_0 bt162.2 t149 bt154.1 bt159.1 ([] : List (S88)))))) = some (r1, r2, r3, r4, r5) := by first | (rw [hy151]; with_reducible exact H) | (have H2_ := (Option.bind_some _ _).symm.trans H; rw [hy151]; with_reducible exact H2_) | (have H2_ := (Option.bind_some _ _).symm.trans H; with_reducible exact H2_) | with_reducible exact H | (rw [hy151]; exact H) | exact H
 have Ny151 := Zaa.mk hy151
 clear hy151
 replace H := Option.bind_eq_some_iff.mp H
 obtain ⟨⟨t154, t155⟩, A30, H⟩ := H
 try dsimp only at H
 have A3 := Zaa.mk A30
 clear A30
 obtain ⟨y156, hy156⟩ : ∃ y_ : List Int, y_ = (([0, 1, 7, 1073741824] : List Int)) := ⟨_, rfl⟩
 replace H : ((kauditmake_Src_Pick.f s0_0 t155 y156).bind fun bt159 => ((kauditmake_Src_N.f s0_0 bt159.2 4).bind fun bt162 => (kauditmake_Src_Record.l0 k bt162.1 s0_0 bt162.2 t149 t154 bt159.1 ([] : List (S88))))) = some (r1, r2, r3, r4, r5) := by first | (rw [hy156]; with_reducible exact H) | (have H2_ := (Option.bind_some _ _).symm.trans H; rw [hy156]; with_reducible exact H2_) | (have H2_ := (Option.bind_some _ _).symm.trans H; with_reducible exact H2_) | with_reducible exact H | (rw [hy156]; exact H) | exact H
 have Ny156 := Zaa.mk hy156
 clear hy156
 replace H := Option.bind_eq_some_iff.mp H
 obtain ⟨⟨t159, t160⟩, A40, H⟩ := H
 try dsimp only at H
 have A4 := Zaa.mk A40
 clear A40
 replace H := Option.bind_eq_some_iff.mp H
 obtain ⟨⟨t162, t163⟩, A50, H⟩ := H
 try dsimp only at H
 have A5 := Zaa.mk A50
 clear A50
 have H' := Zaa.mk H
 clear H
 go_enter Tryz.func15, Tryz.ntmps15
 go_wp2_with (first | ((with_reducible refine Zav (N := 2) rfl ?_); refine Zaw ?hg (N := 2) ?hd (cs := #[.int .i64 0, .int .i64 0, .int .i64 0, .slice none 0 0]) (t := 51) ?hr ?_; (case hd => rfl); (case hg => rfl); (case hr => first | (go_simp; done) | (go_simp; rfl)); intro gb145 hg w6 hbox hb; replace HB := Zaa.mk (Zae (zb2 HB (Zaj.ge HI0.out)) hb); have BK145 := Zaa.mk (hbox); have GW145 := Zaa.mk ((by rw [hg]; exact (Zbi (w := w) (g := g) (row := none) (zl11 HK)) : w.heap.size ≤ gb145)); have GE145 := Zaa.mk ((Nat.le_trans HW0.out (by rw [hg]; exact (Zbi (w := w) (g := g) (row := none) (zl11 HK)) : w.heap.size ≤ gb145) : w0.heap.size ≤ gb145)); replace HK := Zaa.mk (Zap.trans (zl11 HK) (Zap.of_below hb g none) (.inl rfl)); have NB0_145 := Zaa.mk ((by rw [hg]; exact Nat.ne_of_lt (Zaj.lt (show Zaj w0 _ g s0_0 s0_1 from (zl12 HI0))) : g ≠ gb145)); have NB145_0 := Zaa.mk ((by rw [hg]; exact Nat.ne_of_gt (Zaj.lt (show Zaj w0 _ g s0_0 s0_1 from (zl12 HI0))) : gb145 ≠ g)); replace HI0 := Zaa.mk (Zaj.below (zl12 HI0) hb); clear hb hbox hg) | ((with_reducible refine Zav (N := 6) rfl ?_); refine Kd.R_lit (Kd.int .i64) _ 3 ?hg (N := 6) ?hd (xs := ([1005, 1200, 1300, 1302, 1305, 1306, 1307, 1309, 1320, 1331] : List Int)) (inner := [.int .i64 1005, .int .i64 1200, .int .i64 1300, .int .i64 1302, .int .i64 1305, .int .i64 1306, .int .i64 1307, .int .i64 1309, .int .i64 1320, .int .i64 1331]) (ok := fun _ => True) (okp := fun _ => True) ?hr ?hp (fun _ hk => hk) trivial (Below.refl _ _) (Nat.le_refl _) (by simp) ?_; (case hd => rfl); (case hg => rfl); (case hr => first | (go_simp; done) | (go_simp; rfl)); (case hp => exact (Reps.one (show Kd.M (Kd.int .i64) _ _ _ 1005 [.int .i64 1005] from rfl) (Reps.one (show Kd.M (Kd.int .i64) _ _ _ 1200 [.int .i64 1200] from rfl) (Reps.one (show Kd.M (Kd.int .i64) _ _ _ 1300 [.int .i64 1300] from rfl) (Reps.one (show Kd.M (Kd.int .i64) _ _ _ 1302 [.int .i64 1302] from rfl) (Reps.one (show Kd.M (Kd.int .i64) _ _ _ 1305 [.int .i64 1305] from rfl) (Reps.one (show Kd.M (Kd.int .i64) _ _ _ 1306 [.int .i64 1306] from rfl) (Reps.one (show Kd.M (Kd.int .i64) _ _ _ 1307 [.int .i64 1307] from rfl) (Reps.one (show Kd.M (Kd.int .i64) _ _ _ 1309 [.int .i64 1309] from rfl) (Reps.one (show Kd.M (Kd.int .i64) _ _ _ 1320 [.int .i64 1320] from rfl) (Reps.one (show Kd.M (Kd.int .i64) _ _ _ 1331 [.int .i64 1331] from rfl) (Reps.none _ _)))))))))))); intro v147 w7 ho8 hb hg_ hnew_; clear hg_ hnew_; (first | rw [← Ny146.out] at ho8 | (simp only [Int.reduceToNat] at ho8; rw [← Ny146.out] at ho8)); have HO148 := Zaa.mk (Kd.R_lower ho8 (Zbi (w := w) (g := g) (row := none) (zl13 HK GW145.out))); replace BK145 := Zaa.mk (Zah (g := gb145) (o := .cells #[.int .i64 0, .int .i64 0, .int .i64 0, .slice none 0 0] 51 (0, 0)) (zbk BK145) hb); replace HK := Zaa.mk (Zap.trans (zl13 HK GW145.out) (Zap.of_below hb g none) (.inl rfl)); replace HB := Zaa.mk (Zae (zb6 HB (Zaj.ge HI0.out) GE145.out) hb); replace HI0 := Zaa.mk (Zaj.below (zl14 HI0 NB0_145.out) hb); clear hb ho8; obtain ⟨Ao9, co9, eo9⟩ := Kd.R_slice HO148.out; subst eo9) | ((with_reducible refine Zam (f := 38) rfl ?_); refine Za1 (some 7) rfl rfl Tryz.func38 (by kernel_rfl) rfl #[.pointer (some ⟨g, 0, none⟩), .slice Ao9 y146.length co9] rfl zam ?_; (with_reducible refine (kauditmake_Src_Pick.calls g s0_0 s0_1 _ _ y146 t149 t150 w0 _ ?side1 ?side2 ?side3 ?side4 ?side5 A2.out).mono ?_); (case side1 => repeat (first | (with_reducible first | exact HI0.out | apply Zaj.alloc | apply Zaj.drewN | apply Zaj.drew | apply Zaj.set_1 | refine Zaj.far ?_ NB0_145.out _) | exact HI0.out)); (case side2 => repeat (first | (with_reducible first | exact HB.out | apply Zal | apply Zar | apply Zau | refine Zag ?_ (Zaj.ge HI0.out) | refine Zag ?_ GE145.out) | exact HB.out)); (case side3 => repeat (first | exact (Kd.R_reads' HO148.out).2.2 | (with_reducible refine Kd.C_alloc ?_ _) | (with_reducible refine Kd.C_drewN ?_ _) | (with_reducible refine Kd.C_drew ?_))); (case side4 => exact (Kd.R_reads' HO148.out).2.1); (case side5 => exact far_slice (Zaj.own_ne HI0.out HO148.out (by decide))); rintro e w10 ⟨rfl, hi, hb, hk⟩; refine ⟨_, rfl, ?_⟩; replace BK145 := Zaa.mk (Zap.blk hk (g' := gb145) (o := .cells #[.int .i64 0, .int .i64 0, .int .i64 0, .slice none 0 0] 51 (0, 0)) (zbk BK145) NB145_0.out (by simp)); replace HO148 := Zaa.mk (Kd.R_mono (Kd.R_keep (Zaj.apart (show Zaj w0 _ g s0_0 s0_1 from (zl14 HI0 NB0_145.out)) (zrk HO148) (by decide)) hk (fun _ h => h.2)) (fun _ h => h.1)); replace HK := Zaa.mk (Zap.trans (zl13 HK GW145.out) hk (.inl rfl)); replace HB := Zaa.mk (hb); replace HI0 := Zaa.mk (hi); (try clear hb); (try clear hk); (try clear hi)) | ((with_reducible refine Zav (N := 9) rfl ?_); refine Kd.R_lit (Kd.int .i64) _ 3 ?hg (N := 9) ?hd (xs := ([0, 5, 999, 1000, 12345, 1099511627776] : List Int)) (inner := [.int .i64 0, .int .i64 5, .int .i64 999, .int .i64 1000, .int .i64 12345, .int .i64 1099511627776]) (ok := fun _ => True) (okp := fun _ => True) ?hr ?hp (fun _ hk => hk) trivial (Below.refl _ _) (Nat.le_refl _) (by simp) ?_; (case hd => rfl); (case hg => rfl); (case hr => first | (go_simp; done) | (go_simp; rfl)); (case hp => exact (Reps.one (show Kd.M (Kd.int .i64) _ _ _ 0 [.int .i64 0] from rfl) (Reps.one (show Kd.M (Kd.int .i64) _ _ _ 5 [.int .i64 5] from rfl) (Reps.one (show Kd.M (Kd.int .i64) _ _ _ 999 [.int .i64 999] from rfl) (Reps.one (show Kd.M (Kd.int .i64) _ _ _ 1000 [.int .i64 1000] from rfl) (Reps.one (show Kd.M (Kd.int .i64) _ _ _ 12345 [.int .i64 12345] from rfl) (Reps.one (show Kd.M (Kd.int .i64) _ _ _ 1099511627776 [.int .i64 1099511627776] from rfl) (Reps.none _ _)))))))); intro v152 w11 ho12 hb hg_ hnew_; clear hg_ hnew_; (first | rw [← Ny151.out] at ho12 | (simp only [Int.reduceToNat] at ho12; rw [← Ny151.out] at ho12)); have HO153 := Zaa.mk (Kd.R_lower (Kd.R_new' ho12 (Kd.R_lt (zrk HO148))) (Zbi (w := w) (g := g) (row := none) (zl13 HK GW145.out))); replace HO148 := Zaa.mk (Kd.R_elder' (zrk HO148) (Kd.R_base ho12) hb); replace BK145 := Zaa.mk (Zah (g := gb145) (o := .cells #[.int .i64 0, .int .i64 0, .int .i64 0, .slice none 0 0] 51 (0, 0)) (zbk BK145) hb); replace HK := Zaa.mk (Zap.trans (zl13 HK GW145.out) (Zap.of_below hb g none) (.inl rfl)); replace HB := Zaa.mk (Zae (zb6 HB (Zaj.ge HI0.out) GE145.out) hb); replace HI0 := Zaa.mk (Zaj.below (zl14 HI0 NB0_145.out) hb); clear hb ho12; obtain ⟨Ao13, co13, eo13⟩ := Kd.R_slice HO153.out; subst eo13) | ((with_reducible refine Zam (f := 38) rfl ?_); refine Za1 (some 10) rfl rfl Tryz.func38 (by kernel_rfl) rfl #[.pointer (some ⟨g, 0, none⟩), .slice Ao13 y151.length co13] rfl zam ?_; (with_reducible refine (kauditmake_Src_Pick.calls g s0_0 t150 _ _ y151 t154 t155 w0 _ ?side1 ?side2 ?side3 ?side4 ?side5 A3.out).mono ?_); (case side1 => repeat (first | (with_reducible first | exact HI0.out | apply Zaj.alloc | apply Zaj.drewN | apply Zaj.drew | apply Zaj.set_1 | refine Zaj.far ?_ NB0_145.out _) | exact HI0.out)); (case side2 => repeat (first | (with_reducible first | exact HB.out | apply Zal | apply Zar | apply Zau | refine Zag ?_ (Zaj.ge HI0.out) | refine Zag ?_ GE145.out) | exact HB.out)); (case side3 => repeat (first | exact (Kd.R_reads' HO153.out).2.2 | (with_reducible refine Kd.C_alloc ?_ _) | (with_reducible refine Kd.C_drewN ?_ _) | (with_reducible refine Kd.C_drew ?_))); (case side4 => exact (Kd.R_reads' HO153.out).2.1); (case side5 => exact far_slice (Zaj.own_ne HI0.out HO153.out (by decide))); rintro e w14 ⟨rfl, hi, hb, hk⟩; refine ⟨_, rfl, ?_⟩; replace BK145 := Zaa.mk (Zap.blk hk (g' := gb145) (o := .cells #[.int .i64 0, .int .i64 0, .int .i64 0, .slice none 0 0] 51 (0, 0)) (zbk BK145) NB145_0.out (by simp)); replace HO148 := Zaa.mk (Kd.R_mono (Kd.R_keep (Zaj.apart (show Zaj w0 _ g s0_0 t150 from (zl14 HI0 NB0_145.out)) (zrk HO148) (by decide)) hk (fun _ h => h.2)) (fun _ h => h.1)); replace HO153 := Zaa.mk (Kd.R_mono (Kd.R_keep (Zaj.apart (show Zaj w0 _ g s0_0 t150 from (zl14 HI0 NB0_145.out)) (zrk HO153) (by decide)) hk (fun _ h => h.2)) (fun _ h => h.1)); replace HK := Zaa.mk (Zap.trans (zl13 HK GW145.out) hk (.inl rfl)); replace HB := Zaa.mk (hb); replace HI0 := Zaa.mk (hi); (try clear hb); (try clear hk); (try clear hi)) | ((with_reducible refine Zav (N := 12) rfl ?_); refine Kd.R_lit (Kd.int .i64) _ 3 ?hg (N := 12) ?hd (xs := ([0, 1, 7, 1073741824] : List Int)) (inner := [.int .i64 0, .int .i64 1, .int .i64 7, .int .i64 1073741824]) (ok := fun _ => True) (okp := fun _ => True) ?hr ?hp (fun _ hk => hk) trivial (Below.refl _ _) (Nat.le_refl _) (by simp) ?_; (case hd => rfl); (case hg => rfl); (case hr => first | (go_simp; done) | (go_simp; rfl)); (case hp => exact (Reps.one (show Kd.M (Kd.int .i64) _ _ _ 0 [.int .i64 0] from rfl) (Reps.one (show Kd.M (Kd.int .i64) _ _ _ 1 [.int .i64 1] from rfl) (Reps.one (show Kd.M (Kd.int .i64) _ _ _ 7 [.int .i64 7] from rfl) (Reps.one (show Kd.M (Kd.int .i64) _ _ _ 1073741824 [.int .i64 1073741824] from rfl) (Reps.none _ _)))))); intro v157 w15 ho16 hb hg_ hnew_; clear hg_ hnew_; (first | rw [← Ny156.out] at ho16 | (simp only [Int.reduceToNat] at ho16; rw [← Ny156.out] at ho16)); have HO158 := Zaa.mk (Kd.R_lower (Kd.R_new' (Kd.R_new' ho16 (Kd.R_lt (zrk HO148))) (Kd.R_lt (zrk HO153))) (Zbi (w := w) (g := g) (row := none) (zl13 HK GW145.out))); replace HO148 := Zaa.mk (Kd.R_elder' (zrk HO148) (Kd.R_base ho16) hb); replace HO153 := Zaa.mk (Kd.R_elder' (zrk HO153) (Kd.R_base ho16) hb); replace BK145 := Zaa.mk (Zah (g := gb145) (o := .cells #[.int .i64 0, .int .i64 0, .int .i64 0, .slice none 0 0] 51 (0, 0)) (zbk BK145) hb); replace HK := Zaa.mk (Zap.trans (zl13 HK GW145.out) (Zap.of_below hb g none) (.inl rfl)); replace HB := Zaa.mk (Zae (zb6 HB (Zaj.ge HI0.out) GE145.out) hb); replace HI0 := Zaa.mk (Zaj.below (zl14 HI0 NB0_145.out) hb); clear hb ho16; obtain ⟨Ao17, co17, eo17⟩ := Kd.R_slice HO158.out; subst eo17) | ((with_reducible refine Zam (f := 38) rfl ?_); refine Za1 (some 13) rfl rfl Tryz.func38 (by kernel_rfl) rfl #[.pointer (some ⟨g, 0, none⟩), .slice Ao17 y156.length co17] rfl zam ?_; (with_reducible refine (kauditmake_Src_Pick.calls g s0_0 t155 _ _ y156 t159 t160 w0 _ ?side1 ?side2 ?side3 ?side4 ?side5 A4.out).mono ?_); (case side1 => repeat (first | (with_reducible first | exact HI0.out | apply Zaj.alloc | apply Zaj.drewN | apply Zaj.drew | apply Zaj.set_1 | refine Zaj.far ?_ NB0_145.out _) | exact HI0.out)); (case side2 => repeat (first | (with_reducible first | exact HB.out | apply Zal | apply Zar | apply Zau | refine Zag ?_ (Zaj.ge HI0.out) | refine Zag ?_ GE145.out) | exact HB.out)); (case side3 => repeat (first | exact (Kd.R_reads' HO158.out).2.2 | (with_reducible refine Kd.C_alloc ?_ _) | (with_reducible refine Kd.C_drewN ?_ _) | (with_reducible refine Kd.C_drew ?_))); (case side4 => exact (Kd.R_reads' HO158.out).2.1); (case side5 => exact far_slice (Zaj.own_ne HI0.out HO158.out (by decide))); rintro e w18 ⟨rfl, hi, hb, hk⟩; refine ⟨_, rfl, ?_⟩; replace BK145 := Zaa.mk (Zap.blk hk (g' := gb145) (o := .cells #[.int .i64 0, .int .i64 0, .int .i64 0, .slice none 0 0] 51 (0, 0)) (zbk BK145) NB145_0.out (by simp)); replace HO148 := Zaa.mk (Kd.R_mono (Kd.R_keep (Zaj.apart (show Zaj w0 _ g s0_0 t155 from (zl14 HI0 NB0_145.out)) (zrk HO148) (by decide)) hk (fun _ h => h.2)) (fun _ h => h.1)); replace HO153 := Zaa.mk (Kd.R_mono (Kd.R_keep (Zaj.apart (show Zaj w0 _ g s0_0 t155 from (zl14 HI0 NB0_145.out)) (zrk HO153) (by decide)) hk (fun _ h => h.2)) (fun _ h => h.1)); replace HO158 := Zaa.mk (Kd.R_mono (Kd.R_keep (Zaj.apart (show Zaj w0 _ g s0_0 t155 from (zl14 HI0 NB0_145.out)) (zrk HO158) (by decide)) hk (fun _ h => h.2)) (fun _ h => h.1)); replace HK := Zaa.mk (Zap.trans (zl13 HK GW145.out) hk (.inl rfl)); replace HB := Zaa.mk (hb); replace HI0 := Zaa.mk (hi); (try clear hb); (try clear hk); (try clear hi)) | ((with_reducible refine Zav (N := 3) rfl ?_); refine Zaw ?hg (N := 3) ?hd (cs := #[.int .i64 0, .int .i64 0, .int .i64 0, .slice none 0 0]) (t := 51) ?hr ?_; (case hd => rfl); (case hg => rfl); (case hr => first | (go_simp; done) | (go_simp; rfl)); intro gb161 hg w19 hbox hb; replace HO148 := Zaa.mk (Kd.R_below (zrk HO148) hb); replace HO153 := Zaa.mk (Kd.R_below (zrk HO153) hb); replace HO158 := Zaa.mk (Kd.R_below (zrk HO158) hb); replace HB := Zaa.mk (Zae (zb6 HB (Zaj.ge HI0.out) GE145.out) hb); have BK161 := Zaa.mk (hbox); have GW161 := Zaa.mk ((by rw [hg]; exact (Zbi (w := w) (g := g) (row := none) (zl13 HK GW145.out)) : w.heap.size ≤ gb161)); have GE161 := Zaa.mk ((Nat.le_trans HW0.out (by rw [hg]; exact (Zbi (w := w) (g := g) (row := none) (zl13 HK GW145.out)) : w.heap.size ≤ gb161) : w0.heap.size ≤ gb161)); replace HK := Zaa.mk (Zap.trans (zl13 HK GW145.out) (Zap.of_below hb g none) (.inl rfl)); have NB145_161 := Zaa.mk ((by rw [hg]; exact Nat.ne_of_lt (Za3 (g := gb145) (o := .cells #[.int .i64 0, .int .i64 0, .int .i64 0, .slice none 0 0] 51 (0, 0)) (zbk BK145)) : gb145 ≠ gb161)); have NB161_145 := Zaa.mk ((by rw [hg]; exact Nat.ne_of_gt (Za3 (g := gb145) (o := .cells #[.int .i64 0, .int .i64 0, .int .i64 0, .slice none 0 0] 51 (0, 0)) (zbk BK145)) : gb161 ≠ gb145)); replace BK145 := Zaa.mk (Zah (g := gb145) (o := .cells #[.int .i64 0, .int .i64 0, .int .i64 0, .slice none 0 0] 51 (0, 0)) (zbk BK145) hb); have NB0_161 := Zaa.mk ((by rw [hg]; exact Nat.ne_of_lt (Zaj.lt (show Zaj w0 _ g s0_0 t160 from (zl14 HI0 NB0_145.out))) : g ≠ gb161)); have NB161_0 := Zaa.mk ((by rw [hg]; exact Nat.ne_of_gt (Zaj.lt (show Zaj w0 _ g s0_0 t160 from (zl14 HI0 NB0_145.out))) : gb161 ≠ g)); replace HI0 := Zaa.mk (Zaj.below (zl14 HI0 NB0_145.out) hb); clear hb hbox hg; have hnb20 := NB161_145.out; have hnc20 := NB145_161.out; have hnb21 := NB161_0.out; have hnc21 := NB0_161.out; obtain ⟨hcz22_0, hcz22_1, hcz22_2, hcz22_3⟩ := bc4 BK161.out; obtain ⟨hfz22_0, hfz22_1, hfz22_2, hfz22_3⟩ := bf4 BK161.out) | ((with_reducible refine Zam (f := 19) rfl ?_); refine Za1 (some 16) rfl rfl Tryz.func19 (by kernel_rfl) rfl #[.pointer (some ⟨g, 0, none⟩), .int .i64 4] rfl zam ?_; (with_reducible refine (kauditmake_Src_N.calls g s0_0 t160 4 t162 t163 w0 _ ?side1 ?side2 A5.out).mono ?_); (case side1 => repeat (first | (with_reducible first | exact HI0.out | apply Zaj.alloc | apply Zaj.drewN | apply Zaj.drew | apply Zaj.set_1 | refine Zaj.far ?_ NB0_145.out _ | refine Zaj.far ?_ NB0_161.out _) | exact HI0.out)); (case side2 => repeat (first | (with_reducible first | exact HB.out | apply Zal | apply Zar | apply Zau | refine Zag ?_ (Zaj.ge HI0.out) | refine Zag ?_ GE145.out | refine Zag ?_ GE161.out) | exact HB.out)); rintro e w23 ⟨rfl, hi, hb, hk⟩; refine ⟨_, rfl, ?_⟩; replace BK145 := Zaa.mk (Zap.blk hk (g' := gb145) (o := .cells #[.int .i64 0, .int .i64 0, .int .i64 0, .slice none 0 0] 51 (0, 0)) (by (with_reducible repeat (first | refine Zac ?_ _ | refine Zad ?_ | refine Zab ?_ _)); refine Zaq ?_ NB145_161.out _; (with_reducible repeat (first | refine Zac ?_ _ | refine Zad ?_ | refine Zab ?_ _)); refine Zaq ?_ NB145_161.out _; (with_reducible repeat (first | refine Zac ?_ _ | refine Zad ?_ | refine Zab ?_ _)); refine Zaq ?_ NB145_161.out _; (with_reducible repeat (first | refine Zac ?_ _ | refine Zad ?_ | refine Zab ?_ _)); refine Zaq ?_ NB145_161.out _; (with_reducible repeat (first | refine Zac ?_ _ | refine Zad ?_ | refine Zab ?_ _)); exact BK145.out) NB145_0.out (by simp)); replace HO148 := Zaa.mk (Kd.R_mono (Kd.R_keep (Zaj.apart (show Zaj w0 _ g s0_0 t160 from (zl15 HI0 NB0_145.out NB0_161.out)) (by (with_reducible repeat (first | apply Kd.R_alloc | apply Kd.R_drewN | apply Kd.R_drew)); exact (Kd.R_mono (Kd.R_far (p := ⟨gb161, 3, none⟩) (Kd.R_far (p := ⟨gb161, 2, none⟩) (Kd.R_far (p := ⟨gb161, 1, none⟩) (Kd.R_far (p := ⟨gb161, 0, none⟩) (Kd.R_types HO148.out BK161.out (by decide)) (fun _ hk => hk.2) (.int .i64 t149)) (fun _ hk => hk.2) (.int .i64 t154)) (fun _ hk => hk.2) (.int .i64 t159)) (fun _ hk => hk.2) (.slice none 0 0)) (fun _ h_ => h_.1))) (by decide)) hk (fun _ h => h.2)) (fun _ h => h.1)); replace HO153 := Zaa.mk (Kd.R_mono (Kd.R_keep (Zaj.apart (show Zaj w0 _ g s0_0 t160 from (zl15 HI0 NB0_145.out NB0_161.out)) (by (with_reducible repeat (first | apply Kd.R_alloc | apply Kd.R_drewN | apply Kd.R_drew)); exact (Kd.R_mono (Kd.R_far (p := ⟨gb161, 3, none⟩) (Kd.R_far (p := ⟨gb161, 2, none⟩) (Kd.R_far (p := ⟨gb161, 1, none⟩) (Kd.R_far (p := ⟨gb161, 0, none⟩) (Kd.R_types HO153.out BK161.out (by decide)) (fun _ hk => hk.2) (.int .i64 t149)) (fun _ hk => hk.2) (.int .i64 t154)) (fun _ hk => hk.2) (.int .i64 t159)) (fun _ hk => hk.2) (.slice none 0 0)) (fun _ h_ => h_.1))) (by decide)) hk (fun _ h => h.2)) (fun _ h => h.1)); replace HO158 := Zaa.mk (Kd.R_mono (Kd.R_keep (Zaj.apart (show Zaj w0 _ g s0_0 t160 from (zl15 HI0 NB0_145.out NB0_161.out)) (by (with_reducible repeat (first | apply Kd.R_alloc | apply Kd.R_drewN | apply Kd.R_drew)); exact (Kd.R_mono (Kd.R_far (p := ⟨gb161, 3, none⟩) (Kd.R_far (p := ⟨gb161, 2, none⟩) (Kd.R_far (p := ⟨gb161, 1, none⟩) (Kd.R_far (p := ⟨gb161, 0, none⟩) (Kd.R_types HO158.out BK161.out (by decide)) (fun _ hk => hk.2) (.int .i64 t149)) (fun _ hk => hk.2) (.int .i64 t154)) (fun _ hk => hk.2) (.int .i64 t159)) (fun _ hk => hk.2) (.slice none 0 0)) (fun _ h_ => h_.1))) (by decide)) hk (fun _ h => h.2)) (fun _ h => h.1)); replace BK161 := Zaa.mk (Zap.blk hk (g' := gb161) (o := .cells #[.int .i64 t149, .int .i64 t154, .int .i64 t159, .slice none 0 0] 51 (0, 0)) (by (with_reducible repeat (first | refine Zac ?_ _ | refine Zad ?_ | refine Zab ?_ _)); refine Zas (cs := #[.int .i64 t149, .int .i64 t154, .int .i64 t159, .slice none 0 0]) ?_ 3 _ rfl; (with_reducible repeat (first | refine Zac ?_ _ | refine Zad ?_ | refine Zab ?_ _)); refine Zas (cs := #[.int .i64 t149, .int .i64 t154, .int .i64 0, .slice none 0 0]) ?_ 2 _ rfl; (with_reducible repeat (first | refine Zac ?_ _ | refine Zad ?_ | refine Zab ?_ _)); refine Zas (cs := #[.int .i64 t149, .int .i64 0, .int .i64 0, .slice none 0 0]) ?_ 1 _ rfl; (with_reducible repeat (first | refine Zac ?_ _ | refine Zad ?_ | refine Zab ?_ _)); refine Zas (cs := #[.int .i64 0, .int .i64 0, .int .i64 0, .slice none 0 0]) ?_ 0 _ rfl; (with_reducible repeat (first | refine Zac ?_ _ | refine Zad ?_ | refine Zab ?_ _)); exact BK161.out) NB161_0.out (by simp)); replace HK := Zaa.mk (Zap.trans (zl16 HK GW145.out GW161.out) hk (.inl rfl)); replace HB := Zaa.mk (hb); replace HI0 := Zaa.mk (hi); (try clear hb); (try clear hk); (try clear hi)))
 go_loopg [4] k (fun kq v4 w' => ∃ (x4_1 : Int) (x1001_1 : Int) (x162003_1 : List (S88)) (u162003 : Value), v4 = .int .i64 x4_1 ∧ Zaa (kauditmake_Src_Record.l0 kq x4_1 s0_0 x1001_1 t149 t154 t159 x162003_1 = some (r1, r2, r3, r4, r5)) ∧ Zaa (kq ≤ k) ∧ Zaa (Kd.R k88 88 w' w.heap.size (fun _ => True) u162003 x162003_1) ∧ Zaa (w'.heap[gb145]? = some (.cells #[.int .i64 0, .int .i64 0, .int .i64 0, (.slice none 0 0)] 51 (0, 0))) ∧ Zaa (w'.heap[gb161]? = some (.cells #[.int .i64 t149, .int .i64 t154, .int .i64 t159, u162003] 51 (0, 0))) ∧ Zaa (Zaj w0 w' g s0_0 x1001_1) ∧ Zaa (Zap w w' g none) ∧ Zaa (Below w0.heap.size w0 w'))
 case atStart => exact ⟨(t162), (t163), (([] : List (S88))), (.slice none 0 0), (by first | rfl | (simp; done) | (simp [*]; done)), H', ⟨Nat.le_refl _⟩, ⟨by first | exact Kd.R_nil _ _ _ _ _ | exact Kd.N_nil _ _ _ _ _ | exact Kd.V_nil _ _ _ _ _ | exact Kd.Q_nil _ _ _ _ _ | exact Kd.S_nil _ _ _ _ _⟩, ⟨by (with_reducible repeat (first | refine Zac ?_ _ | refine Zad ?_ | refine Zab ?_ _)); exact BK145.out⟩, ⟨by (with_reducible repeat (first | refine Zac ?_ _ | refine Zad ?_ | refine Zab ?_ _)); exact BK161.out⟩, ⟨(zl15 HI0 NB0_145.out NB0_161.out)⟩, ⟨(zl16 HK GW145.out GW161.out)⟩, ⟨(zb10 HB (Zaj.ge HI0.out) GE145.out GE161.out)⟩⟩
 case round =>
  clear H'
  (try clear hcz22_0)
  (try clear hcz22_1)
  (try clear hcz22_2)
  (try clear hcz22_3)
  (try clear hfz22_0)
  (try clear hfz22_1)
  (try clear hfz22_2)
  (try clear hfz22_3)
  obtain ⟨x4_1, x1001_1, x162003_1, u162003, rfl, HA, HK1, HO_162003, BK145, BK161, HI0, HK, HB⟩ := hrel
  cases gk with
  | zero => exact absurd HA.out (by simp [kauditmake_Src_Record.l0])
  | succ k1 =>
   have H := HA.out
   clear HA
   simp only [kauditmake_Src_Record.l0] at H
   by_cases c24 : x4_1 > 0
   ·rw [if_pos c24] at H
    have c24b0 : decide (0 < x4_1) = true := decide_eq_true c24
    clear c24
    replace H := Option.bind_eq_some_iff.mp H
    obtain ⟨⟨t164, t165, t166, t167, t168⟩, A250, H⟩ := H
    try dsimp only at H
    have A25 := Zaa.mk A250
    clear A250
    by_cases c26 : x162003_1.length < 2932031007402
    ·rw [if_pos c26] at H
     have LMc26 := Zaa.mk c26
     clear c26
     obtain ⟨y169, hy169⟩ : ∃ y_ : List (S88), y_ = (x162003_1 ++ [(⟨t164, t165, t166, t167⟩ : S88)]) := ⟨_, rfl⟩
     replace H : (kauditmake_Src_Record.l0 k1 (wrap64 (x4_1 - 1)) s0_0 t168 t149 t154 t159 y169) = some (r1, r2, r3, r4, r5) := by first | (rw [hy169]; with_reducible exact H) | (have H2_ := (Option.bind_some _ _).symm.trans H; rw [hy169]; with_reducible exact H2_) | (have H2_ := (Option.bind_some _ _).symm.trans H; with_reducible exact H2_) | with_reducible exact H | (rw [hy169]; exact H) | exact H
     have Ny169 := Zaa.mk hy169
     clear hy169
     have H' := Zaa.mk H
     clear H
     try go_wp2
     replace HO_162003 := Zaa.mk (Kd.R_drew HO_162003.out)
     replace BK145 := Zaa.mk (Zad BK145.out)
     replace BK161 := Zaa.mk (Zad BK161.out)
     replace HI0 := Zaa.mk (Zaj.drew HI0.out)
     replace HK := Zaa.mk (keep_drew HK.out)
     replace HB := Zaa.mk (Zau HB.out)
     refine start_ (n := 8) (S := fun w' => w'.cell? ⟨gb161, 0, none⟩ = some (.int .i64 t149) ∧ w'.cell? ⟨gb161, 1, none⟩ = some (.int .i64 t154) ∧ w'.cell? ⟨gb161, 2, none⟩ = some (.int .i64 t159) ∧ w'.cell? ⟨gb161, 3, none⟩ = some (u162003)) (ds := [7]) #[false, false, false, false, false, false, false, false] (by kernel_rfl) rfl rfl ⟨(Zaf BK161.out 0).trans rfl, (Zaf BK161.out 1).trans rfl, (Zaf BK161.out 2).trans rfl, (Zaf BK161.out 3).trans rfl⟩ (fun hHeld => ?_); refine with_tabW kauditmake_Src_Record.tab5 kauditmake_Src_Record.bits5 (fun HT_ HW_ => ?_)
     generalize wr.drew = w27 at HO_162003 BK145 BK161 HI0 HK HB hHeld ⊢
     refine Za4 (i := 0) (N := some 21) (v := ?_) (a' := ?_) #[true, false, false, false, false, false, false, false] rfl rfl (Zaz HT_.out (by kernel_rfl)) (fun _ _ _ h => h) (Or.inl ⟨by rfl, ?_⟩) ?_ ?_
     rotate_left
     ·intro w'
      go_simp
      with_reducible rfl
     rotate_left
     ·simp only [Act.put, List.setIfInBounds_toArray, List.set_cons_zero, List.set_cons_succ, Zax, Zay]
      rfl
     refine Za4 (i := 2) (N := some 23) (v := ?_) (a' := ?_) #[true, false, true, false, false, false, false, false] rfl rfl (Zaz HT_.out (by kernel_rfl)) (fun _ _ _ h => h) (Or.inl ⟨by rfl, ?_⟩) ?_ ?_
     rotate_left
     ·intro w'
      go_simp
      with_reducible rfl
     rotate_left
     ·simp only [Act.put, List.setIfInBounds_toArray, List.set_cons_zero, List.set_cons_succ, Zax, Zay]
      rfl
     refine take_ (i := 1) (N := some 22) (v := ?_) (a' := ?_) #[true, true, true, false, false, false, false, false] rfl rfl (Zb7 HT_.out HW_.out (by kernel_rfl)) (fun _ _ _ h => h) (Or.inl ⟨by rfl, ?_⟩) hHeld ?_ ?_
     rotate_left
     ·rintro w' ⟨s0, s1, s2, s3⟩
      go_simp
      with_reducible rfl
     rotate_left
     ·simp only [Act.put, List.setIfInBounds_toArray, List.set_cons_zero, List.set_cons_succ, Zax, Zay]
      rfl
     refine one_ (i := 3) (N := some 24) #[true, true, true, true, false, false, false, false] rfl rfl (Zbq HT_.out (by kernel_rfl)) (by decide) (fun K hK => ?_)
     refine goes_ Tryz.func39 (by kernel_rfl) rfl #[.pointer (some ⟨g, 0, none⟩)] (by rfl) rfl rfl zam ?_
     with_reducible refine (kauditmake_Src_Pair.calls k1 g s0_0 x1001_1 t164 t165 t166 t167 t168 w0 _ ?side1 ?side2 A25.out).mono ?_
     (case side1 => repeat (first | (with_reducible first | exact HI0.out | apply Zaj.alloc | apply Zaj.drewN | apply Zaj.drew | apply Zaj.set_1 | refine Zaj.far ?_ NB0_145.out _ | refine Zaj.far ?_ NB0_161.out _) | exact HI0.out))
     (case side2 => repeat (first | (with_reducible first | exact HB.out | apply Zal | apply Zar | apply Zau | refine Zag ?_ (Zaj.ge HI0.out) | refine Zag ?_ GE145.out | refine Zag ?_ GE161.out) | exact HB.out))
     rintro e w28 ⟨rfl, hi, hb, hk⟩
     refine ⟨_, rfl, ?_⟩
     replace HO_162003 := Zaa.mk (Kd.R_mono (Kd.R_keep (Zaj.apart (show Zaj w0 _ g s0_0 x1001_1 from (zl15 HI0 NB0_145.out NB0_161.out)) (zrk HO_162003) (by decide)) hk (fun _ h => h.2)) (fun _ h => h.1))
     replace BK145 := Zaa.mk (Zap.blk hk (g' := gb145) (o := .cells #[.int .i64 0, .int .i64 0, .int .i64 0, .slice none 0 0] 51 (0, 0)) (zbk BK145) NB145_0.out (by simp))
     replace BK161 := Zaa.mk (Zap.blk hk (g' := gb161) (o := .cells #[.int .i64 t149, .int .i64 t154, .int .i64 t159, u162003] 51 (0, 0)) (zbk BK161) NB161_0.out (by simp))
     replace HK := Zaa.mk (Zap.trans (zl16 HK GW145.out GW161.out) hk (.inl rfl))
     replace HB := Zaa.mk (hb)
     replace HI0 := Zaa.mk (hi)
     (try clear hb)
     (try clear hb2)
     (try clear hk)
     (try clear hi)
     refine hK.out _ _ ⟨(Zaf BK161.out 0).trans rfl, (Zaf BK161.out 1).trans rfl, (Zaf BK161.out 2).trans rfl, (Zaf BK161.out 3).trans rfl⟩ (fun hHeld => ?_)
     clear hK K
     refine norm_ (a' := ?_) ?_ ?_
     rotate_left
     ·show Act.put _ (some 24) _ = _
      simp only [Act.put, List.setIfInBounds_toArray, List.set_cons_zero, List.set_cons_succ, Zax, Zay]
      rfl
     refine one_ (i := 4) (N := some 25) #[true, true, true, true, true, false, false, false] rfl rfl (Zbq HT_.out (by kernel_rfl)) (by decide) (fun K hK => ?_)
     refine value_ (w1 := ?_) (v := ?_) (by rfl) rfl ?_ ?_
     rotate_left 2
     ·go_simp
      constructor
      ·rfl
      ·rfl
     refine hK.out _ _ ⟨(Zaf (Zab BK161.out _) 0).trans rfl, (Zaf (Zab BK161.out _) 1).trans rfl, (Zaf (Zab BK161.out _) 2).trans rfl, (Zaf (Zab BK161.out _) 3).trans rfl⟩ (fun hHeld => ?_)
     clear hK K
     refine norm_ (a' := ?_) ?_ ?_
     rotate_left
     ·show Act.put _ (some 25) _ = _
      simp only [Act.put, List.setIfInBounds_toArray, List.set_cons_zero, List.set_cons_succ, Zax, Zay]
      rfl
     refine one_ (i := 5) (N := some 26) #[true, true, true, true, true, true, false, false] rfl rfl (Zbq HT_.out (by kernel_rfl)) (by decide) (fun K hK => ?_)
     refine Kd.R_append_step k88 w.heap.size (by rfl) (.tmp 22) (.tmp 25) 49 88 (.agg #[(.string ⟨#[]⟩), (.int .i64 0), (.int .i64 0), (.string ⟨#[]⟩)]) 48 rfl Tryz.underlying49 info88 rfl (by decide) (by omega) u162003 x162003_1 (⟨t164, t165, t166, t167⟩ : S88) [.string t164, .int .i64 t165, .int .i64 t166, .string t167] (fun _ => True) (fun _ => False) rfl rfl ?aP (fun _ hk => hk.elim) ?aF ?aO (Below.refl _ _) ?aS ?aL ?_
     (case aP => exact k88_mkM _ _ _ (⟨t164, t165, t166, t167⟩ : S88))
     (case aF => exact (fun _ _ => trivial))
     (case aO => exact (zrk HO_162003))
     (case aS => exact (Zbi (w := w) (g := g) (row := none) (zl16 HK GW145.out GW161.out)))
     (case aL => have := LMc26.out; omega)
     intro v170 w29 ho hb hg hat
     rw [← Ny169.out] at ho
     replace BK145 := Zaa.mk (Zb2 (g := gb145) (o := .cells #[.int .i64 0, .int .i64 0, .int .i64 0, .slice none 0 0] 51 (0, 0)) (zbk BK145) hg (Kd.R_ne HO_162003.out BK145.out (by decide)))
     replace BK161 := Zaa.mk (Zb2 (g := gb161) (o := .cells #[.int .i64 t149, .int .i64 t154, .int .i64 t159, u162003] 51 (0, 0)) (zbk BK161) hg (Kd.R_ne HO_162003.out BK161.out (by decide)))
     replace HB := Zaa.mk (below_weaken (zb10 HB (Zaj.ge HI0.out) GE145.out GE161.out) HL.out hb)
     replace HI0 := Zaa.mk (Zaj.grown (zl15 HI0 NB0_145.out NB0_161.out) hg (Zaj.own_ne HI0.out HO_162003.out (by decide)))
     replace HK := Zaa.mk (Zap.trans (zl16 HK GW145.out GW161.out) (Zap.of_grown hg g) (Kd.R_base2 HO_162003.out))
     have HO171 := Zaa.mk (ho)
     clear HO_162003 ho hb hg hat
     obtain ⟨Ao30, co30, eo30⟩ := Kd.R_slice HO171.out
     (first | subst eo30 | (injection eo30 with f1_ f2_ f3_; have f4_ := f1_.symm; have f5_ := f3_.symm; clear f1_ f2_ f3_; subst f4_; subst f5_))
     refine hK.out _ _ ⟨(Zaf BK161.out 0).trans rfl, (Zaf BK161.out 1).trans rfl, (Zaf BK161.out 2).trans rfl, (Zaf BK161.out 3).trans rfl⟩ (fun hHeld => ?_)
     clear hK K
     refine norm_ (a' := ?_) ?_ ?_
     rotate_left
     ·show Act.put _ (some 26) _ = _
      simp only [Act.put, List.setIfInBounds_toArray, List.set_cons_zero, List.set_cons_succ, Zax, Zay]
      rfl
     refine Za4 (i := 6) (N := some 27) (v := ?_) (a' := ?_) #[true, true, true, true, true, true, true, false] rfl rfl (Zaz HT_.out (by kernel_rfl)) (fun _ _ _ h => h) (Or.inl ⟨by rfl, ?_⟩) ?_ ?_
     rotate_left
     ·intro w'
      go_simp
      with_reducible rfl
     rotate_left
     ·simp only [Act.put, List.setIfInBounds_toArray, List.set_cons_zero, List.set_cons_succ, Zax, Zay]
      rfl
     refine last_ (i := 7) (N := none) #[true, true, true, true, true, true, true, true] rfl rfl (Zbq HT_.out (by kernel_rfl)) (by decide) (fun K hK => ?_)
     have hs31 : w29.cell? ⟨gb161, 3, none⟩ = some (u162003) := (Zaf BK161.out 3).trans rfl
     have hfs31 := Zak BK161.out 3
     have hns31_0 := NB145_161.out
     have hms31_0 := NB161_145.out
     refine skip_ (w1 := ?_) (by rfl) rfl ?_ ?_
     rotate_left
     ·go_simp
      rfl
     refine hK.out _ _ ?_
     clear hK K
     refine done_ (done_of HT_.out (by kernel_rfl)) ?_
     try go_wp2
     go_roundg k1
     case measure => have := HK1.out; omega
     case rel => exact ⟨(wrap64 (x4_1 - 1)), (t168), (y169), (.slice Ao30 y169.length co30), (by first | rfl | (simp; done) | (simp [*]; done)), H', ⟨by have := HK1.out; omega⟩, ⟨by (with_reducible repeat (first | apply Kd.R_alloc | apply Kd.R_drewN | apply Kd.R_drew)); exact Kd.R_mono (Kd.R_far (p := ⟨gb161, 3, none⟩) (Kd.R_types HO171.out BK161.out (by decide)) (fun _ hk => hk.2) (.slice Ao30 y169.length co30)) (fun _ hk => trivial)⟩, ⟨by (with_reducible repeat (first | refine Zac ?_ _ | refine Zad ?_ | refine Zab ?_ _)); refine Zaq ?_ NB145_161.out _; (with_reducible repeat (first | refine Zac ?_ _ | refine Zad ?_ | refine Zab ?_ _)); exact BK145.out⟩, ⟨by (with_reducible repeat (first | refine Zac ?_ _ | refine Zad ?_ | refine Zab ?_ _)); refine Zas (cs := #[.int .i64 t149, .int .i64 t154, .int .i64 t159, u162003]) ?_ 3 _ rfl; (with_reducible repeat (first | refine Zac ?_ _ | refine Zad ?_ | refine Zab ?_ _)); exact BK161.out⟩, ⟨(zl15 HI0 NB0_145.out NB0_161.out)⟩, ⟨(zl16 HK GW145.out GW161.out)⟩, ⟨(zb10 HB (Zaj.ge HI0.out) GE145.out GE161.out)⟩⟩
    ·rw [if_neg c26] at H
     exact absurd H (by simp)
   ·rw [if_neg c24] at H
    have c24b0 : decide (0 < x4_1) = false := decide_eq_false c24
    clear c24
    replace H := Option.bind_eq_some_iff.mp H
    obtain ⟨⟨t172, t173⟩, A320, H⟩ := H
    try dsimp only at H
    have A32 := Zaa.mk A320
    clear A320
    by_cases c33 : t172 = 19
    ·rw [if_pos c33] at H
     have c33b0 : (t172 == 19) = true := beq_iff_eq.mpr c33
     have c33b1 : (t172 != 19) = false := bne_eq_false_iff_eq.mpr c33
     clear c33
     replace H := Option.bind_eq_some_iff.mp H
     obtain ⟨⟨t174, t175⟩, A340, H⟩ := H
     try dsimp only at H
     have A34 := Zaa.mk A340
     clear A340
     replace H := Option.bind_eq_some_iff.mp H
     obtain ⟨⟨t176, t177⟩, A350, H⟩ := H
     try dsimp only at H
     have A35 := Zaa.mk A350
     clear A350
     simp only [Option.some.injEq, Prod.mk.injEq] at H
     obtain ⟨rfl, rfl, rfl, rfl, rfl⟩ := H
     go_wp2_with (first | ((with_reducible refine Zam (f := 19) rfl ?_); refine Za1 (some 29) rfl rfl Tryz.func19 (by kernel_rfl) rfl #[.pointer (some ⟨g, 0, none⟩), .int .i64 20] rfl zam ?_; (with_reducible refine (kauditmake_Src_N.calls g s0_0 x1001_1 20 t172 t173 w0 _ ?side1 ?side2 A32.out).mono ?_); (case side1 => repeat (first | (with_reducible first | exact HI0.out | apply Zaj.alloc | apply Zaj.drewN | apply Zaj.drew | apply Zaj.set_1 | refine Zaj.far ?_ NB0_145.out _ | refine Zaj.far ?_ NB0_161.out _) | exact HI0.out)); (case side2 => repeat (first | (with_reducible first | exact HB.out | apply Zal | apply Zar | apply Zau | refine Zag ?_ (Zaj.ge HI0.out) | refine Zag ?_ GE145.out | refine Zag ?_ GE161.out) | exact HB.out)); rintro e w36 ⟨rfl, hi, hb, hk⟩; refine ⟨_, rfl, ?_⟩; replace HO_162003 := Zaa.mk (Kd.R_mono (Kd.R_keep (Zaj.apart (show Zaj w0 _ g s0_0 x1001_1 from (zl15 HI0 NB0_145.out NB0_161.out)) (zrk HO_162003) (by decide)) hk (fun _ h => h.2)) (fun _ h => h.1)); replace BK145 := Zaa.mk (Zap.blk hk (g' := gb145) (o := .cells #[.int .i64 0, .int .i64 0, .int .i64 0, .slice none 0 0] 51 (0, 0)) (zbk BK145) NB145_0.out (by simp)); replace BK161 := Zaa.mk (Zap.blk hk (g' := gb161) (o := .cells #[.int .i64 t149, .int .i64 t154, .int .i64 t159, u162003] 51 (0, 0)) (zbk BK161) NB161_0.out (by simp)); replace HK := Zaa.mk (Zap.trans (zl16 HK GW145.out GW161.out) hk (.inl rfl)); replace HB := Zaa.mk (hb); replace HI0 := Zaa.mk (hi); (try clear hb); (try clear hk); (try clear hi)) | ((with_reducible refine Zam (f := 40) rfl ?_); refine Za1 (some 32) rfl rfl Tryz.func40 (by kernel_rfl) rfl #[.pointer (some ⟨g, 0, none⟩), .int .i64 1299, .int .i64 1303] rfl zam ?_; (with_reducible refine (kauditmake_Src_Range.calls g s0_0 t173 1299 1303 t174 t175 w0 _ ?side1 ?side2 A34.out).mono ?_); (case side1 => repeat (first | (with_reducible first | exact HI0.out | apply Zaj.alloc | apply Zaj.drewN | apply Zaj.drew | apply Zaj.set_1 | refine Zaj.far ?_ NB0_145.out _ | refine Zaj.far ?_ NB0_161.out _) | exact HI0.out)); (case side2 => repeat (first | (with_reducible first | exact HB.out | apply Zal | apply Zar | apply Zau | refine Zag ?_ (Zaj.ge HI0.out) | refine Zag ?_ GE145.out | refine Zag ?_ GE161.out) | exact HB.out)); rintro e w37 ⟨rfl, hi, hb, hk⟩; refine ⟨_, rfl, ?_⟩; replace HO_162003 := Zaa.mk (Kd.R_mono (Kd.R_keep (Zaj.apart (show Zaj w0 _ g s0_0 t173 from (zl15 HI0 NB0_145.out NB0_161.out)) (zrk HO_162003) (by decide)) hk (fun _ h => h.2)) (fun _ h => h.1)); replace BK145 := Zaa.mk (Zap.blk hk (g' := gb145) (o := .cells #[.int .i64 0, .int .i64 0, .int .i64 0, .slice none 0 0] 51 (0, 0)) (zbk BK145) NB145_0.out (by simp)); replace BK161 := Zaa.mk (Zap.blk hk (g' := gb161) (o := .cells #[.int .i64 t149, .int .i64 t154, .int .i64 t159, u162003] 51 (0, 0)) (zbk BK161) NB161_0.out (by simp)); replace HK := Zaa.mk (Zap.trans (zl16 HK GW145.out GW161.out) hk (.inl rfl)); replace HB := Zaa.mk (hb); replace HI0 := Zaa.mk (hi); (try clear hb); (try clear hk); (try clear hi)) | ((with_reducible refine Zam (f := 40) rfl ?_); refine Za1 (some 34) rfl rfl Tryz.func40 (by kernel_rfl) rfl #[.pointer (some ⟨g, 0, none⟩), .int .i64 (-1), .int .i64 1] rfl zam ?_; (with_reducible refine (kauditmake_Src_Range.calls g s0_0 t175 (-1) 1 t176 t177 w0 _ ?side1 ?side2 A35.out).mono ?_); (case side1 => repeat (first | (with_reducible first | exact HI0.out | apply Zaj.alloc | apply Zaj.drewN | apply Zaj.drew | apply Zaj.set_1 | refine Zaj.far ?_ NB0_145.out _ | refine Zaj.far ?_ NB0_161.out _) | exact HI0.out)); (case side2 => repeat (first | (with_reducible first | exact HB.out | apply Zal | apply Zar | apply Zau | refine Zag ?_ (Zaj.ge HI0.out) | refine Zag ?_ GE145.out | refine Zag ?_ GE161.out) | exact HB.out)); rintro e w38 ⟨rfl, hi, hb, hk⟩; refine ⟨_, rfl, ?_⟩; replace HO_162003 := Zaa.mk (Kd.R_mono (Kd.R_keep (Zaj.apart (show Zaj w0 _ g s0_0 t175 from (zl15 HI0 NB0_145.out NB0_161.out)) (zrk HO_162003) (by decide)) hk (fun _ h => h.2)) (fun _ h => h.1)); replace BK145 := Zaa.mk (Zap.blk hk (g' := gb145) (o := .cells #[.int .i64 0, .int .i64 0, .int .i64 0, .slice none 0 0] 51 (0, 0)) (zbk BK145) NB145_0.out (by simp)); replace BK161 := Zaa.mk (Zap.blk hk (g' := gb161) (o := .cells #[.int .i64 t149, .int .i64 t154, .int .i64 t159, u162003] 51 (0, 0)) (zbk BK161) NB161_0.out (by simp)); replace HK := Zaa.mk (Zap.trans (zl16 HK GW145.out GW161.out) hk (.inl rfl)); replace HB := Zaa.mk (hb); replace HI0 := Zaa.mk (hi); (try clear hb); (try clear hk); (try clear hi); have hnb39 := NB161_145.out; have hnc39 := NB145_161.out; have hnb40 := NB161_0.out; have hnc40 := NB0_161.out; obtain ⟨hcz41_0, hcz41_1, hcz41_2, hcz41_3⟩ := bc4 BK161.out; obtain ⟨hfz41_0, hfz41_1, hfz41_2, hfz41_3⟩ := bf4 BK161.out; have hnb42 := NB145_0.out; have hnc42 := NB0_145.out; obtain ⟨hcz43_0, hcz43_1, hcz43_2, hcz43_3⟩ := bc4 BK145.out; obtain ⟨hfz43_0, hfz43_1, hfz43_2, hfz43_3⟩ := bf4 BK145.out; obtain ⟨Ao44, co44, eo44⟩ := Kd.R_slice HO_162003.out; subst eo44))
     refine bodyPost_ret (results_cell_row rfl _ _ gb145 51 #[.int .i64 t174, .int .i64 t176, .int .i64 t159, .slice Ao44 x162003_1.length co44] (0, 0) _ rfl (by (with_reducible repeat (first | refine Zac ?_ _ | refine Zad ?_ | refine Zab ?_ _)); refine Zas (cs := #[.int .i64 t174, .int .i64 t176, .int .i64 t159, .slice none 0 0]) ?_ 3 _ rfl; (with_reducible repeat (first | refine Zac ?_ _ | refine Zad ?_ | refine Zab ?_ _)); refine Zas (cs := #[.int .i64 t174, .int .i64 t176, .int .i64 0, .slice none 0 0]) ?_ 2 _ rfl; (with_reducible repeat (first | refine Zac ?_ _ | refine Zad ?_ | refine Zab ?_ _)); refine Zas (cs := #[.int .i64 t174, .int .i64 0, .int .i64 0, .slice none 0 0]) ?_ 1 _ rfl; (with_reducible repeat (first | refine Zac ?_ _ | refine Zad ?_ | refine Zab ?_ _)); refine Zas (cs := #[.int .i64 0, .int .i64 0, .int .i64 0, .slice none 0 0]) ?_ 0 _ rfl; (with_reducible repeat (first | refine Zac ?_ _ | refine Zad ?_ | refine Zab ?_ _)); refine Zaq ?_ NB145_161.out _; (with_reducible repeat (first | refine Zac ?_ _ | refine Zad ?_ | refine Zab ?_ _)); refine Zaq ?_ NB145_161.out _; (with_reducible repeat (first | refine Zac ?_ _ | refine Zad ?_ | refine Zab ?_ _)); exact BK145.out) Tryz.underlying51 rfl (by kernel_rfl)) rfl ?_
     exact ⟨_, by first | rfl | (simp [errW_none, errW_some] <;> rfl) | (simp [*, errW_none, errW_some] <;> rfl), by (with_reducible repeat (first | apply Kd.R_alloc | apply Kd.R_drewN | apply Kd.R_drew)); exact Kd.R_mono (Kd.R_far (p := ⟨gb145, 3, none⟩) (Kd.R_far (p := ⟨gb145, 2, none⟩) (Kd.R_far (p := ⟨gb145, 1, none⟩) (Kd.R_far (p := ⟨gb145, 0, none⟩) (Kd.R_far (p := ⟨gb161, 1, none⟩) (Kd.R_far (p := ⟨gb161, 0, none⟩) (Kd.R_types (Kd.R_types HO_162003.out BK161.out (by decide)) BK145.out (by decide)) (fun _ hk => hk.1.2) (.int .i64 t174)) (fun _ hk => hk.1.2) (.int .i64 t176)) (fun _ hk => hk.2) (.int .i64 t174)) (fun _ hk => hk.2) (.int .i64 t176)) (fun _ hk => hk.2) (.int .i64 t159)) (fun _ hk => hk.2) (.slice Ao44 x162003_1.length co44)) (fun _ hk => trivial), (zl15 HI0 NB0_145.out NB0_161.out), (zb10 HB (Zaj.ge HI0.out) GE145.out GE161.out), (zl16 HK GW145.out GW161.out)⟩
    ·rw [if_neg c33] at H
     have c33b0 : (t172 == 19) = false := beq_eq_false_iff_ne.mpr c33
     have c33b1 : (t172 != 19) = true := bne_iff_ne.mpr c33
     simp only [Option.some.injEq, Prod.mk.injEq] at H
     obtain ⟨rfl, rfl, rfl, rfl, rfl⟩ := H
     go_wp2_with (first | ((with_reducible refine Zam (f := 19) rfl ?_); refine Za1 (some 29) rfl rfl Tryz.func19 (by kernel_rfl) rfl #[.pointer (some ⟨g, 0, none⟩), .int .i64 20] rfl zam ?_; (with_reducible refine (kauditmake_Src_N.calls g s0_0 x1001_1 20 t172 t173 w0 _ ?side1 ?side2 A32.out).mono ?_); (case side1 => repeat (first | (with_reducible first | exact HI0.out | apply Zaj.alloc | apply Zaj.drewN | apply Zaj.drew | apply Zaj.set_1 | refine Zaj.far ?_ NB0_145.out _ | refine Zaj.far ?_ NB0_161.out _) | exact HI0.out)); (case side2 => repeat (first | (with_reducible first | exact HB.out | apply Zal | apply Zar | apply Zau | refine Zag ?_ (Zaj.ge HI0.out) | refine Zag ?_ GE145.out | refine Zag ?_ GE161.out) | exact HB.out)); rintro e w45 ⟨rfl, hi, hb, hk⟩; refine ⟨_, rfl, ?_⟩; replace HO_162003 := Zaa.mk (Kd.R_mono (Kd.R_keep (Zaj.apart (show Zaj w0 _ g s0_0 x1001_1 from (zl15 HI0 NB0_145.out NB0_161.out)) (zrk HO_162003) (by decide)) hk (fun _ h => h.2)) (fun _ h => h.1)); replace BK145 := Zaa.mk (Zap.blk hk (g' := gb145) (o := .cells #[.int .i64 0, .int .i64 0, .int .i64 0, .slice none 0 0] 51 (0, 0)) (zbk BK145) NB145_0.out (by simp)); replace BK161 := Zaa.mk (Zap.blk hk (g' := gb161) (o := .cells #[.int .i64 t149, .int .i64 t154, .int .i64 t159, u162003] 51 (0, 0)) (zbk BK161) NB161_0.out (by simp)); replace HK := Zaa.mk (Zap.trans (zl16 HK GW145.out GW161.out) hk (.inl rfl)); replace HB := Zaa.mk (hb); replace HI0 := Zaa.mk (hi); (try clear hb); (try clear hk); (try clear hi); have hnb46 := NB161_145.out; have hnc46 := NB145_161.out; have hnb47 := NB161_0.out; have hnc47 := NB0_161.out; obtain ⟨hcz48_0, hcz48_1, hcz48_2, hcz48_3⟩ := bc4 BK161.out; obtain ⟨hfz48_0, hfz48_1, hfz48_2, hfz48_3⟩ := bf4 BK161.out; have hnb49 := NB145_0.out; have hnc49 := NB0_145.out; obtain ⟨hcz50_0, hcz50_1, hcz50_2, hcz50_3⟩ := bc4 BK145.out; obtain ⟨hfz50_0, hfz50_1, hfz50_2, hfz50_3⟩ := bf4 BK145.out; obtain ⟨Ao51, co51, eo51⟩ := Kd.R_slice HO_162003.out; subst eo51))
     refine bodyPost_ret (results_cell_row rfl _ _ gb145 51 #[.int .i64 t149, .int .i64 t154, .int .i64 t159, .slice Ao51 x162003_1.length co51] (0, 0) _ rfl (by (with_reducible repeat (first | refine Zac ?_ _ | refine Zad ?_ | refine Zab ?_ _)); refine Zas (cs := #[.int .i64 t149, .int .i64 t154, .int .i64 t159, .slice none 0 0]) ?_ 3 _ rfl; (with_reducible repeat (first | refine Zac ?_ _ | refine Zad ?_ | refine Zab ?_ _)); refine Zas (cs := #[.int .i64 t149, .int .i64 t154, .int .i64 0, .slice none 0 0]) ?_ 2 _ rfl; (with_reducible repeat (first | refine Zac ?_ _ | refine Zad ?_ | refine Zab ?_ _)); refine Zas (cs := #[.int .i64 t149, .int .i64 0, .int .i64 0, .slice none 0 0]) ?_ 1 _ rfl; (with_reducible repeat (first | refine Zac ?_ _ | refine Zad ?_ | refine Zab ?_ _)); refine Zas (cs := #[.int .i64 0, .int .i64 0, .int .i64 0, .slice none 0 0]) ?_ 0 _ rfl; (with_reducible repeat (first | refine Zac ?_ _ | refine Zad ?_ | refine Zab ?_ _)); exact BK145.out) Tryz.underlying51 rfl (by kernel_rfl)) rfl ?_
     exact ⟨_, by first | rfl | (simp [errW_none, errW_some] <;> rfl) | (simp [*, errW_none, errW_some] <;> rfl), by (with_reducible repeat (first | apply Kd.R_alloc | apply Kd.R_drewN | apply Kd.R_drew)); exact Kd.R_mono (Kd.R_far (p := ⟨gb145, 3, none⟩) (Kd.R_far (p := ⟨gb145, 2, none⟩) (Kd.R_far (p := ⟨gb145, 1, none⟩) (Kd.R_far (p := ⟨gb145, 0, none⟩) (Kd.R_types HO_162003.out BK145.out (by decide)) (fun _ hk => hk.2) (.int .i64 t149)) (fun _ hk => hk.2) (.int .i64 t154)) (fun _ hk => hk.2) (.int .i64 t159)) (fun _ hk => hk.2) (.slice Ao51 x162003_1.length co51)) (fun _ hk => trivial), (zl15 HI0 NB0_145.out NB0_161.out), (zb10 HB (Zaj.ge HI0.out) GE145.out GE161.out), (zl16 HK GW145.out GW161.out)⟩
def kauditref03_kinds.f  : Option ((List (S126))) := some (([(⟨(⟨#[85, 83, 69, 82]⟩ : ByteArray), 1005, true⟩ : S126), (⟨(⟨#[68, 65, 69, 77, 79, 78]⟩ : ByteArray), 1200, true⟩ : S126), (⟨(⟨#[83, 89, 83, 67, 65, 76, 76]⟩ : ByteArray), 1300, false⟩ : S126), (⟨(⟨#[80, 65, 84, 72]⟩ : ByteArray), 1302, false⟩ : S126), (⟨(⟨#[67, 79, 78, 70, 73, 71]⟩ : ByteArray), 1305, true⟩ : S126), (⟨(⟨#[83, 79, 67, 75, 65, 68, 68, 82]⟩ : ByteArray), 1306, false⟩ : S126), (⟨(⟨#[67, 87, 68]⟩ : ByteArray), 1307, false⟩ : S126), (⟨(⟨#[69, 88, 69, 67, 86, 69]⟩ : ByteArray), 1309, false⟩ : S126), (⟨(⟨#[69, 79, 69]⟩ : ByteArray), 1320, false⟩ : S126), (⟨(⟨#[76, 79, 83, 83]⟩ : ByteArray), 1331, true⟩ : S126)] : List (S126)))
set_option maxHeartbeats 8000000 in
set_option maxRecDepth 100000 in
theorem kauditref03_kinds.calls  (r : List (S126)) (w : World) (h : kauditref03_kinds.f  = some r) :
  Calls Tryz.prog 117 #[] w fun e w' => ∃ v0_ : Value, e = .returned (v0_) ∧ Kd.R k126 126 w' w.heap.size (fun _ => True) v0_ r ∧ Below w.heap.size w w' := by
 have hu126 := Tryz.underlying126
 have HB := Zaa.mk (Below.refl w.heap.size w)
 unfold kauditref03_kinds.f at h
 have H := h
 clear h
 obtain ⟨y178, hy178⟩ : ∃ y_ : List (S126), y_ = (([(⟨(⟨#[85, 83, 69, 82]⟩ : ByteArray), 1005, true⟩ : S126), (⟨(⟨#[68, 65, 69, 77, 79, 78]⟩ : ByteArray), 1200, true⟩ : S126), (⟨(⟨#[83, 89, 83, 67, 65, 76, 76]⟩ : ByteArray), 1300, false⟩ : S126), (⟨(⟨#[80, 65, 84, 72]⟩ : ByteArray), 1302, false⟩ : S126), (⟨(⟨#[67, 79, 78, 70, 73, 71]⟩ : ByteArray), 1305, true⟩ : S126), (⟨(⟨#[83, 79, 67, 75, 65, 68, 68, 82]⟩ : ByteArray), 1306, false⟩ : S126), (⟨(⟨#[67, 87, 68]⟩ : ByteArray), 1307, false⟩ : S126), (⟨(⟨#[69, 88, 69, 67, 86, 69]⟩ : ByteArray), 1309, false⟩ : S126), (⟨(⟨#[69, 79, 69]⟩ : ByteArray), 1320, false⟩ : S126), (⟨(⟨#[76, 79, 83, 83]⟩ : ByteArray), 1331, true⟩ : S126)] : List (S126))) := ⟨_, rfl⟩
 replace H : (some y178) = some r := by first | (rw [hy178]; with_reducible exact H) | (have H2_ := (Option.bind_some _ _).symm.trans H; rw [hy178]; with_reducible exact H2_) | (have H2_ := (Option.bind_some _ _).symm.trans H; with_reducible exact H2_) | with_reducible exact H | (rw [hy178]; exact H) | exact H
 have Ny178 := Zaa.mk hy178
 clear hy178
 obtain rfl := Option.some.inj H
 go_enter Tryz.func117, Tryz.ntmps117
 go_wp2_with (first | ((with_reducible refine Zav (N := 11) rfl ?_); refine Kd.R_lit k126 _ 126 ?hg (N := 11) ?hd (xs := ([(⟨(⟨#[85, 83, 69, 82]⟩ : ByteArray), 1005, true⟩ : S126), (⟨(⟨#[68, 65, 69, 77, 79, 78]⟩ : ByteArray), 1200, true⟩ : S126), (⟨(⟨#[83, 89, 83, 67, 65, 76, 76]⟩ : ByteArray), 1300, false⟩ : S126), (⟨(⟨#[80, 65, 84, 72]⟩ : ByteArray), 1302, false⟩ : S126), (⟨(⟨#[67, 79, 78, 70, 73, 71]⟩ : ByteArray), 1305, true⟩ : S126), (⟨(⟨#[83, 79, 67, 75, 65, 68, 68, 82]⟩ : ByteArray), 1306, false⟩ : S126), (⟨(⟨#[67, 87, 68]⟩ : ByteArray), 1307, false⟩ : S126), (⟨(⟨#[69, 88, 69, 67, 86, 69]⟩ : ByteArray), 1309, false⟩ : S126), (⟨(⟨#[69, 79, 69]⟩ : ByteArray), 1320, false⟩ : S126), (⟨(⟨#[76, 79, 83, 83]⟩ : ByteArray), 1331, true⟩ : S126)] : List (S126))) (inner := [.string (⟨#[85, 83, 69, 82]⟩ : ByteArray), .int .i64 1005, .bool true, .string (⟨#[68, 65, 69, 77, 79, 78]⟩ : ByteArray), .int .i64 1200, .bool true, .string (⟨#[83, 89, 83, 67, 65, 76, 76]⟩ : ByteArray), .int .i64 1300, .bool false, .string (⟨#[80, 65, 84, 72]⟩ : ByteArray), .int .i64 1302, .bool false, .string (⟨#[67, 79, 78, 70, 73, 71]⟩ : ByteArray), .int .i64 1305, .bool true, .string (⟨#[83, 79, 67, 75, 65, 68, 68, 82]⟩ : ByteArray), .int .i64 1306, .bool false, .string (⟨#[67, 87, 68]⟩ : ByteArray), .int .i64 1307, .bool false, .string (⟨#[69, 88, 69, 67, 86, 69]⟩ : ByteArray), .int .i64 1309, .bool false, .string (⟨#[69, 79, 69]⟩ : ByteArray), .int .i64 1320, .bool false, .string (⟨#[76, 79, 83, 83]⟩ : ByteArray), .int .i64 1331, .bool true]) (ok := fun _ => True) (okp := fun _ => True) ?hr ?hp (fun _ hk => hk) trivial (Below.refl _ _) (Nat.le_refl _) (by simp) ?_; (case hd => rfl); (case hg => rfl); (case hr => first | (go_simp; done) | (go_simp; rfl)); (case hp => exact (Reps.c3 (show Kd.M k126 _ _ _ (⟨(⟨#[85, 83, 69, 82]⟩ : ByteArray), 1005, true⟩ : S126) [.string (⟨#[85, 83, 69, 82]⟩ : ByteArray), .int .i64 1005, .bool true] from (k126_mkM _ _ _ (⟨(⟨#[85, 83, 69, 82]⟩ : ByteArray), 1005, true⟩ : S126) )) (Reps.c3 (show Kd.M k126 _ _ _ (⟨(⟨#[68, 65, 69, 77, 79, 78]⟩ : ByteArray), 1200, true⟩ : S126) [.string (⟨#[68, 65, 69, 77, 79, 78]⟩ : ByteArray), .int .i64 1200, .bool true] from (k126_mkM _ _ _ (⟨(⟨#[68, 65, 69, 77, 79, 78]⟩ : ByteArray), 1200, true⟩ : S126) )) (Reps.c3 (show Kd.M k126 _ _ _ (⟨(⟨#[83, 89, 83, 67, 65, 76, 76]⟩ : ByteArray), 1300, false⟩ : S126) [.string (⟨#[83, 89, 83, 67, 65, 76, 76]⟩ : ByteArray), .int .i64 1300, .bool false] from (k126_mkM _ _ _ (⟨(⟨#[83, 89, 83, 67, 65, 76, 76]⟩ : ByteArray), 1300, false⟩ : S126) )) (Reps.c3 (show Kd.M k126 _ _ _ (⟨(⟨#[80, 65, 84, 72]⟩ : ByteArray), 1302, false⟩ : S126) [.string (⟨#[80, 65, 84, 72]⟩ : ByteArray), .int .i64 1302, .bool false] from (k126_mkM _ _ _ (⟨(⟨#[80, 65, 84, 72]⟩ : ByteArray), 1302, false⟩ : S126) )) (Reps.c3 (show Kd.M k126 _ _ _ (⟨(⟨#[67, 79, 78, 70, 73, 71]⟩ : ByteArray), 1305, true⟩ : S126) [.string (⟨#[67, 79, 78, 70, 73, 71]⟩ : ByteArray), .int .i64 1305, .bool true] from (k126_mkM _ _ _ (⟨(⟨#[67, 79, 78, 70, 73, 71]⟩ : ByteArray), 1305, true⟩ : S126) )) (Reps.c3 (show Kd.M k126 _ _ _ (⟨(⟨#[83, 79, 67, 75, 65, 68, 68, 82]⟩ : ByteArray), 1306, false⟩ : S126) [.string (⟨#[83, 79, 67, 75, 65, 68, 68, 82]⟩ : ByteArray), .int .i64 1306, .bool false] from (k126_mkM _ _ _ (⟨(⟨#[83, 79, 67, 75, 65, 68, 68, 82]⟩ : ByteArray), 1306, false⟩ : S126) )) (Reps.c3 (show Kd.M k126 _ _ _ (⟨(⟨#[67, 87, 68]⟩ : ByteArray), 1307, false⟩ : S126) [.string (⟨#[67, 87, 68]⟩ : ByteArray), .int .i64 1307, .bool false] from (k126_mkM _ _ _ (⟨(⟨#[67, 87, 68]⟩ : ByteArray), 1307, false⟩ : S126) )) (Reps.c3 (show Kd.M k126 _ _ _ (⟨(⟨#[69, 88, 69, 67, 86, 69]⟩ : ByteArray), 1309, false⟩ : S126) [.string (⟨#[69, 88, 69, 67, 86, 69]⟩ : ByteArray), .int .i64 1309, .bool false] from (k126_mkM _ _ _ (⟨(⟨#[69, 88, 69, 67, 86, 69]⟩ : ByteArray), 1309, false⟩ : S126) )) (Reps.c3 (show Kd.M k126 _ _ _ (⟨(⟨#[69, 79, 69]⟩ : ByteArray), 1320, false⟩ : S126) [.string (⟨#[69, 79, 69]⟩ : ByteArray), .int .i64 1320, .bool false] from (k126_mkM _ _ _ (⟨(⟨#[69, 79, 69]⟩ : ByteArray), 1320, false⟩ : S126) )) (Reps.c3 (show Kd.M k126 _ _ _ (⟨(⟨#[76, 79, 83, 83]⟩ : ByteArray), 1331, true⟩ : S126) [.string (⟨#[76, 79, 83, 83]⟩ : ByteArray), .int .i64 1331, .bool true] from (k126_mkM _ _ _ (⟨(⟨#[76, 79, 83, 83]⟩ : ByteArray), 1331, true⟩ : S126) )) (Reps.none _ _)))))))))))); intro v179 w1 ho2 hb hg_ hnew_; clear hg_ hnew_; (first | rw [← Ny178.out] at ho2 | (simp only [Int.reduceToNat] at ho2; rw [← Ny178.out] at ho2)); have HO180 := Zaa.mk (Kd.R_lower ho2 (Zai (zb1 HB))); replace HB := Zaa.mk (Zae (zb1 HB) hb); clear hb ho2))
 go_ret
 exact ⟨_, by first | rfl | (simp [errW_none, errW_some] <;> rfl) | (simp [*, errW_none, errW_some] <;> rfl), by (with_reducible repeat (first | apply Kd.R_alloc | apply Kd.R_drewN | apply Kd.R_drew)); exact HO180.out, (zb1 HB)⟩
def kauditref03_find.l0 : Nat → Int → List (S126) → Int → Option (ByteArray × Int × Bool × Bool)
 | 0, _, _, _ => none
 | k + 1, x0, x4, x5 => if x5 < (x4.length : Int) then (if 0 ≤ x5 then (if ((Zbh x4 x5).f1) = x0 then (some ((Zbh x4 x5).f0, (Zbh x4 x5).f1, (Zbh x4 x5).f2, true)) else (kauditref03_find.l0 k x0 x4 (wrap64 (x5 + 1)))) else (none)) else (some ((⟨#[]⟩ : ByteArray), 0, false, false))
def kauditref03_find.f (k : Nat) (a0 : Int) : Option (ByteArray × Int × Bool × Bool) := (kauditref03_kinds.f).bind fun t182 => (kauditref03_find.l0 k a0 t182 0)
theorem kauditref03_find.mono_l : ∀ k, (∀ y0 y1 y2, LeO (kauditref03_find.l0 k y0 y1 y2) (kauditref03_find.l0 (k + 1) y0 y1 y2))
 | 0 => fun _ _ _ r h => by simp [kauditref03_find.l0] at h
 | k + 1 => by
  have ih0 := kauditref03_find.mono_l k
  ·intro y0 y1 y2
   unfold kauditref03_find.l0
   repeat' first
   | (with_reducible exact ih0 _ _ _)
   | (with_reducible exact LeO.refl _)
   | (with_reducible exact LeO.none _)
   | (with_reducible refine LeO.ite ?_ ?_)
   | (with_reducible refine LeO.bind ?_ (fun _ => ?_))
   | exact ih0 _ _ _
   | exact LeO.none _
   | refine LeO.ite ?_ ?_
   | refine LeO.bind ?_ (fun _ => ?_)
theorem kauditref03_find.mono : ∀ a0 k, LeO (kauditref03_find.f k a0) (kauditref03_find.f (k + 1) a0) := by
 intro a0 k
 have ih0 := kauditref03_find.mono_l k
 unfold kauditref03_find.f
 repeat' first
   | (with_reducible exact ih0 _ _ _)
   | (with_reducible exact LeO.refl _)
   | (with_reducible exact LeO.none _)
   | (with_reducible refine LeO.ite ?_ ?_)
   | (with_reducible refine LeO.bind ?_ (fun _ => ?_))
   | exact ih0 _ _ _
   | exact LeO.none _
   | refine LeO.ite ?_ ?_
   | refine LeO.bind ?_ (fun _ => ?_)
set_option maxHeartbeats 8000000 in
set_option maxRecDepth 100000 in
theorem kauditref03_find.calls (k : Nat) (a0 : Int) (r1 : ByteArray) (r2 : Int) (r3 : Bool) (r4 : Bool) (w : World) (h : kauditref03_find.f k a0 = some (r1, r2, r3, r4)) :
  Calls Tryz.prog 85 #[.int .i64 a0] w fun e w' => e = .returned (.tuple #[.agg #[.string r1, .int .i64 r2, .bool r3], .bool r4]) ∧ Below w.heap.size w w' := by
 have hu126 := Tryz.underlying126
 have HB := Zaa.mk (Below.refl w.heap.size w)
 unfold kauditref03_find.f at h
 have H := h
 clear h
 replace H := Option.bind_eq_some_iff.mp H
 obtain ⟨t182, A20, H⟩ := H
 try dsimp only at H
 have A2 := Zaa.mk A20
 clear A20
 have H' := Zaa.mk H
 clear H
 go_enter Tryz.func85, Tryz.ntmps85
 go_wp2_with (first | ((with_reducible refine Zav (N := 2) rfl ?_); refine Zaw ?hg (N := 2) ?hd (cs := #[.string (⟨#[]⟩ : ByteArray), .int .i64 0, .bool false]) (t := 126) ?hr ?_; (case hd => rfl); (case hg => rfl); (case hr => first | (go_simp; done) | (go_simp; rfl)); intro gb181 hg w3 hbox hb; have BK181 := Zaa.mk (hbox); have GW181 := Zaa.mk ((by rw [hg]; exact (Zai (zb1 HB)) : w.heap.size ≤ gb181)); have GE181 := Zaa.mk ((by rw [hg]; exact (Zai (zb1 HB)) : w.heap.size ≤ gb181)); replace HB := Zaa.mk (Zae (zb1 HB) hb); clear hb hbox hg) | ((with_reducible refine Zam (f := 117) rfl ?_); refine Za1 (some 6) rfl rfl Tryz.func117 (by kernel_rfl) rfl #[] rfl zam ?_; (with_reducible refine (kauditref03_kinds.calls  t182 _ A2.out).mono ?_); rintro e w4 ⟨v183, rfl, ho0, hb⟩; refine ⟨_, rfl, ?_⟩; have HO184 := Zaa.mk (Kd.R_lower (Kd.R_newB ho0 (g := gb181) (o := .cells #[.string (⟨#[]⟩ : ByteArray), .int .i64 0, .bool false] 126 (0, 0)) (zbk BK181)) (Zai (zb2 HB GE181.out))); replace BK181 := Zaa.mk (Zah (g := gb181) (o := .cells #[.string (⟨#[]⟩ : ByteArray), .int .i64 0, .bool false] 126 (0, 0)) (zbk BK181) hb); replace HB := Zaa.mk (Zae (zb2 HB GE181.out) hb); (try clear hb); (try clear ho0)))
 go_loopg [5] k (fun kq v5 w' => ∃ (x5_1 : Int) (x182000_1 : ByteArray) (x182001_1 : Int) (x182002_1 : Bool), v5 = .int .i64 x5_1 ∧ Zaa (kauditref03_find.l0 kq a0 t182 x5_1 = some (r1, r2, r3, r4)) ∧ Zaa (kq ≤ k) ∧ Zaa (Kd.R k126 126 w' w.heap.size (fun k_ => k_ ≠ gb181) v183 t182) ∧ Zaa (w'.heap[gb181]? = some (.cells #[.string x182000_1, .int .i64 x182001_1, .bool x182002_1] 126 (0, 0))) ∧ Zaa (Below w.heap.size w w'))
 case atStart => exact ⟨(0), ((⟨#[]⟩ : ByteArray)), (0), (false), (by first | rfl | (simp; done) | (simp [*]; done)), H', ⟨Nat.le_refl _⟩, ⟨by (with_reducible repeat (first | apply Kd.R_alloc | apply Kd.R_drewN | apply Kd.R_drew)); exact Kd.R_mono HO184.out (fun _ hk => hk.2)⟩, ⟨by (with_reducible repeat (first | refine Zac ?_ _ | refine Zad ?_ | refine Zab ?_ _)); exact BK181.out⟩, ⟨(zb2 HB GE181.out)⟩⟩
 case round =>
  clear H'
  obtain ⟨x5_1, x182000_1, x182001_1, x182002_1, rfl, HA, HK1, HO_4, BK181, HB⟩ := hrel
  cases gk with
  | zero => exact absurd HA.out (by simp [kauditref03_find.l0])
  | succ k1 =>
   have H := HA.out
   clear HA
   simp only [kauditref03_find.l0] at H
   by_cases c5 : x5_1 < (t182.length : Int)
   ·rw [if_pos c5] at H
    have c5b0 : decide (x5_1 < (t182.length : Int)) = true := decide_eq_true c5
    clear c5
    by_cases c6 : 0 ≤ x5_1
    ·rw [if_pos c6] at H
     have c6b0 : decide (0 ≤ x5_1) = true := decide_eq_true c6
     clear c6
     by_cases c7 : ((Zbh t182 x5_1).f1) = a0
     ·rw [if_pos c7] at H
      have c7b0 : (((Zbh t182 x5_1).f1) == a0) = true := beq_iff_eq.mpr c7
      have c7b1 : (((Zbh t182 x5_1).f1) != a0) = false := bne_eq_false_iff_eq.mpr c7
      clear c7
      simp only [Option.some.injEq, Prod.mk.injEq] at H
      obtain ⟨rfl, rfl, rfl, rfl⟩ := H
      obtain ⟨Ao8, co8, eo8⟩ := Kd.R_slice HO_4.out
      subst eo8
      have p185 : 0 ≤ (x5_1 : Int) := zod
      have q185 : x5_1 < (t182.length : Int) := zod
      obtain ⟨ad185, e185, hx185_0, hx185_1, hx185_2⟩ := at_T126 (Kd.R_reads' HO_4.out).2.2 x5_1 p185 q185
      cases e185
      replace p185 := eq_true p185
      replace q185 := eq_true q185
      have p186 : 0 ≤ (x5_1 : Int) := zod
      have q186 : x5_1 < (t182.length : Int) := zod
      obtain ⟨ad186, e186, hx186_0, hx186_1, hx186_2⟩ := at_T126 (Kd.R_reads' HO_4.out).2.2 x5_1 p186 q186
      obtain rfl : ad185 = ad186 := (by injection e186)
      replace p186 := eq_true p186
      replace q186 := eq_true q186
      obtain ⟨hcz9_0, hcz9_1, hcz9_2⟩ := bc3 BK181.out
      obtain ⟨hfz9_0, hfz9_1, hfz9_2⟩ := bf3 BK181.out
      go_wp2
      refine bodyPost_ret (Za5 rfl _ _ gb181 126 #[.string ((Zbh t182 x5_1).f0), .int .i64 ((Zbh t182 x5_1).f1), .bool ((Zbh t182 x5_1).f2)] (0, 0) _ rfl (by (with_reducible repeat (first | refine Zac ?_ _ | refine Zad ?_ | refine Zab ?_ _)); refine Zas (cs := #[.string ((Zbh t182 x5_1).f0), .int .i64 ((Zbh t182 x5_1).f1), .bool x182002_1]) ?_ 2 _ rfl; (with_reducible repeat (first | refine Zac ?_ _ | refine Zad ?_ | refine Zab ?_ _)); refine Zas (cs := #[.string ((Zbh t182 x5_1).f0), .int .i64 x182001_1, .bool x182002_1]) ?_ 1 _ rfl; (with_reducible repeat (first | refine Zac ?_ _ | refine Zad ?_ | refine Zab ?_ _)); refine Zas (cs := #[.string x182000_1, .int .i64 x182001_1, .bool x182002_1]) ?_ 0 _ rfl; (with_reducible repeat (first | refine Zac ?_ _ | refine Zad ?_ | refine Zab ?_ _)); exact BK181.out) Tryz.underlying126 rfl (by kernel_rfl)) rfl ?_
      exact ⟨by first | rfl | (simp [errW_none, errW_some] <;> rfl) | (simp [*, errW_none, errW_some] <;> rfl), (zb2 HB GE181.out)⟩
     ·rw [if_neg c7] at H
      have c7b0 : (((Zbh t182 x5_1).f1) == a0) = false := beq_eq_false_iff_ne.mpr c7
      have c7b1 : (((Zbh t182 x5_1).f1) != a0) = true := bne_iff_ne.mpr c7
      have H' := Zaa.mk H
      clear H
      obtain ⟨Ao10, co10, eo10⟩ := Kd.R_slice HO_4.out
      subst eo10
      have p185 : 0 ≤ (x5_1 : Int) := zod
      have q185 : x5_1 < (t182.length : Int) := zod
      obtain ⟨ad185, e185, hx185_0, hx185_1, hx185_2⟩ := at_T126 (Kd.R_reads' HO_4.out).2.2 x5_1 p185 q185
      cases e185
      replace p185 := eq_true p185
      replace q185 := eq_true q185
      go_wp2
      go_roundg k1
      case measure => have := HK1.out; omega
      case rel => exact ⟨(wrap64 (x5_1 + 1)), (x182000_1), (x182001_1), (x182002_1), (by first | rfl | (simp; done) | (simp [*]; done)), H', ⟨by have := HK1.out; omega⟩, ⟨by (with_reducible repeat (first | apply Kd.R_alloc | apply Kd.R_drewN | apply Kd.R_drew)); exact HO_4.out⟩, ⟨by (with_reducible repeat (first | refine Zac ?_ _ | refine Zad ?_ | refine Zab ?_ _)); exact BK181.out⟩, ⟨(zb2 HB GE181.out)⟩⟩
    ·rw [if_neg c6] at H
     exact absurd H (by simp)
   ·rw [if_neg c5] at H
    have c5b0 : decide (x5_1 < (t182.length : Int)) = false := decide_eq_false c5
    clear c5
    simp only [Option.some.injEq, Prod.mk.injEq] at H
    obtain ⟨rfl, rfl, rfl, rfl⟩ := H
    obtain ⟨Ao11, co11, eo11⟩ := Kd.R_slice HO_4.out
    subst eo11
    obtain ⟨hcz12_0, hcz12_1, hcz12_2⟩ := bc3 BK181.out
    obtain ⟨hfz12_0, hfz12_1, hfz12_2⟩ := bf3 BK181.out
    go_wp2
    refine bodyPost_ret (Za5 rfl _ _ gb181 126 #[.string (⟨#[]⟩ : ByteArray), .int .i64 0, .bool false] (0, 0) _ rfl (by (with_reducible repeat (first | refine Zac ?_ _ | refine Zad ?_ | refine Zab ?_ _)); refine Zas (cs := #[.string (⟨#[]⟩ : ByteArray), .int .i64 0, .bool x182002_1]) ?_ 2 _ rfl; (with_reducible repeat (first | refine Zac ?_ _ | refine Zad ?_ | refine Zab ?_ _)); refine Zas (cs := #[.string (⟨#[]⟩ : ByteArray), .int .i64 x182001_1, .bool x182002_1]) ?_ 1 _ rfl; (with_reducible repeat (first | refine Zac ?_ _ | refine Zad ?_ | refine Zab ?_ _)); refine Zas (cs := #[.string x182000_1, .int .i64 x182001_1, .bool x182002_1]) ?_ 0 _ rfl; (with_reducible repeat (first | refine Zac ?_ _ | refine Zad ?_ | refine Zab ?_ _)); exact BK181.out) Tryz.underlying126 rfl (by kernel_rfl)) rfl ?_
    exact ⟨by first | rfl | (simp [errW_none, errW_some] <;> rfl) | (simp [*, errW_none, errW_some] <;> rfl), (zb2 HB GE181.out)⟩
mutual
def kauditref02_name.j0 : Nat → ByteArray → Bool → Option (Bool)
 | 0, _, _ => none
 | k + 1, x0, x12 => if x12 = true then (some false) else (kauditref02_name.l0 k x0 0)
def kauditref02_name.l0 : Nat → ByteArray → Int → Option (Bool)
 | 0, _, _ => none
 | k + 1, x0, x3 => if x3 < (x0.size : Int) then (if 0 ≤ x3 then (if (bt x0 x3) ≥ 97 then (if (bt x0 x3) ≤ 122 then (kauditref02_name.l0 k x0 (wrap64 (x3 + 1))) else (if x3 > 0 then (if (bt x0 x3) ≥ 48 then (if (bt x0 x3) ≤ 57 then (kauditref02_name.l0 k x0 (wrap64 (x3 + 1))) else (if ((bt x0 x3) = 95) then (kauditref02_name.l0 k x0 (wrap64 (x3 + 1))) else (some false))) else (if ((bt x0 x3) = 95) then (kauditref02_name.l0 k x0 (wrap64 (x3 + 1))) else (some false))) else (some false))) else (if x3 > 0 then (if (bt x0 x3) ≥ 48 then (if (bt x0 x3) ≤ 57 then (kauditref02_name.l0 k x0 (wrap64 (x3 + 1))) else (if ((bt x0 x3) = 95) then (kauditref02_name.l0 k x0 (wrap64 (x3 + 1))) else (some false))) else (if ((bt x0 x3) = 95) then (kauditref02_name.l0 k x0 (wrap64 (x3 + 1))) else (some false))) else (some false))) else (none)) else (some true)
end
def kauditref02_name.f (k : Nat) (a0 : ByteArray) : Option (Bool) := if (a0.size : Int) < 1 then (kauditref02_name.j0 k a0 true) else (kauditref02_name.j0 k a0 (decide ((a0.size : Int) > 16)))
theorem kauditref02_name.mono_l : ∀ k, (∀ y0 y1, LeO (kauditref02_name.j0 k y0 y1) (kauditref02_name.j0 (k + 1) y0 y1)) ∧ (∀ y0 y1, LeO (kauditref02_name.l0 k y0 y1) (kauditref02_name.l0 (k + 1) y0 y1))
 | 0 => ⟨fun _ _ r h => by simp [kauditref02_name.j0] at h, fun _ _ r h => by simp [kauditref02_name.l0] at h⟩
 | k + 1 => by
  obtain ⟨ih0, ih1⟩ := kauditref02_name.mono_l k
  refine ⟨?_, ?_⟩
  ·intro y0 y1
   unfold kauditref02_name.j0
   repeat' first
   | (with_reducible exact ih0 _ _)
   | (with_reducible exact ih1 _ _)
   | (with_reducible exact LeO.refl _)
   | (with_reducible exact LeO.none _)
   | (with_reducible refine LeO.ite ?_ ?_)
   | (with_reducible refine LeO.bind ?_ (fun _ => ?_))
   | exact ih0 _ _
   | exact ih1 _ _
   | exact LeO.none _
   | refine LeO.ite ?_ ?_
   | refine LeO.bind ?_ (fun _ => ?_)
  ·intro y0 y1
   unfold kauditref02_name.l0
   repeat' first
   | (with_reducible exact ih0 _ _)
   | (with_reducible exact ih1 _ _)
   | (with_reducible exact LeO.refl _)
   | (with_reducible exact LeO.none _)
   | (with_reducible refine LeO.ite ?_ ?_)
   | (with_reducible refine LeO.bind ?_ (fun _ => ?_))
   | exact ih0 _ _
   | exact ih1 _ _
   | exact LeO.none _
   | refine LeO.ite ?_ ?_
   | refine LeO.bind ?_ (fun _ => ?_)
theorem kauditref02_name.mono : ∀ a0 k, LeO (kauditref02_name.f k a0) (kauditref02_name.f (k + 1) a0) := by
 intro a0 k
 obtain ⟨ih0, ih1⟩ := kauditref02_name.mono_l k
 unfold kauditref02_name.f
 repeat' first
   | (with_reducible exact ih0 _ _)
   | (with_reducible exact ih1 _ _)
   | (with_reducible exact LeO.refl _)
   | (with_reducible exact LeO.none _)
   | (with_reducible refine LeO.ite ?_ ?_)
   | (with_reducible refine LeO.bind ?_ (fun _ => ?_))
   | exact ih0 _ _
   | exact ih1 _ _
   | exact LeO.none _
   | refine LeO.ite ?_ ?_
   | refine LeO.bind ?_ (fun _ => ?_)
set_option maxHeartbeats 8000000 in
set_option maxRecDepth 100000 in
theorem kauditref02_name.calls (k : Nat) (a0 : ByteArray) (r : Bool) (w : World) (h : kauditref02_name.f k a0 = some r) :
  Calls Tryz.prog 118 #[.string a0] w fun e w' => e = .returned (.bool r) ∧ Zao w w' := by
 unfold kauditref02_name.f at h
 have H := h
 clear h
 have HC2 := Zaa.mk H
 clear H
 go_enter Tryz.func118, Tryz.ntmps118
 go_upto_region 1 with (fail)
 go_cut [12] (fun v12 wc => ∃ (kq : Nat) (x12_1 : Bool), v12 = .bool x12_1 ∧ Zaa (kauditref02_name.j0 kq a0 x12_1 = some r) ∧ Zaa (kq ≤ k) ∧ Zao w wc)
 case first =>
  have H := HC2.out
  clear HC2
  by_cases c3 : (a0.size : Int) < 1
  ·rw [if_pos c3] at H
   have c3b0 : decide ((a0.size : Int) < 1) = true := decide_eq_true c3
   have c3b1 : decide (a0.size < 1) = true := decide_eq_true (by omega)
   clear c3
   (first | rw [c3b0] | (simp only [Zax, Zay]; rw [c3b0]) | skip)
   have H' := Zaa.mk H
   clear H
   go_wp2
   go_meet
   case rel => exact ⟨_, (true), (by first | rfl | (simp; done) | (simp [*]; done)), H', ⟨by first | omega | exact Nat.le_refl _⟩, by repeat (first | exact Zao.refl _ | apply Zao.step)⟩
  ·rw [if_neg c3] at H
   have c3b0 : decide ((a0.size : Int) < 1) = false := decide_eq_false c3
   have c3b1 : decide (a0.size < 1) = false := decide_eq_false (by omega)
   clear c3
   (first | rw [c3b0] | (simp only [Zax, Zay]; rw [c3b0]) | skip)
   have H' := Zaa.mk H
   clear H
   go_wp2
   go_meet
   case rel => exact ⟨_, (decide ((a0.size : Int) > 16)), (by first | rfl | (simp; done) | (simp [*]; done)), H', ⟨by first | omega | exact Nat.le_refl _⟩, by repeat (first | exact Zao.refl _ | apply Zao.step)⟩
 case rest =>
  clear HC2
  obtain ⟨kq, x12_1, rfl, HA, HJ1, ⟨mc1, rfl⟩⟩ := hcut
  cases kq with
  | zero => exact absurd HA.out (by simp [kauditref02_name.j0])
  | succ kj1 =>
   have H := HA.out
   clear HA
   simp only [kauditref02_name.j0] at H
   by_cases c4 : x12_1 = true
   ·subst c4
    rw [if_pos rfl] at H
    obtain rfl := Option.some.inj H
    go_wp2
    go_ret
    exact ⟨by first | rfl | (simp; done) | (simp [*]; done), by repeat (first | exact Zao.refl _ | apply Zao.step)⟩
   ·replace c4 := Bool.eq_false_iff.mpr c4
    subst c4
    rw [if_neg (show ¬ (false = true) by decide)] at H
    have H' := Zaa.mk H
    clear H
    go_wp2
    go_loopg [3] kj1 (fun kq v3 w' => ∃ (x3_2 : Int), v3 = .int .i64 x3_2 ∧ Zaa (kauditref02_name.l0 kq a0 x3_2 = some r) ∧ Zaa (kq ≤ kj1) ∧ Zao w w')
    case atStart => exact ⟨(0), (by first | rfl | (simp; done) | (simp [*]; done)), H', ⟨Nat.le_refl _⟩, by repeat (first | exact Zao.refl _ | apply Zao.step)⟩
    case round =>
     clear H'
     (try clear c4)
     obtain ⟨x3_2, rfl, HA, HK2, ⟨m2, rfl⟩⟩ := hrel
     cases gk with
     | zero => exact absurd HA.out (by simp [kauditref02_name.l0])
     | succ k2 =>
      have H := HA.out
      clear HA
      simp only [kauditref02_name.l0] at H
      by_cases c5 : x3_2 < (a0.size : Int)
      ·rw [if_pos c5] at H
       have c5b0 : decide (x3_2 < (a0.size : Int)) = true := decide_eq_true c5
       clear c5
       by_cases c6 : 0 ≤ x3_2
       ·rw [if_pos c6] at H
        have c6b0 : decide (0 ≤ x3_2) = true := decide_eq_true c6
        clear c6
        by_cases c8 : (bt a0 x3_2) ≥ 97
        ·rw [if_pos c8] at H
         have c8b0 : decide (97 ≤ (bt a0 x3_2)) = true := decide_eq_true c8
         clear c8
         by_cases c9 : (bt a0 x3_2) ≤ 122
         ·rw [if_pos c9] at H
          have c9b0 : decide ((bt a0 x3_2) ≤ 122) = true := decide_eq_true c9
          clear c9
          have H' := Zaa.mk H
          clear H
          have p7 : 0 ≤ (x3_2 : Int) := zod
          have q7 : x3_2 < (a0.size : Int) := zod
          have hx7 := Za0 a0 x3_2
          replace p7 := eq_true p7
          replace q7 := eq_true q7
          go_wp2
          go_roundg k2
          case measure => have := HJ1.out; have := HK2.out; omega
          case rel => exact ⟨(wrap64 (x3_2 + 1)), (by first | rfl | (simp; done) | (simp [*]; done)), H', ⟨by have := HJ1.out; have := HK2.out; omega⟩, by repeat (first | exact Zao.refl _ | apply Zao.step)⟩
         ·rw [if_neg c9] at H
          have c9b0 : decide ((bt a0 x3_2) ≤ 122) = false := decide_eq_false c9
          clear c9
          by_cases c10 : x3_2 > 0
          ·rw [if_pos c10] at H
           have c10b0 : decide (0 < x3_2) = true := decide_eq_true c10
           clear c10
           by_cases c11 : (bt a0 x3_2) ≥ 48
           ·rw [if_pos c11] at H
            have c11b0 : decide (48 ≤ (bt a0 x3_2)) = true := decide_eq_true c11
            clear c11
            by_cases c12 : (bt a0 x3_2) ≤ 57
            ·rw [if_pos c12] at H
             have c12b0 : decide ((bt a0 x3_2) ≤ 57) = true := decide_eq_true c12
             clear c12
             have H' := Zaa.mk H
             clear H
             have p7 : 0 ≤ (x3_2 : Int) := zod
             have q7 : x3_2 < (a0.size : Int) := zod
             have hx7 := Za0 a0 x3_2
             replace p7 := eq_true p7
             replace q7 := eq_true q7
             go_wp2
             go_roundg k2
             case measure => have := HJ1.out; have := HK2.out; omega
             case rel => exact ⟨(wrap64 (x3_2 + 1)), (by first | rfl | (simp; done) | (simp [*]; done)), H', ⟨by have := HJ1.out; have := HK2.out; omega⟩, by repeat (first | exact Zao.refl _ | apply Zao.step)⟩
            ·rw [if_neg c12] at H
             have c12b0 : decide ((bt a0 x3_2) ≤ 57) = false := decide_eq_false c12
             clear c12
             by_cases c13 : ((bt a0 x3_2) = 95)
             ·rw [if_pos c13] at H
              have c13b0 : ((bt a0 x3_2) == 95) = true := beq_iff_eq.mpr c13
              have c13b1 : ((bt a0 x3_2) != 95) = false := bne_eq_false_iff_eq.mpr c13
              clear c13
              have H' := Zaa.mk H
              clear H
              have p7 : 0 ≤ (x3_2 : Int) := zod
              have q7 : x3_2 < (a0.size : Int) := zod
              have hx7 := Za0 a0 x3_2
              replace p7 := eq_true p7
              replace q7 := eq_true q7
              go_wp2
              go_roundg k2
              case measure => have := HJ1.out; have := HK2.out; omega
              case rel => exact ⟨(wrap64 (x3_2 + 1)), (by first | rfl | (simp; done) | (simp [*]; done)), H', ⟨by have := HJ1.out; have := HK2.out; omega⟩, by repeat (first | exact Zao.refl _ | apply Zao.step)⟩
             ·rw [if_neg c13] at H
              have c13b0 : ((bt a0 x3_2) == 95) = false := beq_eq_false_iff_ne.mpr c13
              have c13b1 : ((bt a0 x3_2) != 95) = true := bne_iff_ne.mpr c13
              obtain rfl := Option.some.inj H
              have p7 : 0 ≤ (x3_2 : Int) := zod
              have q7 : x3_2 < (a0.size : Int) := zod
              have hx7 := Za0 a0 x3_2
              replace p7 := eq_true p7
              replace q7 := eq_true q7
              go_wp2
              go_ret
              exact ⟨by first | rfl | (simp; done) | (simp [*]; done), by repeat (first | exact Zao.refl _ | apply Zao.step)⟩
           ·rw [if_neg c11] at H
            have c11b0 : decide (48 ≤ (bt a0 x3_2)) = false := decide_eq_false c11
            clear c11
            by_cases c14 : ((bt a0 x3_2) = 95)
            ·rw [if_pos c14] at H
             have c14b0 : ((bt a0 x3_2) == 95) = true := beq_iff_eq.mpr c14
             have c14b1 : ((bt a0 x3_2) != 95) = false := bne_eq_false_iff_eq.mpr c14
             clear c14
             have H' := Zaa.mk H
             clear H
             have p7 : 0 ≤ (x3_2 : Int) := zod
             have q7 : x3_2 < (a0.size : Int) := zod
             have hx7 := Za0 a0 x3_2
             replace p7 := eq_true p7
             replace q7 := eq_true q7
             go_wp2
             go_roundg k2
             case measure => have := HJ1.out; have := HK2.out; omega
             case rel => exact ⟨(wrap64 (x3_2 + 1)), (by first | rfl | (simp; done) | (simp [*]; done)), H', ⟨by have := HJ1.out; have := HK2.out; omega⟩, by repeat (first | exact Zao.refl _ | apply Zao.step)⟩
            ·rw [if_neg c14] at H
             have c14b0 : ((bt a0 x3_2) == 95) = false := beq_eq_false_iff_ne.mpr c14
             have c14b1 : ((bt a0 x3_2) != 95) = true := bne_iff_ne.mpr c14
             obtain rfl := Option.some.inj H
             have p7 : 0 ≤ (x3_2 : Int) := zod
             have q7 : x3_2 < (a0.size : Int) := zod
             have hx7 := Za0 a0 x3_2
             replace p7 := eq_true p7
             replace q7 := eq_true q7
             go_wp2
             go_ret
             exact ⟨by first | rfl | (simp; done) | (simp [*]; done), by repeat (first | exact Zao.refl _ | apply Zao.step)⟩
          ·rw [if_neg c10] at H
           have c10b0 : decide (0 < x3_2) = false := decide_eq_false c10
           clear c10
           obtain rfl := Option.some.inj H
           have p7 : 0 ≤ (x3_2 : Int) := zod
           have q7 : x3_2 < (a0.size : Int) := zod
           have hx7 := Za0 a0 x3_2
           replace p7 := eq_true p7
           replace q7 := eq_true q7
           go_wp2
           go_ret
           exact ⟨by first | rfl | (simp; done) | (simp [*]; done), by repeat (first | exact Zao.refl _ | apply Zao.step)⟩
        ·rw [if_neg c8] at H
         have c8b0 : decide (97 ≤ (bt a0 x3_2)) = false := decide_eq_false c8
         clear c8
         by_cases c15 : x3_2 > 0
         ·rw [if_pos c15] at H
          have c15b0 : decide (0 < x3_2) = true := decide_eq_true c15
          clear c15
          by_cases c16 : (bt a0 x3_2) ≥ 48
          ·rw [if_pos c16] at H
           have c16b0 : decide (48 ≤ (bt a0 x3_2)) = true := decide_eq_true c16
           clear c16
           by_cases c17 : (bt a0 x3_2) ≤ 57
           ·rw [if_pos c17] at H
            have c17b0 : decide ((bt a0 x3_2) ≤ 57) = true := decide_eq_true c17
            clear c17
            have H' := Zaa.mk H
            clear H
            have p7 : 0 ≤ (x3_2 : Int) := zod
            have q7 : x3_2 < (a0.size : Int) := zod
            have hx7 := Za0 a0 x3_2
            replace p7 := eq_true p7
            replace q7 := eq_true q7
            go_wp2
            go_roundg k2
            case measure => have := HJ1.out; have := HK2.out; omega
            case rel => exact ⟨(wrap64 (x3_2 + 1)), (by first | rfl | (simp; done) | (simp [*]; done)), H', ⟨by have := HJ1.out; have := HK2.out; omega⟩, by repeat (first | exact Zao.refl _ | apply Zao.step)⟩
           ·rw [if_neg c17] at H
            have c17b0 : decide ((bt a0 x3_2) ≤ 57) = false := decide_eq_false c17
            clear c17
            by_cases c18 : ((bt a0 x3_2) = 95)
            ·rw [if_pos c18] at H
             have c18b0 : ((bt a0 x3_2) == 95) = true := beq_iff_eq.mpr c18
             have c18b1 : ((bt a0 x3_2) != 95) = false := bne_eq_false_iff_eq.mpr c18
             clear c18
             have H' := Zaa.mk H
             clear H
             have p7 : 0 ≤ (x3_2 : Int) := zod
             have q7 : x3_2 < (a0.size : Int) := zod
             have hx7 := Za0 a0 x3_2
             replace p7 := eq_true p7
             replace q7 := eq_true q7
             go_wp2
             go_roundg k2
             case measure => have := HJ1.out; have := HK2.out; omega
             case rel => exact ⟨(wrap64 (x3_2 + 1)), (by first | rfl | (simp; done) | (simp [*]; done)), H', ⟨by have := HJ1.out; have := HK2.out; omega⟩, by repeat (first | exact Zao.refl _ | apply Zao.step)⟩
            ·rw [if_neg c18] at H
             have c18b0 : ((bt a0 x3_2) == 95) = false := beq_eq_false_iff_ne.mpr c18
             have c18b1 : ((bt a0 x3_2) != 95) = true := bne_iff_ne.mpr c18
             obtain rfl := Option.some.inj H
             have p7 : 0 ≤ (x3_2 : Int) := zod
             have q7 : x3_2 < (a0.size : Int) := zod
             have hx7 := Za0 a0 x3_2
             replace p7 := eq_true p7
             replace q7 := eq_true q7
             go_wp2
             go_ret
             exact ⟨by first | rfl | (simp; done) | (simp [*]; done), by repeat (first | exact Zao.refl _ | apply Zao.step)⟩
          ·rw [if_neg c16] at H
           have c16b0 : decide (48 ≤ (bt a0 x3_2)) = false := decide_eq_false c16
           clear c16
           by_cases c19 : ((bt a0 x3_2) = 95)
           ·rw [if_pos c19] at H
            have c19b0 : ((bt a0 x3_2) == 95) = true := beq_iff_eq.mpr c19
            have c19b1 : ((bt a0 x3_2) != 95) = false := bne_eq_false_iff_eq.mpr c19
            clear c19
            have H' := Zaa.mk H
            clear H
            have p7 : 0 ≤ (x3_2 : Int) := zod
            have q7 : x3_2 < (a0.size : Int) := zod
            have hx7 := Za0 a0 x3_2
            replace p7 := eq_true p7
            replace q7 := eq_true q7
            go_wp2
            go_roundg k2
            case measure => have := HJ1.out; have := HK2.out; omega
            case rel => exact ⟨(wrap64 (x3_2 + 1)), (by first | rfl | (simp; done) | (simp [*]; done)), H', ⟨by have := HJ1.out; have := HK2.out; omega⟩, by repeat (first | exact Zao.refl _ | apply Zao.step)⟩
           ·rw [if_neg c19] at H
            have c19b0 : ((bt a0 x3_2) == 95) = false := beq_eq_false_iff_ne.mpr c19
            have c19b1 : ((bt a0 x3_2) != 95) = true := bne_iff_ne.mpr c19
            obtain rfl := Option.some.inj H
            have p7 : 0 ≤ (x3_2 : Int) := zod
            have q7 : x3_2 < (a0.size : Int) := zod
            have hx7 := Za0 a0 x3_2
            replace p7 := eq_true p7
            replace q7 := eq_true q7
            go_wp2
            go_ret
            exact ⟨by first | rfl | (simp; done) | (simp [*]; done), by repeat (first | exact Zao.refl _ | apply Zao.step)⟩
         ·rw [if_neg c15] at H
          have c15b0 : decide (0 < x3_2) = false := decide_eq_false c15
          clear c15
          obtain rfl := Option.some.inj H
          have p7 : 0 ≤ (x3_2 : Int) := zod
          have q7 : x3_2 < (a0.size : Int) := zod
          have hx7 := Za0 a0 x3_2
          replace p7 := eq_true p7
          replace q7 := eq_true q7
          go_wp2
          go_ret
          exact ⟨by first | rfl | (simp; done) | (simp [*]; done), by repeat (first | exact Zao.refl _ | apply Zao.step)⟩
       ·rw [if_neg c6] at H
        exact absurd H (by simp)
      ·rw [if_neg c5] at H
       have c5b0 : decide (x3_2 < (a0.size : Int)) = false := decide_eq_false c5
       clear c5
       obtain rfl := Option.some.inj H
       go_wp2
       go_ret
       exact ⟨by first | rfl | (simp; done) | (simp [*]; done), by repeat (first | exact Zao.refl _ | apply Zao.step)⟩
end Go.Proofs.YtodbabeldolcbaaGreatDoor.PA
