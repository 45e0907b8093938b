/- Contracts of functions of the program: written by pr2.py (ours, round the print of the kit) out of the translation; conditions: each contract names its own. -/
import Derived.Test.YtodbabeldolcbaaGreatDoorY9PAx4
import Derived.Test.YtodbabeldolcbaaGreatDoorY9ELib
namespace Go.Proofs.YtodbabeldolcbaaGreatDoor.PA
open Go.RowKit Go.Proofs.YtodbabeldolcbaaGreatDoorW.PrintWords Go.Proofs.YtodbabeldolcbaaGreatDoorW.PrintLast Go.Proofs.YtodbabeldolcbaaGreatDoorW.PrintMore
attribute [local go_sem] Zbg Zbe Zbs Zbr Za8 Za7 Zbf Zbd   -- for this text's walks alone
set_option linter.unusedVariables false
set_option linter.unusedSimpArgs false
mutual
def kauditref03_Check.j0 : Nat → Bool → Int → Int → Int → List (S88) → Option (Int)
 | 0, _, _, _, _, _ => none
 | k + 1, x33, x190000, x190001, x190002, x190003 => if x33 = true then (some 31) else (if (x190003.length : Int) > 24 then (some 32) else (kauditref03_Check.l0 k 0 x190000 x190001 x190002 x190003))
def kauditref03_Check.l0 : Nat → Int → Int → Int → Int → List (S88) → Option (Int)
 | 0, _, _, _, _, _ => none
 | k + 1, x5, x190000, x190001, x190002, x190003 => if x5 < (x190003.length : Int) then (if 0 ≤ x5 then ((kauditref02_Check.f k ((Zat x190003 x5).f0) ((Zat x190003 x5).f1) ((Zat x190003 x5).f2) ((Zat x190003 x5).f3)).bind fun t196 => (if t196 = 0 then (kauditref03_Check.l1 k x5 0 x190000 x190001 x190002 x190003) else (some t196))) else (none)) else (some 0)
def kauditref03_Check.l1 : Nat → Int → Int → Int → Int → Int → List (S88) → Option (Int)
 | 0, _, _, _, _, _, _ => none
 | k + 1, x5, x7, x190000, x190001, x190002, x190003 => if x7 < x5 then (if 0 ≤ x7 then (if x7 < (x190003.length : Int) then (if 0 ≤ x5 then (if x5 < (x190003.length : Int) then (if ((Zat x190003 x7).f0).toList = ((Zat x190003 x5).f0).toList then (some 33) else (kauditref03_Check.l1 k x5 (wrap64 (x7 + 1)) x190000 x190001 x190002 x190003)) else (none)) else (none)) else (none)) else (none)) else (kauditref03_Check.l0 k (wrap64 (x5 + 1)) x190000 x190001 x190002 x190003)
end
def kauditref03_Check.f (k : Nat) (a0_0 : Int) (a0_1 : Int) (a0_2 : Int) (l0_3 : List (S88)) : Option (Int) := (kauditref03_find.f k a0_0).bind fun bt190 => (if bt190.2.2.2 = true then (if a0_1 < 0 then (kauditref03_Check.j0 k true a0_0 a0_1 a0_2 l0_3) else (if a0_1 > 1099511627776 then (kauditref03_Check.j0 k true a0_0 a0_1 a0_2 l0_3) else (if a0_2 < 0 then (kauditref03_Check.j0 k true a0_0 a0_1 a0_2 l0_3) else (kauditref03_Check.j0 k (decide (a0_2 > 1073741824)) a0_0 a0_1 a0_2 l0_3)))) else (some 30))
theorem kauditref03_Check.mono_l : ∀ k, (∀ y0 y1 y2 y3 y4, LeO (kauditref03_Check.j0 k y0 y1 y2 y3 y4) (kauditref03_Check.j0 (k + 1) y0 y1 y2 y3 y4)) ∧ (∀ y0 y1 y2 y3 y4, LeO (kauditref03_Check.l0 k y0 y1 y2 y3 y4) (kauditref03_Check.l0 (k + 1) y0 y1 y2 y3 y4)) ∧ (∀ y0 y1 y2 y3 y4 y5, LeO (kauditref03_Check.l1 k y0 y1 y2 y3 y4 y5) (kauditref03_Check.l1 (k + 1) y0 y1 y2 y3 y4 y5))
 | 0 => ⟨fun _ _ _ _ _ r h => by simp [kauditref03_Check.j0] at h, fun _ _ _ _ _ r h => by simp [kauditref03_Check.l0] at h, fun _ _ _ _ _ _ r h => by simp [kauditref03_Check.l1] at h⟩
 | k + 1 => by
  obtain ⟨ih0, ih1, ih2⟩ := kauditref03_Check.mono_l k
  refine ⟨?_, ?_, ?_⟩
  ·intro y0 y1 y2 y3 y4
   unfold kauditref03_Check.j0
   repeat' first
   | (with_reducible exact ih0 _ _ _ _ _)
   | (with_reducible exact ih1 _ _ _ _ _)
   | (with_reducible exact ih2 _ _ _ _ _ _)
   | (with_reducible exact kauditref02_Check.mono _ _ _ _ _)
   | (with_reducible exact kauditref03_find.mono _ _)
   | (with_reducible exact LeO.refl _)
   | (with_reducible exact LeO.none _)
   | (with_reducible refine LeO.ite ?_ ?_)
   | (with_reducible refine LeO.bind ?_ (fun _ => ?_))
   | exact ih0 _ _ _ _ _
   | exact ih1 _ _ _ _ _
   | exact ih2 _ _ _ _ _ _
   | exact kauditref02_Check.mono _ _ _ _ _
   | exact kauditref03_find.mono _ _
   | exact LeO.none _
   | refine LeO.ite ?_ ?_
   | refine LeO.bind ?_ (fun _ => ?_)
  ·intro y0 y1 y2 y3 y4
   unfold kauditref03_Check.l0
   repeat' first
   | (with_reducible exact ih0 _ _ _ _ _)
   | (with_reducible exact ih1 _ _ _ _ _)
   | (with_reducible exact ih2 _ _ _ _ _ _)
   | (with_reducible exact kauditref02_Check.mono _ _ _ _ _)
   | (with_reducible exact kauditref03_find.mono _ _)
   | (with_reducible exact LeO.refl _)
   | (with_reducible exact LeO.none _)
   | (with_reducible refine LeO.ite ?_ ?_)
   | (with_reducible refine LeO.bind ?_ (fun _ => ?_))
   | exact ih0 _ _ _ _ _
   | exact ih1 _ _ _ _ _
   | exact ih2 _ _ _ _ _ _
   | exact kauditref02_Check.mono _ _ _ _ _
   | exact kauditref03_find.mono _ _
   | exact LeO.none _
   | refine LeO.ite ?_ ?_
   | refine LeO.bind ?_ (fun _ => ?_)
  ·intro y0 y1 y2 y3 y4 y5
   unfold kauditref03_Check.l1
   repeat' first
   | (with_reducible exact ih0 _ _ _ _ _)
   | (with_reducible exact ih1 _ _ _ _ _)
   | (with_reducible exact ih2 _ _ _ _ _ _)
   | (with_reducible exact kauditref02_Check.mono _ _ _ _ _)
   | (with_reducible exact kauditref03_find.mono _ _)
   | (with_reducible exact LeO.refl _)
   | (with_reducible exact LeO.none _)
   | (with_reducible refine LeO.ite ?_ ?_)
   | (with_reducible refine LeO.bind ?_ (fun _ => ?_))
   | exact ih0 _ _ _ _ _
   | exact ih1 _ _ _ _ _
   | exact ih2 _ _ _ _ _ _
   | exact kauditref02_Check.mono _ _ _ _ _
   | exact kauditref03_find.mono _ _
   | exact LeO.none _
   | refine LeO.ite ?_ ?_
   | refine LeO.bind ?_ (fun _ => ?_)
theorem kauditref03_Check.mono : ∀ a0 a1 a2 a3 k, LeO (kauditref03_Check.f k a0 a1 a2 a3) (kauditref03_Check.f (k + 1) a0 a1 a2 a3) := by
 intro a0 a1 a2 a3 k
 obtain ⟨ih0, ih1, ih2⟩ := kauditref03_Check.mono_l k
 unfold kauditref03_Check.f
 repeat' first
   | (with_reducible exact ih0 _ _ _ _ _)
   | (with_reducible exact ih1 _ _ _ _ _)
   | (with_reducible exact ih2 _ _ _ _ _ _)
   | (with_reducible exact kauditref02_Check.mono _ _ _ _ _)
   | (with_reducible exact kauditref03_find.mono _ _)
   | (with_reducible exact LeO.refl _)
   | (with_reducible exact LeO.none _)
   | (with_reducible refine LeO.ite ?_ ?_)
   | (with_reducible refine LeO.bind ?_ (fun _ => ?_))
   | exact ih0 _ _ _ _ _
   | exact ih1 _ _ _ _ _
   | exact ih2 _ _ _ _ _ _
   | exact kauditref02_Check.mono _ _ _ _ _
   | exact kauditref03_find.mono _ _
   | exact LeO.none _
   | refine LeO.ite ?_ ?_
   | refine LeO.bind ?_ (fun _ => ?_)
set_option maxHeartbeats 8000000 in
set_option maxRecDepth 100000 in
theorem kauditref03_Check.calls (k : Nat) (a0_0 : Int) (a0_1 : Int) (a0_2 : Int) (A0_3 : Option Addr) (c0_3 : Nat) (l0_3 : List (S88)) (r : Int) (w : World) (hr0_3 : Kd.C k88 w A0_3 l0_3.length l0_3) (hc0_3 : l0_3.length ≤ c0_3) (h : kauditref03_Check.f k a0_0 a0_1 a0_2 l0_3 = some r) :
  Calls Tryz.prog 42 #[.agg #[.int .i64 a0_0, .int .i64 a0_1, .int .i64 a0_2, .slice A0_3 l0_3.length c0_3]] w fun e w' => e = .returned (.int .i64 r) ∧ Below w.heap.size w w' := by
 have hu51 := Tryz.underlying51
 have hu126 := Tryz.underlying126
 have hu88 := Tryz.underlying88
 have HR0_3 := Zaa.mk hr0_3
 have HC0_3 := Zaa.mk hc0_3
 clear hr0_3 hc0_3
 have HB := Zaa.mk (Below.refl w.heap.size w)
 unfold kauditref03_Check.f at h
 have H := h
 clear h
 replace H := Option.bind_eq_some_iff.mp H
 obtain ⟨⟨t190, t191, t192, t193⟩, A20, H⟩ := H
 try dsimp only at H
 have A2 := Zaa.mk A20
 clear A20
 by_cases c3 : t193 = true
 ·subst c3
  rw [if_pos rfl] at H
  have HC4 := Zaa.mk H
  clear H
  go_enter Tryz.func42, Tryz.ntmps42
  go_upto_region 4 with (first | ((with_reducible refine Zav (N := 1) rfl ?_); refine Zaw ?hg (N := 1) ?hd (cs := #[.int .i64 a0_0, .int .i64 a0_1, .int .i64 a0_2, .slice A0_3 l0_3.length c0_3]) (t := 51) ?hr ?_; (case hd => rfl); (case hg => rfl); (case hr => first | (go_simp; done) | (go_simp; rfl)); intro gb189 hg w5 hbox hb; have BK189 := Zaa.mk (hbox); have GW189 := Zaa.mk ((by rw [hg]; exact (Zai (zb1 HB)) : w.heap.size ≤ gb189)); have GE189 := Zaa.mk ((by rw [hg]; exact (Zai (zb1 HB)) : w.heap.size ≤ gb189)); replace HB := Zaa.mk (Zae (zb1 HB) hb); clear hb hbox hg; obtain ⟨hcz6_0, hcz6_1, hcz6_2, hcz6_3⟩ := bc4 BK189.out; obtain ⟨hfz6_0, hfz6_1, hfz6_2, hfz6_3⟩ := bf4 BK189.out) | (go_at_call 85; (with_reducible refine (kauditref03_find.calls k a0_0 t190 t191 t192 true _ A2.out).mono ?_); rintro e w7 ⟨rfl, hb⟩; replace BK189 := Zaa.mk (Zah (g := gb189) (o := .cells #[.int .i64 a0_0, .int .i64 a0_1, .int .i64 a0_2, .slice A0_3 l0_3.length c0_3] 51 (0, 0)) (zbk BK189) hb); replace HB := Zaa.mk (Zae (zb2 HB GE189.out) hb); (try clear hb)) | ((with_reducible refine Zav (N := 3) rfl ?_); refine Zaw ?hg (N := 3) ?hd (cs := #[.string (⟨#[]⟩ : ByteArray), .int .i64 0, .bool false]) (t := 126) ?hr ?_; (case hd => rfl); (case hg => rfl); (case hr => first | (go_simp; done) | (go_simp; rfl)); intro gb194 hg w8 hbox hb; have BK194 := Zaa.mk (hbox); have GW194 := Zaa.mk ((by rw [hg]; exact (Zai (zb2 HB GE189.out)) : w.heap.size ≤ gb194)); have GE194 := Zaa.mk ((by rw [hg]; exact (Zai (zb2 HB GE189.out)) : w.heap.size ≤ gb194)); replace HB := Zaa.mk (Zae (zb2 HB GE189.out) hb); have NB189_194 := Zaa.mk ((by rw [hg]; exact Nat.ne_of_lt (Za3 (g := gb189) (o := .cells #[.int .i64 a0_0, .int .i64 a0_1, .int .i64 a0_2, .slice A0_3 l0_3.length c0_3] 51 (0, 0)) (zbk BK189)) : gb189 ≠ gb194)); have NB194_189 := Zaa.mk ((by rw [hg]; exact Nat.ne_of_gt (Za3 (g := gb189) (o := .cells #[.int .i64 a0_0, .int .i64 a0_1, .int .i64 a0_2, .slice A0_3 l0_3.length c0_3] 51 (0, 0)) (zbk BK189)) : gb194 ≠ gb189)); replace BK189 := Zaa.mk (Zah (g := gb189) (o := .cells #[.int .i64 a0_0, .int .i64 a0_1, .int .i64 a0_2, .slice A0_3 l0_3.length c0_3] 51 (0, 0)) (zbk BK189) hb); clear hb hbox hg; have hnb9 := NB194_189.out; have hnc9 := NB189_194.out; obtain ⟨hcz10_0, hcz10_1, hcz10_2⟩ := bc3 BK194.out; obtain ⟨hfz10_0, hfz10_1, hfz10_2⟩ := bf3 BK194.out))
  repeat (go_quiet (first | ((with_reducible refine Zav (N := 1) rfl ?_); refine Zaw ?hg (N := 1) ?hd (cs := #[.int .i64 a0_0, .int .i64 a0_1, .int .i64 a0_2, .slice A0_3 l0_3.length c0_3]) (t := 51) ?hr ?_; (case hd => rfl); (case hg => rfl); (case hr => first | (go_simp; done) | (go_simp; rfl)); intro gb189 hg w5 hbox hb; have n0_ := Zaa.mk (Zae (zb1 HB) hb); have n1_ := Zaa.mk (hbox); have n2_ := Zaa.mk ((by rw [hg]; exact (Zai (zb1 HB)) : w.heap.size ≤ gb189)); have n3_ := Zaa.mk ((by rw [hg]; exact (Zai (zb1 HB)) : w.heap.size ≤ gb189)); clear HB; have HB := n0_; have BK189 := n1_; have GW189 := n2_; have GE189 := n3_; clear n0_ n1_ n2_ n3_; clear hb hbox hg; obtain ⟨hcz6_0, hcz6_1, hcz6_2, hcz6_3⟩ := bc4 BK189.out; obtain ⟨hfz6_0, hfz6_1, hfz6_2, hfz6_3⟩ := bf4 BK189.out) | (go_at_call 85; (with_reducible refine (kauditref03_find.calls k a0_0 t190 t191 t192 true _ A2.out).mono ?_); rintro e w7 ⟨rfl, hb⟩; have n0_ := Zaa.mk (Zah (g := gb189) (o := .cells #[.int .i64 a0_0, .int .i64 a0_1, .int .i64 a0_2, .slice A0_3 l0_3.length c0_3] 51 (0, 0)) (zbk BK189) hb); have n1_ := Zaa.mk (Zae (zb2 HB GE189.out) hb); clear BK189; clear HB; have BK189 := n0_; have HB := n1_; clear n0_ n1_; (try clear hb); (try clear hb2); (try clear hk); (try clear hi)) | ((with_reducible refine Zav (N := 3) rfl ?_); refine Zaw ?hg (N := 3) ?hd (cs := #[.string (⟨#[]⟩ : ByteArray), .int .i64 0, .bool false]) (t := 126) ?hr ?_; (case hd => rfl); (case hg => rfl); (case hr => first | (go_simp; done) | (go_simp; rfl)); intro gb194 hg w8 hbox hb; have n0_ := Zaa.mk (Zah (g := gb189) (o := .cells #[.int .i64 a0_0, .int .i64 a0_1, .int .i64 a0_2, .slice A0_3 l0_3.length c0_3] 51 (0, 0)) (zbk BK189) hb); have n1_ := Zaa.mk (Zae (zb2 HB GE189.out) hb); have n2_ := Zaa.mk (hbox); have n3_ := Zaa.mk ((by rw [hg]; exact (Zai (zb2 HB GE189.out)) : w.heap.size ≤ gb194)); have n4_ := Zaa.mk ((by rw [hg]; exact (Zai (zb2 HB GE189.out)) : w.heap.size ≤ gb194)); have n5_ := Zaa.mk ((by rw [hg]; exact Nat.ne_of_lt (Za3 (g := gb189) (o := .cells #[.int .i64 a0_0, .int .i64 a0_1, .int .i64 a0_2, .slice A0_3 l0_3.length c0_3] 51 (0, 0)) (zbk BK189)) : gb189 ≠ gb194)); have n6_ := Zaa.mk ((by rw [hg]; exact Nat.ne_of_gt (Za3 (g := gb189) (o := .cells #[.int .i64 a0_0, .int .i64 a0_1, .int .i64 a0_2, .slice A0_3 l0_3.length c0_3] 51 (0, 0)) (zbk BK189)) : gb194 ≠ gb189)); clear BK189; clear HB; have BK189 := n0_; have HB := n1_; have BK194 := n2_; have GW194 := n3_; have GE194 := n4_; have NB189_194 := n5_; have NB194_189 := n6_; clear n0_ n1_ n2_ n3_ n4_ n5_ n6_; clear hb hbox hg; have hnb9 := NB194_189.out; have hnc9 := NB189_194.out; obtain ⟨hcz10_0, hcz10_1, hcz10_2⟩ := bc3 BK194.out; obtain ⟨hfz10_0, hfz10_1, hfz10_2⟩ := bf3 BK194.out)); go_upto_region 4 with (first | ((with_reducible refine Zav (N := 1) rfl ?_); refine Zaw ?hg (N := 1) ?hd (cs := #[.int .i64 a0_0, .int .i64 a0_1, .int .i64 a0_2, .slice A0_3 l0_3.length c0_3]) (t := 51) ?hr ?_; (case hd => rfl); (case hg => rfl); (case hr => first | (go_simp; done) | (go_simp; rfl)); intro gb189 hg w5 hbox hb; have n0_ := Zaa.mk (Zae (zb1 HB) hb); have n1_ := Zaa.mk (hbox); have n2_ := Zaa.mk ((by rw [hg]; exact (Zai (zb1 HB)) : w.heap.size ≤ gb189)); have n3_ := Zaa.mk ((by rw [hg]; exact (Zai (zb1 HB)) : w.heap.size ≤ gb189)); clear HB; have HB := n0_; have BK189 := n1_; have GW189 := n2_; have GE189 := n3_; clear n0_ n1_ n2_ n3_; clear hb hbox hg; obtain ⟨hcz6_0, hcz6_1, hcz6_2, hcz6_3⟩ := bc4 BK189.out; obtain ⟨hfz6_0, hfz6_1, hfz6_2, hfz6_3⟩ := bf4 BK189.out) | (go_at_call 85; (with_reducible refine (kauditref03_find.calls k a0_0 t190 t191 t192 true _ A2.out).mono ?_); rintro e w7 ⟨rfl, hb⟩; have n0_ := Zaa.mk (Zah (g := gb189) (o := .cells #[.int .i64 a0_0, .int .i64 a0_1, .int .i64 a0_2, .slice A0_3 l0_3.length c0_3] 51 (0, 0)) (zbk BK189) hb); have n1_ := Zaa.mk (Zae (zb2 HB GE189.out) hb); clear BK189; clear HB; have BK189 := n0_; have HB := n1_; clear n0_ n1_; (try clear hb); (try clear hb2); (try clear hk); (try clear hi)) | ((with_reducible refine Zav (N := 3) rfl ?_); refine Zaw ?hg (N := 3) ?hd (cs := #[.string (⟨#[]⟩ : ByteArray), .int .i64 0, .bool false]) (t := 126) ?hr ?_; (case hd => rfl); (case hg => rfl); (case hr => first | (go_simp; done) | (go_simp; rfl)); intro gb194 hg w8 hbox hb; have n0_ := Zaa.mk (Zah (g := gb189) (o := .cells #[.int .i64 a0_0, .int .i64 a0_1, .int .i64 a0_2, .slice A0_3 l0_3.length c0_3] 51 (0, 0)) (zbk BK189) hb); have n1_ := Zaa.mk (Zae (zb2 HB GE189.out) hb); have n2_ := Zaa.mk (hbox); have n3_ := Zaa.mk ((by rw [hg]; exact (Zai (zb2 HB GE189.out)) : w.heap.size ≤ gb194)); have n4_ := Zaa.mk ((by rw [hg]; exact (Zai (zb2 HB GE189.out)) : w.heap.size ≤ gb194)); have n5_ := Zaa.mk ((by rw [hg]; exact Nat.ne_of_lt (Za3 (g := gb189) (o := .cells #[.int .i64 a0_0, .int .i64 a0_1, .int .i64 a0_2, .slice A0_3 l0_3.length c0_3] 51 (0, 0)) (zbk BK189)) : gb189 ≠ gb194)); have n6_ := Zaa.mk ((by rw [hg]; exact Nat.ne_of_gt (Za3 (g := gb189) (o := .cells #[.int .i64 a0_0, .int .i64 a0_1, .int .i64 a0_2, .slice A0_3 l0_3.length c0_3] 51 (0, 0)) (zbk BK189)) : gb194 ≠ gb189)); clear BK189; clear HB; have BK189 := n0_; have HB := n1_; have BK194 := n2_; have GW194 := n3_; have GE194 := n4_; have NB189_194 := n5_; have NB194_189 := n6_; clear n0_ n1_ n2_ n3_ n4_ n5_ n6_; clear hb hbox hg; have hnb9 := NB194_189.out; have hnc9 := NB189_194.out; obtain ⟨hcz10_0, hcz10_1, hcz10_2⟩ := bc3 BK194.out; obtain ⟨hfz10_0, hfz10_1, hfz10_2⟩ := bf3 BK194.out)))
  (try simp only [Act.put, List.setIfInBounds_toArray, List.set_cons_zero, List.set_cons_succ])
  go_cut [33] (fun v33 wc => ∃ (kq : Nat) (x33_3 : Bool), v33 = .bool x33_3 ∧ Zaa (kauditref03_Check.j0 kq x33_3 a0_0 a0_1 a0_2 l0_3 = some r) ∧ Zaa (kq ≤ k) ∧ Zaa (wc.heap[gb189]? = some (.cells #[.int .i64 a0_0, .int .i64 a0_1, .int .i64 a0_2, (.slice A0_3 l0_3.length c0_3)] 51 (0, 0))) ∧ Zaa (wc.heap[gb194]? = some (.cells #[.string t190, .int .i64 t191, .bool t192] 126 (0, 0))) ∧ Zaa (Below w.heap.size w wc))
  case first =>
   have H := HC4.out
   clear HC4
   by_cases c11 : a0_1 < 0
   ·rw [if_pos c11] at H
    have c11b0 : decide (a0_1 < 0) = true := decide_eq_true c11
    clear c11
    (first | rw [c11b0] | (simp only [Zax, Zay]; rw [c11b0]) | skip)
    have H' := Zaa.mk H
    clear H
    have hnb12 := NB189_194.out
    have hnc12 := NB194_189.out
    obtain ⟨hcz13_0, hcz13_1, hcz13_2, hcz13_3⟩ := bc4 BK189.out
    obtain ⟨hfz13_0, hfz13_1, hfz13_2, hfz13_3⟩ := bf4 BK189.out
    go_wp2
    repeat (go_quiet (fail); try go_wp2)
    go_meet
    case rel => exact ⟨_, (true), (by first | rfl | (simp; done) | (simp [*]; done)), H', ⟨by first | omega | exact Nat.le_refl _⟩, ⟨by (with_reducible repeat (first | refine Zac ?_ _ | refine Zad ?_ | refine Zab ?_ _)); refine Zaq ?_ NB189_194.out _; (with_reducible repeat (first | refine Zac ?_ _ | refine Zad ?_ | refine Zab ?_ _)); refine Zaq ?_ NB189_194.out _; (with_reducible repeat (first | refine Zac ?_ _ | refine Zad ?_ | refine Zab ?_ _)); refine Zaq ?_ NB189_194.out _; (with_reducible repeat (first | refine Zac ?_ _ | refine Zad ?_ | refine Zab ?_ _)); exact BK189.out⟩, ⟨by (with_reducible repeat (first | refine Zac ?_ _ | refine Zad ?_ | refine Zab ?_ _)); refine Zas (cs := #[.string t190, .int .i64 t191, .bool false]) ?_ 2 _ rfl; (with_reducible repeat (first | refine Zac ?_ _ | refine Zad ?_ | refine Zab ?_ _)); refine Zas (cs := #[.string t190, .int .i64 0, .bool false]) ?_ 1 _ rfl; (with_reducible repeat (first | refine Zac ?_ _ | refine Zad ?_ | refine Zab ?_ _)); refine Zas (cs := #[.string (⟨#[]⟩ : ByteArray), .int .i64 0, .bool false]) ?_ 0 _ rfl; (with_reducible repeat (first | refine Zac ?_ _ | refine Zad ?_ | refine Zab ?_ _)); exact BK194.out⟩, ⟨(zb6 HB GE189.out GE194.out)⟩⟩
   ·rw [if_neg c11] at H
    have c11b0 : decide (a0_1 < 0) = false := decide_eq_false c11
    clear c11
    (first | rw [c11b0] | (simp only [Zax, Zay]; rw [c11b0]) | skip)
    by_cases c14 : a0_1 > 1099511627776
    ·rw [if_pos c14] at H
     have c14b0 : decide (1099511627776 < a0_1) = true := decide_eq_true c14
     clear c14
     have H' := Zaa.mk H
     clear H
     have hnb15 := NB189_194.out
     have hnc15 := NB194_189.out
     obtain ⟨hcz16_0, hcz16_1, hcz16_2, hcz16_3⟩ := bc4 BK189.out
     obtain ⟨hfz16_0, hfz16_1, hfz16_2, hfz16_3⟩ := bf4 BK189.out
     go_wp2
     repeat (go_quiet (fail); try go_wp2)
     go_meet
     case rel => exact ⟨_, (true), (by first | rfl | (simp; done) | (simp [*]; done)), H', ⟨by first | omega | exact Nat.le_refl _⟩, ⟨by (with_reducible repeat (first | refine Zac ?_ _ | refine Zad ?_ | refine Zab ?_ _)); refine Zaq ?_ NB189_194.out _; (with_reducible repeat (first | refine Zac ?_ _ | refine Zad ?_ | refine Zab ?_ _)); refine Zaq ?_ NB189_194.out _; (with_reducible repeat (first | refine Zac ?_ _ | refine Zad ?_ | refine Zab ?_ _)); refine Zaq ?_ NB189_194.out _; (with_reducible repeat (first | refine Zac ?_ _ | refine Zad ?_ | refine Zab ?_ _)); exact BK189.out⟩, ⟨by (with_reducible repeat (first | refine Zac ?_ _ | refine Zad ?_ | refine Zab ?_ _)); refine Zas (cs := #[.string t190, .int .i64 t191, .bool false]) ?_ 2 _ rfl; (with_reducible repeat (first | refine Zac ?_ _ | refine Zad ?_ | refine Zab ?_ _)); refine Zas (cs := #[.string t190, .int .i64 0, .bool false]) ?_ 1 _ rfl; (with_reducible repeat (first | refine Zac ?_ _ | refine Zad ?_ | refine Zab ?_ _)); refine Zas (cs := #[.string (⟨#[]⟩ : ByteArray), .int .i64 0, .bool false]) ?_ 0 _ rfl; (with_reducible repeat (first | refine Zac ?_ _ | refine Zad ?_ | refine Zab ?_ _)); exact BK194.out⟩, ⟨(zb6 HB GE189.out GE194.out)⟩⟩
    ·rw [if_neg c14] at H
     have c14b0 : decide (1099511627776 < a0_1) = false := decide_eq_false c14
     clear c14
     by_cases c17 : a0_2 < 0
     ·rw [if_pos c17] at H
      have c17b0 : decide (a0_2 < 0) = true := decide_eq_true c17
      clear c17
      have H' := Zaa.mk H
      clear H
      have hnb18 := NB189_194.out
      have hnc18 := NB194_189.out
      obtain ⟨hcz19_0, hcz19_1, hcz19_2, hcz19_3⟩ := bc4 BK189.out
      obtain ⟨hfz19_0, hfz19_1, hfz19_2, hfz19_3⟩ := bf4 BK189.out
      go_wp2
      repeat (go_quiet (fail); try go_wp2)
      go_meet
      case rel => exact ⟨_, (true), (by first | rfl | (simp; done) | (simp [*]; done)), H', ⟨by first | omega | exact Nat.le_refl _⟩, ⟨by (with_reducible repeat (first | refine Zac ?_ _ | refine Zad ?_ | refine Zab ?_ _)); refine Zaq ?_ NB189_194.out _; (with_reducible repeat (first | refine Zac ?_ _ | refine Zad ?_ | refine Zab ?_ _)); refine Zaq ?_ NB189_194.out _; (with_reducible repeat (first | refine Zac ?_ _ | refine Zad ?_ | refine Zab ?_ _)); refine Zaq ?_ NB189_194.out _; (with_reducible repeat (first | refine Zac ?_ _ | refine Zad ?_ | refine Zab ?_ _)); exact BK189.out⟩, ⟨by (with_reducible repeat (first | refine Zac ?_ _ | refine Zad ?_ | refine Zab ?_ _)); refine Zas (cs := #[.string t190, .int .i64 t191, .bool false]) ?_ 2 _ rfl; (with_reducible repeat (first | refine Zac ?_ _ | refine Zad ?_ | refine Zab ?_ _)); refine Zas (cs := #[.string t190, .int .i64 0, .bool false]) ?_ 1 _ rfl; (with_reducible repeat (first | refine Zac ?_ _ | refine Zad ?_ | refine Zab ?_ _)); refine Zas (cs := #[.string (⟨#[]⟩ : ByteArray), .int .i64 0, .bool false]) ?_ 0 _ rfl; (with_reducible repeat (first | refine Zac ?_ _ | refine Zad ?_ | refine Zab ?_ _)); exact BK194.out⟩, ⟨(zb6 HB GE189.out GE194.out)⟩⟩
     ·rw [if_neg c17] at H
      have c17b0 : decide (a0_2 < 0) = false := decide_eq_false c17
      clear c17
      have H' := Zaa.mk H
      clear H
      have hnb20 := NB189_194.out
      have hnc20 := NB194_189.out
      obtain ⟨hcz21_0, hcz21_1, hcz21_2, hcz21_3⟩ := bc4 BK189.out
      obtain ⟨hfz21_0, hfz21_1, hfz21_2, hfz21_3⟩ := bf4 BK189.out
      go_wp2
      repeat (go_quiet (fail); try go_wp2)
      go_meet
      case rel => exact ⟨_, (decide (a0_2 > 1073741824)), (by first | rfl | (simp; done) | (simp [*]; done)), H', ⟨by first | omega | exact Nat.le_refl _⟩, ⟨by (with_reducible repeat (first | refine Zac ?_ _ | refine Zad ?_ | refine Zab ?_ _)); refine Zaq ?_ NB189_194.out _; (with_reducible repeat (first | refine Zac ?_ _ | refine Zad ?_ | refine Zab ?_ _)); refine Zaq ?_ NB189_194.out _; (with_reducible repeat (first | refine Zac ?_ _ | refine Zad ?_ | refine Zab ?_ _)); refine Zaq ?_ NB189_194.out _; (with_reducible repeat (first | refine Zac ?_ _ | refine Zad ?_ | refine Zab ?_ _)); exact BK189.out⟩, ⟨by (with_reducible repeat (first | refine Zac ?_ _ | refine Zad ?_ | refine Zab ?_ _)); refine Zas (cs := #[.string t190, .int .i64 t191, .bool false]) ?_ 2 _ rfl; (with_reducible repeat (first | refine Zac ?_ _ | refine Zad ?_ | refine Zab ?_ _)); refine Zas (cs := #[.string t190, .int .i64 0, .bool false]) ?_ 1 _ rfl; (with_reducible repeat (first | refine Zac ?_ _ | refine Zad ?_ | refine Zab ?_ _)); refine Zas (cs := #[.string (⟨#[]⟩ : ByteArray), .int .i64 0, .bool false]) ?_ 0 _ rfl; (with_reducible repeat (first | refine Zac ?_ _ | refine Zad ?_ | refine Zab ?_ _)); exact BK194.out⟩, ⟨(zb6 HB GE189.out GE194.out)⟩⟩
  case rest =>
   clear HC4
   (try clear c3)
   (try clear hcz10_0)
   (try clear hcz10_1)
   (try clear hcz10_2)
   (try clear hcz6_0)
   (try clear hcz6_1)
   (try clear hcz6_2)
   (try clear hcz6_3)
   (try clear hfz10_0)
   (try clear hfz10_1)
   (try clear hfz10_2)
   (try clear hfz6_0)
   (try clear hfz6_1)
   (try clear hfz6_2)
   (try clear hfz6_3)
   obtain ⟨kq, x33_3, rfl, HA, HJ3, BK189, BK194, HB⟩ := hcut
   cases kq with
   | zero => exact absurd HA.out (by simp [kauditref03_Check.j0])
   | succ kj3 =>
    have H := HA.out
    clear HA
    simp only [kauditref03_Check.j0] at H
    by_cases c22 : x33_3 = true
    ·subst c22
     rw [if_pos rfl] at H
     obtain rfl := Option.some.inj H
     go_wp2
     repeat (go_quiet (fail); try go_wp2)
     go_ret
     exact ⟨by first | rfl | (simp [errW_none, errW_some] <;> rfl) | (simp [*, errW_none, errW_some] <;> rfl), (zb6 HB GE189.out GE194.out)⟩
    ·replace c22 := Bool.eq_false_iff.mpr c22
     subst c22
     rw [if_neg (show ¬ (false = true) by decide)] at H
     by_cases c23 : (l0_3.length : Int) > 24
     ·rw [if_pos c23] at H
      have c23b0 : decide (24 < (l0_3.length : Int)) = true := decide_eq_true c23
      have c23b1 : decide (24 < l0_3.length) = true := decide_eq_true (by omega)
      clear c23
      obtain rfl := Option.some.inj H
      have hnb24 := NB189_194.out
      have hnc24 := NB194_189.out
      obtain ⟨hcz25_0, hcz25_1, hcz25_2, hcz25_3⟩ := bc4 BK189.out
      obtain ⟨hfz25_0, hfz25_1, hfz25_2, hfz25_3⟩ := bf4 BK189.out
      go_wp2
      repeat (go_quiet (fail); try go_wp2)
      go_ret
      exact ⟨by first | rfl | (simp [errW_none, errW_some] <;> rfl) | (simp [*, errW_none, errW_some] <;> rfl), (zb6 HB GE189.out GE194.out)⟩
     ·rw [if_neg c23] at H
      have c23b0 : decide (24 < (l0_3.length : Int)) = false := decide_eq_false c23
      have c23b1 : decide (24 < l0_3.length) = false := decide_eq_false (by omega)
      clear c23
      have H' := Zaa.mk H
      clear H
      have hnb26 := NB189_194.out
      have hnc26 := NB194_189.out
      obtain ⟨hcz27_0, hcz27_1, hcz27_2, hcz27_3⟩ := bc4 BK189.out
      obtain ⟨hfz27_0, hfz27_1, hfz27_2, hfz27_3⟩ := bf4 BK189.out
      go_wp2
      repeat (go_quiet (fail); try go_wp2)
      go_loopg [5] kj3 (fun kq v5 w' => ∃ (x5_2 : Int), v5 = .int .i64 x5_2 ∧ Zaa (kauditref03_Check.l0 kq x5_2 a0_0 a0_1 a0_2 l0_3 = some r) ∧ Zaa (kq ≤ kj3) ∧ Zaa (w'.heap[gb189]? = some (.cells #[.int .i64 a0_0, .int .i64 a0_1, .int .i64 a0_2, (.slice A0_3 l0_3.length c0_3)] 51 (0, 0))) ∧ Zaa (w'.heap[gb194]? = some (.cells #[.string t190, .int .i64 t191, .bool t192] 126 (0, 0))) ∧ Zaa (Below w.heap.size w w'))
      case atStart => exact ⟨(0), (by first | rfl | (simp; done) | (simp [*]; done)), H', ⟨Nat.le_refl _⟩, ⟨by (with_reducible repeat (first | refine Zac ?_ _ | refine Zad ?_ | refine Zab ?_ _)); exact BK189.out⟩, ⟨by (with_reducible repeat (first | refine Zac ?_ _ | refine Zad ?_ | refine Zab ?_ _)); exact BK194.out⟩, ⟨(zb6 HB GE189.out GE194.out)⟩⟩
      case round =>
       clear H'
       (try clear c3)
       (try clear c22)
       (try clear c23)
       (try clear c23b0)
       (try clear c23b1)
       (try clear hcz10_0)
       (try clear hcz10_1)
       (try clear hcz10_2)
       (try clear hcz27_0)
       (try clear hcz27_1)
       (try clear hcz27_2)
       (try clear hcz27_3)
       (try clear hcz6_0)
       (try clear hcz6_1)
       (try clear hcz6_2)
       (try clear hcz6_3)
       (try clear hfz10_0)
       (try clear hfz10_1)
       (try clear hfz10_2)
       (try clear hfz27_0)
       (try clear hfz27_1)
       (try clear hfz27_2)
       (try clear hfz27_3)
       (try clear hfz6_0)
       (try clear hfz6_1)
       (try clear hfz6_2)
       (try clear hfz6_3)
       obtain ⟨x5_2, rfl, HA, HK2, BK189, BK194, HB⟩ := hrel
       cases gk with
       | zero => exact absurd HA.out (by simp [kauditref03_Check.l0])
       | succ k2 =>
        have H := HA.out
        clear HA
        simp only [kauditref03_Check.l0] at H
        by_cases c28 : x5_2 < (l0_3.length : Int)
        ·rw [if_pos c28] at H
         have c28b0 : decide (x5_2 < (l0_3.length : Int)) = true := decide_eq_true c28
         clear c28
         by_cases c29 : 0 ≤ x5_2
         ·rw [if_pos c29] at H
          have c29b0 : decide (0 ≤ x5_2) = true := decide_eq_true c29
          clear c29
          replace H := Option.bind_eq_some_iff.mp H
          obtain ⟨t196, A300, H⟩ := H
          try dsimp only at H
          have A30 := Zaa.mk A300
          clear A300
          by_cases c31 : t196 = 0
          ·rw [if_pos c31] at H
           have c31b0 : (t196 == 0) = true := beq_iff_eq.mpr c31
           have c31b1 : (t196 != 0) = false := bne_eq_false_iff_eq.mpr c31
           clear c31
           have H' := Zaa.mk H
           clear H
           have hnb32 := NB189_194.out
           have hnc32 := NB194_189.out
           obtain ⟨hcz33_0, hcz33_1, hcz33_2, hcz33_3⟩ := bc4 BK189.out
           obtain ⟨hfz33_0, hfz33_1, hfz33_2, hfz33_3⟩ := bf4 BK189.out
           have p195 : 0 ≤ (x5_2 : Int) := zod
           have q195 : x5_2 < (l0_3.length : Int) := zod
           obtain ⟨ad195, e195, hx195_0, hx195_1, hx195_2, hx195_3⟩ := at_T88 HR0_3.out x5_2 p195 q195
           cases e195
           replace hx195_0 := (HB.out.cell (World.block_lt_of_cell? w _ hx195_0)).trans hx195_0
           replace hx195_1 := (HB.out.cell (World.block_lt_of_cell? w _ hx195_1)).trans hx195_1
           replace hx195_2 := (HB.out.cell (World.block_lt_of_cell? w _ hx195_2)).trans hx195_2
           replace hx195_3 := (HB.out.cell (World.block_lt_of_cell? w _ hx195_3)).trans hx195_3
           replace p195 := eq_true p195
           replace q195 := eq_true q195
           go_wp2_with (first | (go_at_call 86; (with_reducible refine (kauditref02_Check.calls k2 ((Zat l0_3 x5_2).f0) ((Zat l0_3 x5_2).f1) ((Zat l0_3 x5_2).f2) ((Zat l0_3 x5_2).f3) t196 _ A30.out).mono ?_); rintro e w34 ⟨rfl, hb⟩; replace BK189 := Zaa.mk (Zah (g := gb189) (o := .cells #[.int .i64 a0_0, .int .i64 a0_1, .int .i64 a0_2, .slice (some ad195) l0_3.length c0_3] 51 (0, 0)) (zbk BK189) hb); replace BK194 := Zaa.mk (Zah (g := gb194) (o := .cells #[.string t190, .int .i64 t191, .bool t192] 126 (0, 0)) (zbk BK194) hb); replace HB := Zaa.mk (Zae (zb6 HB GE189.out GE194.out) hb); (try clear hb)))
           repeat (go_quiet (first | (go_at_call 86; (with_reducible refine (kauditref02_Check.calls k2 ((Zat l0_3 x5_2).f0) ((Zat l0_3 x5_2).f1) ((Zat l0_3 x5_2).f2) ((Zat l0_3 x5_2).f3) t196 _ A30.out).mono ?_); rintro e w34 ⟨rfl, hb⟩; have n0_ := Zaa.mk (Zah (g := gb189) (o := .cells #[.int .i64 a0_0, .int .i64 a0_1, .int .i64 a0_2, .slice (some ad195) l0_3.length c0_3] 51 (0, 0)) (zbk BK189) hb); have n1_ := Zaa.mk (Zah (g := gb194) (o := .cells #[.string t190, .int .i64 t191, .bool t192] 126 (0, 0)) (zbk BK194) hb); have n2_ := Zaa.mk (Zae (zb6 HB GE189.out GE194.out) hb); clear BK189; clear BK194; clear HB; have BK189 := n0_; have BK194 := n1_; have HB := n2_; clear n0_ n1_ n2_; (try clear hb); (try clear hb2); (try clear hk); (try clear hi))); try go_wp2_with (first | (go_at_call 86; (with_reducible refine (kauditref02_Check.calls k2 ((Zat l0_3 x5_2).f0) ((Zat l0_3 x5_2).f1) ((Zat l0_3 x5_2).f2) ((Zat l0_3 x5_2).f3) t196 _ A30.out).mono ?_); rintro e w34 ⟨rfl, hb⟩; have n0_ := Zaa.mk (Zah (g := gb189) (o := .cells #[.int .i64 a0_0, .int .i64 a0_1, .int .i64 a0_2, .slice (some ad195) l0_3.length c0_3] 51 (0, 0)) (zbk BK189) hb); have n1_ := Zaa.mk (Zah (g := gb194) (o := .cells #[.string t190, .int .i64 t191, .bool t192] 126 (0, 0)) (zbk BK194) hb); have n2_ := Zaa.mk (Zae (zb6 HB GE189.out GE194.out) hb); clear BK189; clear BK194; clear HB; have BK189 := n0_; have BK194 := n1_; have HB := n2_; clear n0_ n1_ n2_; (try clear hb); (try clear hb2); (try clear hk); (try clear hi))))
           go_loopg [7] k2 (fun kq v7 w' => ∃ (x7_3 : Int), v7 = .int .i64 x7_3 ∧ Zaa (kauditref03_Check.l1 kq x5_2 x7_3 a0_0 a0_1 a0_2 l0_3 = some r) ∧ Zaa (kq ≤ k2) ∧ Zaa (w'.heap[gb189]? = some (.cells #[.int .i64 a0_0, .int .i64 a0_1, .int .i64 a0_2, (.slice (some ad195) l0_3.length c0_3)] 51 (0, 0))) ∧ Zaa (w'.heap[gb194]? = some (.cells #[.string t190, .int .i64 t191, .bool t192] 126 (0, 0))) ∧ Zaa (Below w.heap.size w w'))
           case atStart => exact ⟨(0), (by first | rfl | (simp; done) | (simp [*]; done)), H', ⟨Nat.le_refl _⟩, ⟨by (with_reducible repeat (first | refine Zac ?_ _ | refine Zad ?_ | refine Zab ?_ _)); exact BK189.out⟩, ⟨by (with_reducible repeat (first | refine Zac ?_ _ | refine Zad ?_ | refine Zab ?_ _)); exact BK194.out⟩, ⟨(zb6 HB GE189.out GE194.out)⟩⟩
           case round =>
            clear H'
            (try clear c3)
            (try clear c22)
            (try clear c23)
            (try clear c23b0)
            (try clear c23b1)
            (try clear c28)
            (try clear c28b0)
            (try clear c29)
            (try clear c29b0)
            (try clear c31)
            (try clear c31b0)
            (try clear c31b1)
            (try clear hcz10_0)
            (try clear hcz10_1)
            (try clear hcz10_2)
            (try clear hcz27_0)
            (try clear hcz27_1)
            (try clear hcz27_2)
            (try clear hcz27_3)
            (try clear hcz33_0)
            (try clear hcz33_1)
            (try clear hcz33_2)
            (try clear hcz33_3)
            (try clear hcz6_0)
            (try clear hcz6_1)
            (try clear hcz6_2)
            (try clear hcz6_3)
            (try clear hfz10_0)
            (try clear hfz10_1)
            (try clear hfz10_2)
            (try clear hfz27_0)
            (try clear hfz27_1)
            (try clear hfz27_2)
            (try clear hfz27_3)
            (try clear hfz33_0)
            (try clear hfz33_1)
            (try clear hfz33_2)
            (try clear hfz33_3)
            (try clear hfz6_0)
            (try clear hfz6_1)
            (try clear hfz6_2)
            (try clear hfz6_3)
            (try clear hx195_0)
            (try clear hx195_1)
            (try clear hx195_2)
            (try clear hx195_3)
            (try clear p195)
            (try clear q195)
            obtain ⟨x7_3, rfl, HA, HK3, BK189, BK194, HB⟩ := hrel
            cases gk with
            | zero => exact absurd HA.out (by simp [kauditref03_Check.l1])
            | succ k3 =>
             have H := HA.out
             clear HA
             simp only [kauditref03_Check.l1] at H
             by_cases c35 : x7_3 < x5_2
             ·rw [if_pos c35] at H
              have c35b0 : decide (x7_3 < x5_2) = true := decide_eq_true c35
              clear c35
              by_cases c36 : 0 ≤ x7_3
              ·rw [if_pos c36] at H
               have c36b0 : decide (0 ≤ x7_3) = true := decide_eq_true c36
               clear c36
               by_cases c37 : x7_3 < (l0_3.length : Int)
               ·rw [if_pos c37] at H
                have c37b0 : decide (x7_3 < (l0_3.length : Int)) = true := decide_eq_true c37
                clear c37
                by_cases c38 : 0 ≤ x5_2
                ·rw [if_pos c38] at H
                 have c38b0 : decide (0 ≤ x5_2) = true := decide_eq_true c38
                 clear c38
                 by_cases c39 : x5_2 < (l0_3.length : Int)
                 ·rw [if_pos c39] at H
                  have c39b0 : decide (x5_2 < (l0_3.length : Int)) = true := decide_eq_true c39
                  clear c39
                  by_cases c40 : ((Zat l0_3 x7_3).f0).toList = ((Zat l0_3 x5_2).f0).toList
                  ·rw [if_pos c40] at H
                   have c40b0 : (((Zat l0_3 x7_3).f0).toList == ((Zat l0_3 x5_2).f0).toList) = true := beq_iff_eq.mpr c40
                   have c40b1 : (((Zat l0_3 x7_3).f0).toList != ((Zat l0_3 x5_2).f0).toList) = false := bne_eq_false_iff_eq.mpr c40
                   clear c40
                   obtain rfl := Option.some.inj H
                   have hnb41 := NB189_194.out
                   have hnc41 := NB194_189.out
                   obtain ⟨hcz42_0, hcz42_1, hcz42_2, hcz42_3⟩ := bc4 BK189.out
                   obtain ⟨hfz42_0, hfz42_1, hfz42_2, hfz42_3⟩ := bf4 BK189.out
                   have p197 : 0 ≤ (x7_3 : Int) := zod
                   have q197 : x7_3 < (l0_3.length : Int) := zod
                   obtain ⟨ad197, e197, hx197_0, hx197_1, hx197_2, hx197_3⟩ := at_T88 HR0_3.out x7_3 p197 q197
                   obtain rfl : ad195 = ad197 := (by injection e197)
                   replace hx197_0 := (HB.out.cell (World.block_lt_of_cell? w _ hx197_0)).trans hx197_0
                   replace hx197_1 := (HB.out.cell (World.block_lt_of_cell? w _ hx197_1)).trans hx197_1
                   replace hx197_2 := (HB.out.cell (World.block_lt_of_cell? w _ hx197_2)).trans hx197_2
                   replace hx197_3 := (HB.out.cell (World.block_lt_of_cell? w _ hx197_3)).trans hx197_3
                   replace p197 := eq_true p197
                   replace q197 := eq_true q197
                   have p198 : 0 ≤ (x5_2 : Int) := zod
                   have q198 : x5_2 < (l0_3.length : Int) := zod
                   obtain ⟨ad198, e198, hx198_0, hx198_1, hx198_2, hx198_3⟩ := at_T88 HR0_3.out x5_2 p198 q198
                   obtain rfl : ad195 = ad198 := (by injection e198)
                   replace hx198_0 := (HB.out.cell (World.block_lt_of_cell? w _ hx198_0)).trans hx198_0
                   replace hx198_1 := (HB.out.cell (World.block_lt_of_cell? w _ hx198_1)).trans hx198_1
                   replace hx198_2 := (HB.out.cell (World.block_lt_of_cell? w _ hx198_2)).trans hx198_2
                   replace hx198_3 := (HB.out.cell (World.block_lt_of_cell? w _ hx198_3)).trans hx198_3
                   replace p198 := eq_true p198
                   replace q198 := eq_true q198
                   go_wp2
                   repeat (go_quiet (fail); try go_wp2)
                   go_ret
                   exact ⟨by first | rfl | (simp [errW_none, errW_some] <;> rfl) | (simp [*, errW_none, errW_some] <;> rfl), (zb6 HB GE189.out GE194.out)⟩
                  ·rw [if_neg c40] at H
                   have c40b0 : (((Zat l0_3 x7_3).f0).toList == ((Zat l0_3 x5_2).f0).toList) = false := beq_eq_false_iff_ne.mpr c40
                   have c40b1 : (((Zat l0_3 x7_3).f0).toList != ((Zat l0_3 x5_2).f0).toList) = true := bne_iff_ne.mpr c40
                   have H' := Zaa.mk H
                   clear H
                   have hnb43 := NB189_194.out
                   have hnc43 := NB194_189.out
                   obtain ⟨hcz44_0, hcz44_1, hcz44_2, hcz44_3⟩ := bc4 BK189.out
                   obtain ⟨hfz44_0, hfz44_1, hfz44_2, hfz44_3⟩ := bf4 BK189.out
                   have p197 : 0 ≤ (x7_3 : Int) := zod
                   have q197 : x7_3 < (l0_3.length : Int) := zod
                   obtain ⟨ad197, e197, hx197_0, hx197_1, hx197_2, hx197_3⟩ := at_T88 HR0_3.out x7_3 p197 q197
                   obtain rfl : ad195 = ad197 := (by injection e197)
                   replace hx197_0 := (HB.out.cell (World.block_lt_of_cell? w _ hx197_0)).trans hx197_0
                   replace hx197_1 := (HB.out.cell (World.block_lt_of_cell? w _ hx197_1)).trans hx197_1
                   replace hx197_2 := (HB.out.cell (World.block_lt_of_cell? w _ hx197_2)).trans hx197_2
                   replace hx197_3 := (HB.out.cell (World.block_lt_of_cell? w _ hx197_3)).trans hx197_3
                   replace p197 := eq_true p197
                   replace q197 := eq_true q197
                   have p198 : 0 ≤ (x5_2 : Int) := zod
                   have q198 : x5_2 < (l0_3.length : Int) := zod
                   obtain ⟨ad198, e198, hx198_0, hx198_1, hx198_2, hx198_3⟩ := at_T88 HR0_3.out x5_2 p198 q198
                   obtain rfl : ad195 = ad198 := (by injection e198)
                   replace hx198_0 := (HB.out.cell (World.block_lt_of_cell? w _ hx198_0)).trans hx198_0
                   replace hx198_1 := (HB.out.cell (World.block_lt_of_cell? w _ hx198_1)).trans hx198_1
                   replace hx198_2 := (HB.out.cell (World.block_lt_of_cell? w _ hx198_2)).trans hx198_2
                   replace hx198_3 := (HB.out.cell (World.block_lt_of_cell? w _ hx198_3)).trans hx198_3
                   replace p198 := eq_true p198
                   replace q198 := eq_true q198
                   go_wp2
                   repeat (go_quiet (fail); try go_wp2)
                   go_roundg k3
                   case measure => have := HJ3.out; have := HK2.out; have := HK3.out; omega
                   case rel => exact ⟨(wrap64 (x7_3 + 1)), (by first | rfl | (simp; done) | (simp [*]; done)), H', ⟨by have := HJ3.out; have := HK2.out; have := HK3.out; omega⟩, ⟨by (with_reducible repeat (first | refine Zac ?_ _ | refine Zad ?_ | refine Zab ?_ _)); exact BK189.out⟩, ⟨by (with_reducible repeat (first | refine Zac ?_ _ | refine Zad ?_ | refine Zab ?_ _)); exact BK194.out⟩, ⟨(zb6 HB GE189.out GE194.out)⟩⟩
                 ·rw [if_neg c39] at H
                  exact absurd H (by simp)
                ·rw [if_neg c38] at H
                 exact absurd H (by simp)
               ·rw [if_neg c37] at H
                exact absurd H (by simp)
              ·rw [if_neg c36] at H
               exact absurd H (by simp)
             ·rw [if_neg c35] at H
              have c35b0 : decide (x7_3 < x5_2) = false := decide_eq_false c35
              clear c35
              have H' := Zaa.mk H
              clear H
              go_wp2
              repeat (go_quiet (fail); try go_wp2)
              go_roundg k3
              case measure => have := HJ3.out; have := HK2.out; have := HK3.out; omega
              case rel => exact ⟨(wrap64 (x5_2 + 1)), (by first | rfl | (simp; done) | (simp [*]; done)), H', ⟨by have := HJ3.out; have := HK2.out; have := HK3.out; omega⟩, ⟨by (with_reducible repeat (first | refine Zac ?_ _ | refine Zad ?_ | refine Zab ?_ _)); exact BK189.out⟩, ⟨by (with_reducible repeat (first | refine Zac ?_ _ | refine Zad ?_ | refine Zab ?_ _)); exact BK194.out⟩, ⟨(zb6 HB GE189.out GE194.out)⟩⟩
          ·rw [if_neg c31] at H
           have c31b0 : (t196 == 0) = false := beq_eq_false_iff_ne.mpr c31
           have c31b1 : (t196 != 0) = true := bne_iff_ne.mpr c31
           obtain rfl := Option.some.inj H
           have hnb45 := NB189_194.out
           have hnc45 := NB194_189.out
           obtain ⟨hcz46_0, hcz46_1, hcz46_2, hcz46_3⟩ := bc4 BK189.out
           obtain ⟨hfz46_0, hfz46_1, hfz46_2, hfz46_3⟩ := bf4 BK189.out
           have p195 : 0 ≤ (x5_2 : Int) := zod
           have q195 : x5_2 < (l0_3.length : Int) := zod
           obtain ⟨ad195, e195, hx195_0, hx195_1, hx195_2, hx195_3⟩ := at_T88 HR0_3.out x5_2 p195 q195
           cases e195
           replace hx195_0 := (HB.out.cell (World.block_lt_of_cell? w _ hx195_0)).trans hx195_0
           replace hx195_1 := (HB.out.cell (World.block_lt_of_cell? w _ hx195_1)).trans hx195_1
           replace hx195_2 := (HB.out.cell (World.block_lt_of_cell? w _ hx195_2)).trans hx195_2
           replace hx195_3 := (HB.out.cell (World.block_lt_of_cell? w _ hx195_3)).trans hx195_3
           replace p195 := eq_true p195
           replace q195 := eq_true q195
           go_wp2_with (first | (go_at_call 86; (with_reducible refine (kauditref02_Check.calls k2 ((Zat l0_3 x5_2).f0) ((Zat l0_3 x5_2).f1) ((Zat l0_3 x5_2).f2) ((Zat l0_3 x5_2).f3) t196 _ A30.out).mono ?_); rintro e w47 ⟨rfl, hb⟩; replace BK189 := Zaa.mk (Zah (g := gb189) (o := .cells #[.int .i64 a0_0, .int .i64 a0_1, .int .i64 a0_2, .slice (some ad195) l0_3.length c0_3] 51 (0, 0)) (zbk BK189) hb); replace BK194 := Zaa.mk (Zah (g := gb194) (o := .cells #[.string t190, .int .i64 t191, .bool t192] 126 (0, 0)) (zbk BK194) hb); replace HB := Zaa.mk (Zae (zb6 HB GE189.out GE194.out) hb); (try clear hb)))
           repeat (go_quiet (first | (go_at_call 86; (with_reducible refine (kauditref02_Check.calls k2 ((Zat l0_3 x5_2).f0) ((Zat l0_3 x5_2).f1) ((Zat l0_3 x5_2).f2) ((Zat l0_3 x5_2).f3) t196 _ A30.out).mono ?_); rintro e w47 ⟨rfl, hb⟩; have n0_ := Zaa.mk (Zah (g := gb189) (o := .cells #[.int .i64 a0_0, .int .i64 a0_1, .int .i64 a0_2, .slice (some ad195) l0_3.length c0_3] 51 (0, 0)) (zbk BK189) hb); have n1_ := Zaa.mk (Zah (g := gb194) (o := .cells #[.string t190, .int .i64 t191, .bool t192] 126 (0, 0)) (zbk BK194) hb); have n2_ := Zaa.mk (Zae (zb6 HB GE189.out GE194.out) hb); clear BK189; clear BK194; clear HB; have BK189 := n0_; have BK194 := n1_; have HB := n2_; clear n0_ n1_ n2_; (try clear hb); (try clear hb2); (try clear hk); (try clear hi))); try go_wp2_with (first | (go_at_call 86; (with_reducible refine (kauditref02_Check.calls k2 ((Zat l0_3 x5_2).f0) ((Zat l0_3 x5_2).f1) ((Zat l0_3 x5_2).f2) ((Zat l0_3 x5_2).f3) t196 _ A30.out).mono ?_); rintro e w47 ⟨rfl, hb⟩; have n0_ := Zaa.mk (Zah (g := gb189) (o := .cells #[.int .i64 a0_0, .int .i64 a0_1, .int .i64 a0_2, .slice (some ad195) l0_3.length c0_3] 51 (0, 0)) (zbk BK189) hb); have n1_ := Zaa.mk (Zah (g := gb194) (o := .cells #[.string t190, .int .i64 t191, .bool t192] 126 (0, 0)) (zbk BK194) hb); have n2_ := Zaa.mk (Zae (zb6 HB GE189.out GE194.out) hb); clear BK189; clear BK194; clear HB; have BK189 := n0_; have BK194 := n1_; have HB := n2_; clear n0_ n1_ n2_; (try clear hb); (try clear hb2); (try clear hk); (try clear hi))))
           go_ret
           exact ⟨by first | rfl | (simp [errW_none, errW_some] <;> rfl) | (simp [*, errW_none, errW_some] <;> rfl), (zb6 HB GE189.out GE194.out)⟩
         ·rw [if_neg c29] at H
          exact absurd H (by simp)
        ·rw [if_neg c28] at H
         have c28b0 : decide (x5_2 < (l0_3.length : Int)) = false := decide_eq_false c28
         clear c28
         obtain rfl := Option.some.inj H
         have hnb48 := NB189_194.out
         have hnc48 := NB194_189.out
         obtain ⟨hcz49_0, hcz49_1, hcz49_2, hcz49_3⟩ := bc4 BK189.out
         obtain ⟨hfz49_0, hfz49_1, hfz49_2, hfz49_3⟩ := bf4 BK189.out
         go_wp2
         repeat (go_quiet (fail); try go_wp2)
         go_ret
         exact ⟨by first | rfl | (simp [errW_none, errW_some] <;> rfl) | (simp [*, errW_none, errW_some] <;> rfl), (zb6 HB GE189.out GE194.out)⟩
 ·replace c3 := Bool.eq_false_iff.mpr c3
  subst c3
  rw [if_neg (show ¬ (false = true) by decide)] at H
  obtain rfl := Option.some.inj H
  go_enter Tryz.func42, Tryz.ntmps42
  go_wp2_with (first | ((with_reducible refine Zav (N := 1) rfl ?_); refine Zaw ?hg (N := 1) ?hd (cs := #[.int .i64 a0_0, .int .i64 a0_1, .int .i64 a0_2, .slice A0_3 l0_3.length c0_3]) (t := 51) ?hr ?_; (case hd => rfl); (case hg => rfl); (case hr => first | (go_simp; done) | (go_simp; rfl)); intro gb189 hg w50 hbox hb; have BK189 := Zaa.mk (hbox); have GW189 := Zaa.mk ((by rw [hg]; exact (Zai (zb1 HB)) : w.heap.size ≤ gb189)); have GE189 := Zaa.mk ((by rw [hg]; exact (Zai (zb1 HB)) : w.heap.size ≤ gb189)); replace HB := Zaa.mk (Zae (zb1 HB) hb); clear hb hbox hg; obtain ⟨hcz51_0, hcz51_1, hcz51_2, hcz51_3⟩ := bc4 BK189.out; obtain ⟨hfz51_0, hfz51_1, hfz51_2, hfz51_3⟩ := bf4 BK189.out) | (go_at_call 85; (with_reducible refine (kauditref03_find.calls k a0_0 t190 t191 t192 false _ A2.out).mono ?_); rintro e w52 ⟨rfl, hb⟩; replace BK189 := Zaa.mk (Zah (g := gb189) (o := .cells #[.int .i64 a0_0, .int .i64 a0_1, .int .i64 a0_2, .slice A0_3 l0_3.length c0_3] 51 (0, 0)) (zbk BK189) hb); replace HB := Zaa.mk (Zae (zb2 HB GE189.out) hb); (try clear hb)) | ((with_reducible refine Zav (N := 3) rfl ?_); refine Zaw ?hg (N := 3) ?hd (cs := #[.string (⟨#[]⟩ : ByteArray), .int .i64 0, .bool false]) (t := 126) ?hr ?_; (case hd => rfl); (case hg => rfl); (case hr => first | (go_simp; done) | (go_simp; rfl)); intro gb194 hg w53 hbox hb; have BK194 := Zaa.mk (hbox); have GW194 := Zaa.mk ((by rw [hg]; exact (Zai (zb2 HB GE189.out)) : w.heap.size ≤ gb194)); have GE194 := Zaa.mk ((by rw [hg]; exact (Zai (zb2 HB GE189.out)) : w.heap.size ≤ gb194)); replace HB := Zaa.mk (Zae (zb2 HB GE189.out) hb); have NB189_194 := Zaa.mk ((by rw [hg]; exact Nat.ne_of_lt (Za3 (g := gb189) (o := .cells #[.int .i64 a0_0, .int .i64 a0_1, .int .i64 a0_2, .slice A0_3 l0_3.length c0_3] 51 (0, 0)) (zbk BK189)) : gb189 ≠ gb194)); have NB194_189 := Zaa.mk ((by rw [hg]; exact Nat.ne_of_gt (Za3 (g := gb189) (o := .cells #[.int .i64 a0_0, .int .i64 a0_1, .int .i64 a0_2, .slice A0_3 l0_3.length c0_3] 51 (0, 0)) (zbk BK189)) : gb194 ≠ gb189)); replace BK189 := Zaa.mk (Zah (g := gb189) (o := .cells #[.int .i64 a0_0, .int .i64 a0_1, .int .i64 a0_2, .slice A0_3 l0_3.length c0_3] 51 (0, 0)) (zbk BK189) hb); clear hb hbox hg; have hnb54 := NB194_189.out; have hnc54 := NB189_194.out; obtain ⟨hcz55_0, hcz55_1, hcz55_2⟩ := bc3 BK194.out; obtain ⟨hfz55_0, hfz55_1, hfz55_2⟩ := bf3 BK194.out))
  repeat (go_quiet (first | ((with_reducible refine Zav (N := 1) rfl ?_); refine Zaw ?hg (N := 1) ?hd (cs := #[.int .i64 a0_0, .int .i64 a0_1, .int .i64 a0_2, .slice A0_3 l0_3.length c0_3]) (t := 51) ?hr ?_; (case hd => rfl); (case hg => rfl); (case hr => first | (go_simp; done) | (go_simp; rfl)); intro gb189 hg w50 hbox hb; have n0_ := Zaa.mk (Zae (zb1 HB) hb); have n1_ := Zaa.mk (hbox); have n2_ := Zaa.mk ((by rw [hg]; exact (Zai (zb1 HB)) : w.heap.size ≤ gb189)); have n3_ := Zaa.mk ((by rw [hg]; exact (Zai (zb1 HB)) : w.heap.size ≤ gb189)); clear HB; have HB := n0_; have BK189 := n1_; have GW189 := n2_; have GE189 := n3_; clear n0_ n1_ n2_ n3_; clear hb hbox hg; obtain ⟨hcz51_0, hcz51_1, hcz51_2, hcz51_3⟩ := bc4 BK189.out; obtain ⟨hfz51_0, hfz51_1, hfz51_2, hfz51_3⟩ := bf4 BK189.out) | (go_at_call 85; (with_reducible refine (kauditref03_find.calls k a0_0 t190 t191 t192 false _ A2.out).mono ?_); rintro e w52 ⟨rfl, hb⟩; have n0_ := Zaa.mk (Zah (g := gb189) (o := .cells #[.int .i64 a0_0, .int .i64 a0_1, .int .i64 a0_2, .slice A0_3 l0_3.length c0_3] 51 (0, 0)) (zbk BK189) hb); have n1_ := Zaa.mk (Zae (zb2 HB GE189.out) hb); clear BK189; clear HB; have BK189 := n0_; have HB := n1_; clear n0_ n1_; (try clear hb); (try clear hb2); (try clear hk); (try clear hi)) | ((with_reducible refine Zav (N := 3) rfl ?_); refine Zaw ?hg (N := 3) ?hd (cs := #[.string (⟨#[]⟩ : ByteArray), .int .i64 0, .bool false]) (t := 126) ?hr ?_; (case hd => rfl); (case hg => rfl); (case hr => first | (go_simp; done) | (go_simp; rfl)); intro gb194 hg w53 hbox hb; have n0_ := Zaa.mk (Zah (g := gb189) (o := .cells #[.int .i64 a0_0, .int .i64 a0_1, .int .i64 a0_2, .slice A0_3 l0_3.length c0_3] 51 (0, 0)) (zbk BK189) hb); have n1_ := Zaa.mk (Zae (zb2 HB GE189.out) hb); have n2_ := Zaa.mk (hbox); have n3_ := Zaa.mk ((by rw [hg]; exact (Zai (zb2 HB GE189.out)) : w.heap.size ≤ gb194)); have n4_ := Zaa.mk ((by rw [hg]; exact (Zai (zb2 HB GE189.out)) : w.heap.size ≤ gb194)); have n5_ := Zaa.mk ((by rw [hg]; exact Nat.ne_of_lt (Za3 (g := gb189) (o := .cells #[.int .i64 a0_0, .int .i64 a0_1, .int .i64 a0_2, .slice A0_3 l0_3.length c0_3] 51 (0, 0)) (zbk BK189)) : gb189 ≠ gb194)); have n6_ := Zaa.mk ((by rw [hg]; exact Nat.ne_of_gt (Za3 (g := gb189) (o := .cells #[.int .i64 a0_0, .int .i64 a0_1, .int .i64 a0_2, .slice A0_3 l0_3.length c0_3] 51 (0, 0)) (zbk BK189)) : gb194 ≠ gb189)); clear BK189; clear HB; have BK189 := n0_; have HB := n1_; have BK194 := n2_; have GW194 := n3_; have GE194 := n4_; have NB189_194 := n5_; have NB194_189 := n6_; clear n0_ n1_ n2_ n3_ n4_ n5_ n6_; clear hb hbox hg; have hnb54 := NB194_189.out; have hnc54 := NB189_194.out; obtain ⟨hcz55_0, hcz55_1, hcz55_2⟩ := bc3 BK194.out; obtain ⟨hfz55_0, hfz55_1, hfz55_2⟩ := bf3 BK194.out)); try go_wp2_with (first | ((with_reducible refine Zav (N := 1) rfl ?_); refine Zaw ?hg (N := 1) ?hd (cs := #[.int .i64 a0_0, .int .i64 a0_1, .int .i64 a0_2, .slice A0_3 l0_3.length c0_3]) (t := 51) ?hr ?_; (case hd => rfl); (case hg => rfl); (case hr => first | (go_simp; done) | (go_simp; rfl)); intro gb189 hg w50 hbox hb; have n0_ := Zaa.mk (Zae (zb1 HB) hb); have n1_ := Zaa.mk (hbox); have n2_ := Zaa.mk ((by rw [hg]; exact (Zai (zb1 HB)) : w.heap.size ≤ gb189)); have n3_ := Zaa.mk ((by rw [hg]; exact (Zai (zb1 HB)) : w.heap.size ≤ gb189)); clear HB; have HB := n0_; have BK189 := n1_; have GW189 := n2_; have GE189 := n3_; clear n0_ n1_ n2_ n3_; clear hb hbox hg; obtain ⟨hcz51_0, hcz51_1, hcz51_2, hcz51_3⟩ := bc4 BK189.out; obtain ⟨hfz51_0, hfz51_1, hfz51_2, hfz51_3⟩ := bf4 BK189.out) | (go_at_call 85; (with_reducible refine (kauditref03_find.calls k a0_0 t190 t191 t192 false _ A2.out).mono ?_); rintro e w52 ⟨rfl, hb⟩; have n0_ := Zaa.mk (Zah (g := gb189) (o := .cells #[.int .i64 a0_0, .int .i64 a0_1, .int .i64 a0_2, .slice A0_3 l0_3.length c0_3] 51 (0, 0)) (zbk BK189) hb); have n1_ := Zaa.mk (Zae (zb2 HB GE189.out) hb); clear BK189; clear HB; have BK189 := n0_; have HB := n1_; clear n0_ n1_; (try clear hb); (try clear hb2); (try clear hk); (try clear hi)) | ((with_reducible refine Zav (N := 3) rfl ?_); refine Zaw ?hg (N := 3) ?hd (cs := #[.string (⟨#[]⟩ : ByteArray), .int .i64 0, .bool false]) (t := 126) ?hr ?_; (case hd => rfl); (case hg => rfl); (case hr => first | (go_simp; done) | (go_simp; rfl)); intro gb194 hg w53 hbox hb; have n0_ := Zaa.mk (Zah (g := gb189) (o := .cells #[.int .i64 a0_0, .int .i64 a0_1, .int .i64 a0_2, .slice A0_3 l0_3.length c0_3] 51 (0, 0)) (zbk BK189) hb); have n1_ := Zaa.mk (Zae (zb2 HB GE189.out) hb); have n2_ := Zaa.mk (hbox); have n3_ := Zaa.mk ((by rw [hg]; exact (Zai (zb2 HB GE189.out)) : w.heap.size ≤ gb194)); have n4_ := Zaa.mk ((by rw [hg]; exact (Zai (zb2 HB GE189.out)) : w.heap.size ≤ gb194)); have n5_ := Zaa.mk ((by rw [hg]; exact Nat.ne_of_lt (Za3 (g := gb189) (o := .cells #[.int .i64 a0_0, .int .i64 a0_1, .int .i64 a0_2, .slice A0_3 l0_3.length c0_3] 51 (0, 0)) (zbk BK189)) : gb189 ≠ gb194)); have n6_ := Zaa.mk ((by rw [hg]; exact Nat.ne_of_gt (Za3 (g := gb189) (o := .cells #[.int .i64 a0_0, .int .i64 a0_1, .int .i64 a0_2, .slice A0_3 l0_3.length c0_3] 51 (0, 0)) (zbk BK189)) : gb194 ≠ gb189)); clear BK189; clear HB; have BK189 := n0_; have HB := n1_; have BK194 := n2_; have GW194 := n3_; have GE194 := n4_; have NB189_194 := n5_; have NB194_189 := n6_; clear n0_ n1_ n2_ n3_ n4_ n5_ n6_; clear hb hbox hg; have hnb54 := NB194_189.out; have hnc54 := NB189_194.out; obtain ⟨hcz55_0, hcz55_1, hcz55_2⟩ := bc3 BK194.out; obtain ⟨hfz55_0, hfz55_1, hfz55_2⟩ := bf3 BK194.out)))
  go_ret
  exact ⟨by first | rfl | (simp [errW_none, errW_some] <;> rfl) | (simp [*, errW_none, errW_some] <;> rfl), (zb6 HB GE189.out GE194.out)⟩
def kauditref03_Name.f (k : Nat) (a0 : Int) : Option (ByteArray) := (kauditref03_find.f k a0).bind fun bt199 => (some bt199.1)
theorem kauditref03_Name.mono : ∀ a0 k, LeO (kauditref03_Name.f k a0) (kauditref03_Name.f (k + 1) a0) := by
 intro a0 k
 unfold kauditref03_Name.f
 repeat' first
   | (with_reducible exact kauditref03_find.mono _ _)
   | (with_reducible exact LeO.refl _)
   | (with_reducible exact LeO.none _)
   | (with_reducible refine LeO.ite ?_ ?_)
   | (with_reducible refine LeO.bind ?_ (fun _ => ?_))
   | exact kauditref03_find.mono _ _
   | exact LeO.none _
   | refine LeO.ite ?_ ?_
   | refine LeO.bind ?_ (fun _ => ?_)
set_option maxHeartbeats 8000000 in
set_option maxRecDepth 100000 in
theorem kauditref03_Name.calls (k : Nat) (a0 : Int) (r : ByteArray) (w : World) (h : kauditref03_Name.f k a0 = some r) :
  Calls Tryz.prog 43 #[.int .i64 a0] w fun e w' => e = .returned (.string r) ∧ Below w.heap.size w w' := by
 have hu126 := Tryz.underlying126
 have HB := Zaa.mk (Below.refl w.heap.size w)
 unfold kauditref03_Name.f at h
 have H := h
 clear h
 replace H := Option.bind_eq_some_iff.mp H
 obtain ⟨⟨t199, t200, t201, t202⟩, A20, H⟩ := H
 try dsimp only at H
 have A2 := Zaa.mk A20
 clear A20
 obtain rfl := Option.some.inj H
 go_enter Tryz.func43, Tryz.ntmps43
 go_wp2_with (first | ((with_reducible refine Zam (f := 85) rfl ?_); refine Za1 (some 7) rfl rfl Tryz.func85 (by kernel_rfl) rfl #[.int .i64 a0] rfl zam ?_; (with_reducible refine (kauditref03_find.calls k a0 t199 t200 t201 t202 _ A2.out).mono ?_); rintro e w3 ⟨rfl, hb⟩; refine ⟨_, rfl, ?_⟩; replace HB := Zaa.mk (Zae (zb1 HB) hb); (try clear hb)) | ((with_reducible refine Zav (N := 3) rfl ?_); refine Zaw ?hg (N := 3) ?hd (cs := #[.string (⟨#[]⟩ : ByteArray), .int .i64 0, .bool false]) (t := 126) ?hr ?_; (case hd => rfl); (case hg => rfl); (case hr => first | (go_simp; done) | (go_simp; rfl)); intro gb203 hg w4 hbox hb; have BK203 := Zaa.mk (hbox); have GW203 := Zaa.mk ((by rw [hg]; exact (Zai (zb1 HB)) : w.heap.size ≤ gb203)); have GE203 := Zaa.mk ((by rw [hg]; exact (Zai (zb1 HB)) : w.heap.size ≤ gb203)); replace HB := Zaa.mk (Zae (zb1 HB) hb); clear hb hbox hg; obtain ⟨hcz5_0, hcz5_1, hcz5_2⟩ := bc3 BK203.out; obtain ⟨hfz5_0, hfz5_1, hfz5_2⟩ := bf3 BK203.out))
 go_ret
 exact ⟨by first | rfl | (simp [errW_none, errW_some] <;> rfl) | (simp [*, errW_none, errW_some] <;> rfl), (zb2 HB GE203.out)⟩
-- EXTERNAL: function 44 (kauditref01_Decimal)
def kauditref03_three.f (a0 : Int) : Option (ByteArray) := (kauditref01_Decimal.f (wrap64 (Int.tdiv a0 100))).bind fun t204 => ((kauditref01_Decimal.f (Int.tmod (wrap64 (Int.tdiv a0 10)) 10)).bind fun t205 => (if t204.size + t205.size ≤ 9223372036854775807 then ((kauditref01_Decimal.f (Int.tmod a0 10)).bind fun t206 => (if (t204 ++ t205).size + t206.size ≤ 9223372036854775807 then (some ((t204 ++ t205) ++ t206)) else (none))) else (none)))
set_option maxHeartbeats 8000000 in
set_option maxRecDepth 100000 in
theorem kauditref03_three.calls (a0 : Int) (r : ByteArray) (w : World) (h : kauditref03_three.f a0 = some r) :
  Calls Tryz.prog 45 #[.int .i64 a0] w fun e w' => e = .returned (.string r) ∧ Zao w w' := by
 unfold kauditref03_three.f at h
 have H := h
 clear h
 replace H := Option.bind_eq_some_iff.mp H
 obtain ⟨t204, A20, H⟩ := H
 try dsimp only at H
 have A2 := Zaa.mk A20
 clear A20
 replace H := Option.bind_eq_some_iff.mp H
 obtain ⟨t205, A30, H⟩ := H
 try dsimp only at H
 have A3 := Zaa.mk A30
 clear A30
 by_cases c4 : t204.size + t205.size ≤ 9223372036854775807
 ·rw [if_pos c4] at H
  have c4b0 := eq_true c4
  have c4b1 : decide (t204.size + t205.size ≤ 9223372036854775807) = true := decide_eq_true c4
  try have c4b2 : (9223372036854775807 < t204.size + t205.size) = False := eq_false (Nat.not_lt.2 c4)
  replace H := Option.bind_eq_some_iff.mp H
  obtain ⟨t206, A50, H⟩ := H
  try dsimp only at H
  have A5 := Zaa.mk A50
  clear A50
  by_cases c6 : (t204 ++ t205).size + t206.size ≤ 9223372036854775807
  ·rw [if_pos c6] at H
   have c6b0 := eq_true c6
   have c6b1 : decide ((t204 ++ t205).size + t206.size ≤ 9223372036854775807) = true := decide_eq_true c6
   try have c6b2 : (9223372036854775807 < (t204 ++ t205).size + t206.size) = False := eq_false (Nat.not_lt.2 c6)
   try (have c6b3 := c6; simp only [ByteArray.size_append, Go.Proofs.YtodbabeldolcbaaGreatDoor.PW.size_mk, List.size_toArray, List.length_cons, List.length_nil, Nat.reduceAdd] at c6b3; have c6b4 := eq_false (Nat.not_lt.2 c6b3))
   obtain rfl := Option.some.inj H
   go_enter Tryz.func45, Tryz.ntmps45
   go_wp2_with (first | ((with_reducible refine Zam (f := 44) rfl ?_); refine Za1 (some 5) rfl rfl Tryz.func44 (by kernel_rfl) rfl #[.int .i64 (wrap64 (Int.tdiv a0 100))] rfl zam ?_; (with_reducible refine (kauditref01_Decimal.calls (wrap64 (Int.tdiv a0 100)) t204 _ A2.out).mono ?_); rintro e w' ⟨rfl, ⟨nd, rfl⟩⟩; refine ⟨_, rfl, ?_⟩) | ((with_reducible refine Zam (f := 44) rfl ?_); refine Za1 (some 9) rfl rfl Tryz.func44 (by kernel_rfl) rfl #[.int .i64 (Int.tmod (wrap64 (Int.tdiv a0 10)) 10)] rfl zam ?_; (with_reducible refine (kauditref01_Decimal.calls (Int.tmod (wrap64 (Int.tdiv a0 10)) 10) t205 _ A3.out).mono ?_); rintro e w' ⟨rfl, ⟨nd, rfl⟩⟩; refine ⟨_, rfl, ?_⟩) | ((with_reducible refine Zam (f := 44) rfl ?_); refine Za1 (some 13) rfl rfl Tryz.func44 (by kernel_rfl) rfl #[.int .i64 (Int.tmod a0 10)] rfl zam ?_; (with_reducible refine (kauditref01_Decimal.calls (Int.tmod a0 10) t206 _ A5.out).mono ?_); rintro e w' ⟨rfl, ⟨nd, rfl⟩⟩; refine ⟨_, rfl, ?_⟩))
   go_ret
   exact ⟨by first | rfl | (simp; done) | (simp [*]; done), by repeat (first | exact Zao.refl _ | apply Zao.step)⟩
  ·rw [if_neg c6] at H
   exact absurd H (by simp)
 ·rw [if_neg c4] at H
  exact absurd H (by simp)
end Go.Proofs.YtodbabeldolcbaaGreatDoor.PA
