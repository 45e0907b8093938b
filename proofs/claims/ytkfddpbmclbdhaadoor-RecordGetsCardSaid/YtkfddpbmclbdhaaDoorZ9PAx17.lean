/- Contracts of functions of the program: written by pr2.py (ours, round the print of the kit) out of the translation; conditions: each contract names its own. -/
import Derived.Test.YtkfddpbmclbdhaaDoorZ9PAx0
import Derived.Test.YtkfddpbmclbdhaaDoorZ9PAx1
import Derived.Test.YtkfddpbmclbdhaaDoorZ9PAx10
import Derived.Test.YtkfddpbmclbdhaaDoorZ9PAx11
import Derived.Test.YtkfddpbmclbdhaaDoorZ9PAx15
import Derived.Test.YtkfddpbmclbdhaaDoorZ9PAx16
import Derived.Test.YtkfddpbmclbdhaaDoorZ9GT
namespace Go.Proofs.YtkfddpbmclbdhaaDoor.PA
open Go.RowKit Go.Proofs.YtkfddpbmclbdhaaDoorW.PrintWords Go.Proofs.YtkfddpbmclbdhaaDoorW.PrintLast Go.Proofs.YtkfddpbmclbdhaaDoorW.PrintMore
attribute [local go_sem] max2_int min2_int max_two min_two max_three min_three max_four min_four   -- for this text's walks alone
set_option linter.unusedVariables false
set_option linter.unusedSimpArgs false
attribute [local go_sem high] eqA31
/-! ### kauditlaw03_RecordGets: function 10 -/
def kauditlaw03_RecordGets.l0 : Nat → List ByteArray → Int → Int → Int → Int → List (S31) → Int → Int → Int → List (S31) → Option (Bool)
 | 0, _, _, _, _, _, _, _, _, _, _ => none
 | k + 1, x9, x10, x402000, x402001, x402002, x402003, x415000, x415001, x415002, x415003 => if x10 < (x9.length : Int) then (if 0 ≤ x10 then ((record_Get.f k x402000 x402001 x402002 x402003 (rdOf ByteArray.empty x9 x10)).bind fun bt420 => ((kauditref03_Get.f k x402000 x402001 x402002 x402003 (rdOf ByteArray.empty x9 x10)).bind fun bt427 => ((record_Get.f k x415000 x415001 x415002 x415003 (rdOf ByteArray.empty x9 x10)).bind fun bt434 => ((kauditref03_Get.f k x415000 x415001 x415002 x415003 (rdOf ByteArray.empty x9 x10)).bind fun bt441 => (if (bt420.2.2.2.2 != bt427.2.2.2.2) = true then (some false) else (if (!(bt420.1.toList == bt427.1.toList) || (!(bt420.2.1 == bt427.2.1) || (!(bt420.2.2.1 == bt427.2.2.1) || (!(bt420.2.2.2.1.toList == bt427.2.2.2.1.toList))))) = true then (some false) else (if (bt434.2.2.2.2 != bt441.2.2.2.2) = true then (some false) else (if (!(bt434.1.toList == bt441.1.toList) || (!(bt434.2.1 == bt441.2.1) || (!(bt434.2.2.1 == bt441.2.2.1) || (!(bt434.2.2.2.1.toList == bt441.2.2.2.1.toList))))) = true then (some false) else (kauditlaw03_RecordGets.l0 k x9 (wrap64 (x10 + 1)) x402000 x402001 x402002 x402003 x415000 x415001 x415002 x415003))))))))) else (none)) else ((kauditlaw03_awake.f).bind fun t418 => (some t418))
def kauditlaw03_RecordGets.f (k : Nat) (a0_0 : Int) (a0_1 : Int) (a0_2 : Int) (l0_3 : List (S31)) (a1 : ByteArray) (l2 : List Int) : Option (Bool) := (kauditlaw03_light.f k a0_0 a0_1 a0_2 l0_3).bind fun t402 => (if t402 = true then ((kauditmake_New.f l2).bind fun bt404 => ((kauditmake_Src_Record.f k bt404.1 bt404.2).bind fun bt407 => (kauditlaw03_RecordGets.l0 k (([a1, (⟨#[97]⟩ : ByteArray), (⟨#[117, 105, 100]⟩ : ByteArray), (⟨#[120, 95, 49]⟩ : ByteArray)] : List ByteArray)) 0 a0_0 a0_1 a0_2 l0_3 bt407.1 bt407.2.1 bt407.2.2.1 bt407.2.2.2.1))) else ((kauditlaw03_awake.f).bind fun t403 => (some t403)))
theorem kauditlaw03_RecordGets.mono_l : ∀ k, (∀ y0 y1 y2 y3 y4 y5 y6 y7 y8 y9, LeO (kauditlaw03_RecordGets.l0 k y0 y1 y2 y3 y4 y5 y6 y7 y8 y9) (kauditlaw03_RecordGets.l0 (k + 1) y0 y1 y2 y3 y4 y5 y6 y7 y8 y9))
 | 0 => fun _ _ _ _ _ _ _ _ _ _ r h => by simp [kauditlaw03_RecordGets.l0] at h
 | k + 1 => by
  have ih0 := kauditlaw03_RecordGets.mono_l k
  ·intro y0 y1 y2 y3 y4 y5 y6 y7 y8 y9
   unfold kauditlaw03_RecordGets.l0
   repeat' first
   | (with_reducible exact ih0 _ _ _ _ _ _ _ _ _ _)
   | (with_reducible exact kauditlaw03_light.mono _ _ _ _ _)
   | (with_reducible exact kauditmake_Src_Record.mono _ _ _)
   | (with_reducible exact kauditref03_Get.mono _ _ _ _ _ _)
   | (with_reducible exact record_Get.mono _ _ _ _ _ _)
   | (with_reducible exact LeO.refl _)
   | (with_reducible exact LeO.none _)
   | (with_reducible refine LeO.ite ?_ ?_)
   | (with_reducible refine LeO.bind ?_ (fun _ => ?_))
   | exact ih0 _ _ _ _ _ _ _ _ _ _
   | exact kauditlaw03_light.mono _ _ _ _ _
   | exact kauditmake_Src_Record.mono _ _ _
   | exact kauditref03_Get.mono _ _ _ _ _ _
   | exact record_Get.mono _ _ _ _ _ _
   | exact LeO.none _
   | refine LeO.ite ?_ ?_
   | refine LeO.bind ?_ (fun _ => ?_)
theorem kauditlaw03_RecordGets.mono : ∀ a0 a1 a2 a3 a4 a5 k, LeO (kauditlaw03_RecordGets.f k a0 a1 a2 a3 a4 a5) (kauditlaw03_RecordGets.f (k + 1) a0 a1 a2 a3 a4 a5) := by
 intro a0 a1 a2 a3 a4 a5 k
 have ih0 := kauditlaw03_RecordGets.mono_l k
 unfold kauditlaw03_RecordGets.f
 repeat' first
   | (with_reducible exact ih0 _ _ _ _ _ _ _ _ _ _)
   | (with_reducible exact kauditlaw03_light.mono _ _ _ _ _)
   | (with_reducible exact kauditmake_Src_Record.mono _ _ _)
   | (with_reducible exact kauditref03_Get.mono _ _ _ _ _ _)
   | (with_reducible exact record_Get.mono _ _ _ _ _ _)
   | (with_reducible exact LeO.refl _)
   | (with_reducible exact LeO.none _)
   | (with_reducible refine LeO.ite ?_ ?_)
   | (with_reducible refine LeO.bind ?_ (fun _ => ?_))
   | exact ih0 _ _ _ _ _ _ _ _ _ _
   | exact kauditlaw03_light.mono _ _ _ _ _
   | exact kauditmake_Src_Record.mono _ _ _
   | exact kauditref03_Get.mono _ _ _ _ _ _
   | exact record_Get.mono _ _ _ _ _ _
   | exact LeO.none _
   | refine LeO.ite ?_ ?_
   | refine LeO.bind ?_ (fun _ => ?_)
def kauditlaw03_RecordGets.T9 : Bool × List (List Nat × List Nat) := (true, [([], []), ([], []), ([], []), ([1, 2], [1, 2]), ([3], [3]), ([0, 4], [0, 4]), ([5], [5]), ([6], [6]), ([6], [6]), ([], []), ([9, 7, 5, 0, 1, 2, 3, 4, 5, 6, 7, 9], [7, 9]), ([8, 10, 0, 1, 2, 3, 4, 5, 6, 7, 8, 9, 10], [8])])
def kauditlaw03_RecordGets.B9 : List Nat := [0, 0, 0, 6, 14, 31, 63, 127, 127, 0, 767, 2047]
theorem kauditlaw03_RecordGets.tab9 : rtab .any (opsOf Tryd.f10 9) = kauditlaw03_RecordGets.T9 := by kernel_rfl
theorem kauditlaw03_RecordGets.bits9 : waitsOk kauditlaw03_RecordGets.T9.2 kauditlaw03_RecordGets.B9 = true := by kernel_rfl
def kauditlaw03_RecordGets.T10 : Bool × List (List Nat × List Nat) := (true, [([], []), ([], []), ([], []), ([1, 2], [1, 2]), ([3], [3]), ([0, 4], [0, 4]), ([5], [5]), ([6], [6]), ([6], [6]), ([], []), ([9, 7, 5, 0, 1, 2, 3, 4, 5, 6, 7, 9], [7, 9]), ([8, 10, 0, 1, 2, 3, 4, 5, 6, 7, 8, 9, 10], [8])])
def kauditlaw03_RecordGets.B10 : List Nat := [0, 0, 0, 6, 14, 31, 63, 127, 127, 0, 767, 2047]
theorem kauditlaw03_RecordGets.tab10 : rtab .any (opsOf Tryd.f10 10) = kauditlaw03_RecordGets.T10 := by kernel_rfl
theorem kauditlaw03_RecordGets.bits10 : waitsOk kauditlaw03_RecordGets.T10.2 kauditlaw03_RecordGets.B10 = true := by kernel_rfl
def kauditlaw03_RecordGets.T11 : Bool × List (List Nat × List Nat) := (true, [([], []), ([], []), ([], []), ([1, 2], [1, 2]), ([3], [3]), ([0, 4], [0, 4]), ([5], [5]), ([6], [6]), ([6], [6]), ([], []), ([9, 7, 5, 0, 1, 2, 3, 4, 5, 6, 7, 9], [7, 9]), ([8, 10, 0, 1, 2, 3, 4, 5, 6, 7, 8, 9, 10], [8])])
def kauditlaw03_RecordGets.B11 : List Nat := [0, 0, 0, 6, 14, 31, 63, 127, 127, 0, 767, 2047]
theorem kauditlaw03_RecordGets.tab11 : rtab .any (opsOf Tryd.f10 11) = kauditlaw03_RecordGets.T11 := by kernel_rfl
theorem kauditlaw03_RecordGets.bits11 : waitsOk kauditlaw03_RecordGets.T11.2 kauditlaw03_RecordGets.B11 = true := by kernel_rfl
def kauditlaw03_RecordGets.T12 : Bool × List (List Nat × List Nat) := (true, [([], []), ([], []), ([], []), ([1, 2], [1, 2]), ([3], [3]), ([0, 4], [0, 4]), ([5], [5]), ([6], [6]), ([6], [6]), ([], []), ([9, 7, 5, 0, 1, 2, 3, 4, 5, 6, 7, 9], [7, 9]), ([8, 10, 0, 1, 2, 3, 4, 5, 6, 7, 8, 9, 10], [8])])
def kauditlaw03_RecordGets.B12 : List Nat := [0, 0, 0, 6, 14, 31, 63, 127, 127, 0, 767, 2047]
theorem kauditlaw03_RecordGets.tab12 : rtab .any (opsOf Tryd.f10 12) = kauditlaw03_RecordGets.T12 := by kernel_rfl
theorem kauditlaw03_RecordGets.bits12 : waitsOk kauditlaw03_RecordGets.T12.2 kauditlaw03_RecordGets.B12 = true := by kernel_rfl
set_option maxHeartbeats 8000000 in
set_option maxRecDepth 100000 in
theorem kauditlaw03_RecordGets.calls (k : Nat) (a0_0 : Int) (a0_1 : Int) (a0_2 : Int) (A0_3 : Option Addr) (c0_3 : Nat) (l0_3 : List (S31)) (a1 : ByteArray) (A2 : Option Addr) (c2 : Nat) (l2 : List Int) (r : Bool) (w : World) (hG : GT 2 w) (hrt : r = true) (hr0_3 : Kd.C k31 w A0_3 l0_3.length l0_3) (hc0_3 : l0_3.length ≤ c0_3) (hr2 : Kd.C (Kd.int .i64) w A2 l2.length l2) (hc2 : l2.length ≤ c2) (h : kauditlaw03_RecordGets.f k a0_0 a0_1 a0_2 l0_3 a1 l2 = some r) :
  Calls Tryd.prog 10 #[.agg #[.int .i64 a0_0, .int .i64 a0_1, .int .i64 a0_2, .slice A0_3 l0_3.length c0_3], .string a1, .slice A2 l2.length c2] w fun e w' => e = .returned (.bool r) ∧ Below w.heap.size w w' := by
 have hu43 := Tryd.underlying43
 have hu31 := Tryd.underlying31
 have HR0_3 := Aside0.mk hr0_3
 have HC0_3 := Aside0.mk hc0_3
 clear hr0_3 hc0_3
 have HR2 := Aside0.mk hr2
 have HC2 := Aside0.mk hc2
 clear hr2 hc2
 have HRT := Aside0.mk hrt
 clear hrt
 have HG := Aside0.mk hG
 clear hG
 have HB := Aside0.mk (Below.refl w.heap.size w)
 have H : ((kauditlaw03_light.f k a0_0 a0_1 a0_2 l0_3).bind fun t402 => (if t402 = true then ((kauditmake_New.f l2).bind fun bt404 => ((kauditmake_Src_Record.f k bt404.1 bt404.2).bind fun bt407 => (kauditlaw03_RecordGets.l0 k (([a1, (⟨#[97]⟩ : ByteArray), (⟨#[117, 105, 100]⟩ : ByteArray), (⟨#[120, 95, 49]⟩ : ByteArray)] : List ByteArray)) 0 a0_0 a0_1 a0_2 l0_3 bt407.1 bt407.2.1 bt407.2.2.1 bt407.2.2.2.1))) else ((kauditlaw03_awake.f).bind fun t403 => (some t403)))) = some r := h
 clear h
 replace H := Option.bind_eq_some_iff.mp H
 obtain ⟨t402, A40, H⟩ := H
 replace H : (if t402 = true then ((kauditmake_New.f l2).bind fun bt404 => ((kauditmake_Src_Record.f k bt404.1 bt404.2).bind fun bt407 => (kauditlaw03_RecordGets.l0 k (([a1, (⟨#[97]⟩ : ByteArray), (⟨#[117, 105, 100]⟩ : ByteArray), (⟨#[120, 95, 49]⟩ : ByteArray)] : List ByteArray)) 0 a0_0 a0_1 a0_2 l0_3 bt407.1 bt407.2.1 bt407.2.2.1 bt407.2.2.2.1))) else ((kauditlaw03_awake.f).bind fun t403 => (some t403))) = some r := H
 have A4 := Aside0.mk A40
 clear A40
 by_cases c5 : t402 = true
 ·subst c5
  have H1 : ((kauditmake_New.f l2).bind fun bt404 => ((kauditmake_Src_Record.f k bt404.1 bt404.2).bind fun bt407 => (kauditlaw03_RecordGets.l0 k (([a1, (⟨#[97]⟩ : ByteArray), (⟨#[117, 105, 100]⟩ : ByteArray), (⟨#[120, 95, 49]⟩ : ByteArray)] : List ByteArray)) 0 a0_0 a0_1 a0_2 l0_3 bt407.1 bt407.2.1 bt407.2.2.1 bt407.2.2.2.1))) = some r := by rw [if_pos rfl] at H; exact H
  clear H
  have H := H1
  clear H1
  replace H := Option.bind_eq_some_iff.mp H
  obtain ⟨⟨t404, t405⟩, A60, H⟩ := H
  replace H : ((kauditmake_Src_Record.f k t404 t405).bind fun bt407 => (kauditlaw03_RecordGets.l0 k (([a1, (⟨#[97]⟩ : ByteArray), (⟨#[117, 105, 100]⟩ : ByteArray), (⟨#[120, 95, 49]⟩ : ByteArray)] : List ByteArray)) 0 a0_0 a0_1 a0_2 l0_3 bt407.1 bt407.2.1 bt407.2.2.1 bt407.2.2.2.1)) = some r := H
  have A6 := Aside0.mk A60
  clear A60
  replace H := Option.bind_eq_some_iff.mp H
  obtain ⟨⟨t407, t408, t409, t410, t413⟩, A70, H⟩ := H
  replace H : (kauditlaw03_RecordGets.l0 k (([a1, (⟨#[97]⟩ : ByteArray), (⟨#[117, 105, 100]⟩ : ByteArray), (⟨#[120, 95, 49]⟩ : ByteArray)] : List ByteArray)) 0 a0_0 a0_1 a0_2 l0_3 t407 t408 t409 t410) = some r := H
  have A7 := Aside0.mk A70
  clear A70
  obtain ⟨y415, hy415⟩ : ∃ y_ : List ByteArray, y_ = (([a1, (⟨#[97]⟩ : ByteArray), (⟨#[117, 105, 100]⟩ : ByteArray), (⟨#[120, 95, 49]⟩ : ByteArray)] : List ByteArray)) := ⟨_, rfl⟩
  replace H : (kauditlaw03_RecordGets.l0 k y415 0 a0_0 a0_1 a0_2 l0_3 t407 t408 t409 t410) = some r := by first | (rw [hy415]; with_reducible exact H) | (have H2_ := (Option.bind_some _ _).symm.trans H; rw [hy415]; with_reducible exact H2_) | (have H2_ := (Option.bind_some _ _).symm.trans H; with_reducible exact H2_) | with_reducible exact H | (rw [hy415]; exact H) | exact H
  have Ny415 := Aside0.mk hy415
  clear hy415
  have H' := Aside0.mk H
  clear H
  go_enter Tryd.func10, Tryd.ntmps10
  go_wp2_with (first | ((with_reducible refine gate_dst (N := 3) rfl ?_); refine box_event ?hg (N := 3) ?hd (cs := #[.int .i64 a0_0, .int .i64 a0_1, .int .i64 a0_2, .slice A0_3 l0_3.length c0_3]) (t := 43) ?hr ?_; (case hd => rfl); (case hg => rfl); (case hr => first | (go_simp; done) | (go_simp; rfl)); intro gb401 hg w8 hbox hb; have n0_ := Aside0.mk (below_step (by repeat (first | (with_reducible first | exact HB.out | apply below_alloc | apply pw_below_drewN | apply below_drew1) | exact HB.out)) hb); have n1_ := Aside0.mk (hbox); have n2_ := Aside0.mk ((by rw [hg]; exact (below_size (by repeat (first | (with_reducible first | exact HB.out | apply below_alloc | apply pw_below_drewN | apply below_drew1) | exact HB.out))) : w.heap.size ≤ gb401)); have n3_ := Aside0.mk ((by rw [hg]; exact (below_size (by repeat (first | (with_reducible first | exact HB.out | apply below_alloc | apply pw_below_drewN | apply below_drew1) | exact HB.out))) : w.heap.size ≤ gb401)); clear HB; have HB := n0_; have BK401 := n1_; have GW401 := n2_; have GE401 := n3_; clear n0_ n1_ n2_ n3_; clear hb hbox hg; have hcz9_0 : w8.cell? ⟨gb401, 0, none⟩ = some (.int .i64 a0_0) := (blk_cell BK401.out 0).trans rfl; have hcz9_1 : w8.cell? ⟨gb401, 1, none⟩ = some (.int .i64 a0_1) := (blk_cell BK401.out 1).trans rfl; have hcz9_2 : w8.cell? ⟨gb401, 2, none⟩ = some (.int .i64 a0_2) := (blk_cell BK401.out 2).trans rfl; have hcz9_3 : w8.cell? ⟨gb401, 3, none⟩ = some (.slice A0_3 l0_3.length c0_3) := (blk_cell BK401.out 3).trans rfl; have hfz9_0 := blk_frozen BK401.out 0; have hfz9_1 := blk_frozen BK401.out 1; have hfz9_2 := blk_frozen BK401.out 2; have hfz9_3 := blk_frozen BK401.out 3) | ((with_reducible refine gate_callee (f := 31) rfl ?_); refine goesL_ (some 20) rfl rfl Tryd.func31 (by kernel_rfl) rfl #[.agg #[.int .i64 a0_0, .int .i64 a0_1, .int .i64 a0_2, .slice A0_3 l0_3.length c0_3]] rfl (by (try simp only [List.map_toArray, List.map_cons, List.map_nil]); first | done | rfl | (simp only [List.length_drop, List.length_take]; rfl)) ?_; (with_reducible refine (kauditlaw03_light.calls k a0_0 a0_1 a0_2 _ _ l0_3 true _ ?side1 ?side2 A4.out).mono ?_); (case side1 => repeat (first | exact (Kd.C_below HR0_3.out HB.out) | (with_reducible refine Kd.C_alloc ?_ _) | (with_reducible refine Kd.C_drewN ?_ _) | (with_reducible refine Kd.C_drew ?_))); (case side2 => exact HC0_3.out); rintro e w10 ⟨rfl, hb⟩; refine ⟨_, rfl, ?_⟩; have n0_ := Aside0.mk (blk_below (g := gb401) (o := .cells #[.int .i64 a0_0, .int .i64 a0_1, .int .i64 a0_2, .slice A0_3 l0_3.length c0_3] 43 (0, 0)) (by (with_reducible repeat (first | refine blk_drewN ?_ _ | refine blk_drew ?_ | refine blk_alloc ?_ _)); exact BK401.out) hb); have n1_ := Aside0.mk (below_step (by repeat (first | (with_reducible first | exact HB.out | apply below_alloc | apply pw_below_drewN | apply below_drew1 | refine below_set ?_ GE401.out) | exact HB.out)) hb); clear BK401; clear HB; have BK401 := n0_; have HB := n1_; clear n0_ n1_; (try clear hb); (try clear hb2); (try clear hk); (try clear hi)) | ((with_reducible refine gate_callee (f := 28) rfl ?_); refine goesL_ (some 24) rfl rfl Tryd.func28 (by kernel_rfl) rfl #[.slice A2 l2.length c2] rfl (by (try simp only [List.map_toArray, List.map_cons, List.map_nil]); first | done | rfl | (simp only [List.length_drop, List.length_take]; rfl)) ?_; (with_reducible refine (kauditmake_New.calls _ _ l2 t404 t405 w _ ?side1 ?side2 ?side3 A6.out).mono ?_); (case side1 => repeat (first | (with_reducible first | exact HB.out | apply below_alloc | apply pw_below_drewN | apply below_drew1 | refine below_set ?_ GE401.out) | exact HB.out)); (case side2 => exact HR2.out); (case side3 => exact HC2.out); rintro e w11 ⟨g406, rfl, hi, hb, hb2⟩; refine ⟨_, rfl, ?_⟩; have n0_ := Aside0.mk (blk_below (g := gb401) (o := .cells #[.int .i64 a0_0, .int .i64 a0_1, .int .i64 a0_2, .slice A0_3 l0_3.length c0_3] 43 (0, 0)) (by (with_reducible repeat (first | refine blk_drewN ?_ _ | refine blk_drew ?_ | refine blk_alloc ?_ _)); exact BK401.out) hb2); have n1_ := Aside0.mk (hb); have n2_ := Aside0.mk (hi); have n3_ := Aside0.mk (IsS103.ne_blk hi (blk_below (g := gb401) (o := .cells #[.int .i64 a0_0, .int .i64 a0_1, .int .i64 a0_2, .slice A0_3 l0_3.length c0_3] 43 (0, 0)) (by (with_reducible repeat (first | refine blk_drewN ?_ _ | refine blk_drew ?_ | refine blk_alloc ?_ _)); exact BK401.out) hb2) (by decide)); have n4_ := Aside0.mk (Ne.symm (IsS103.ne_blk hi (blk_below (g := gb401) (o := .cells #[.int .i64 a0_0, .int .i64 a0_1, .int .i64 a0_2, .slice A0_3 l0_3.length c0_3] 43 (0, 0)) (by (with_reducible repeat (first | refine blk_drewN ?_ _ | refine blk_drew ?_ | refine blk_alloc ?_ _)); exact BK401.out) hb2) (by decide))); clear BK401; clear HB; have BK401 := n0_; have HB := n1_; have HI406 := n2_; have NB406_401 := n3_; have NB401_406 := n4_; clear n0_ n1_ n2_ n3_ n4_; (try clear hb); (try clear hb2); (try clear hk); (try clear hi)) | ((with_reducible refine gate_callee (f := 34) rfl ?_); refine goesL_ (some 26) rfl rfl Tryd.func34 (by kernel_rfl) rfl #[.pointer (some ⟨g406, 0, none⟩)] rfl (by (try simp only [List.map_toArray, List.map_cons, List.map_nil]); first | done | rfl | (simp only [List.length_drop, List.length_take]; rfl)) ?_; (with_reducible refine (kauditmake_Src_Record.calls k g406 t404 t405 t407 t408 t409 t410 t413 w _ ?side1 ?side2 A7.out).mono ?_); (case side1 => repeat (first | (with_reducible first | exact HI406.out | apply IsS103.alloc | apply IsS103.drewN | apply IsS103.drew | apply IsS103.set_1 | refine IsS103.far ?_ NB406_401.out _) | exact HI406.out)); (case side2 => repeat (first | (with_reducible first | exact HB.out | apply below_alloc | apply pw_below_drewN | apply below_drew1 | refine below_set ?_ (IsS103.ge HI406.out) | refine below_set ?_ GE401.out) | exact HB.out)); rintro e w12 ⟨v411, rfl, ho0, hi, hb, hk⟩; refine ⟨_, rfl, ?_⟩; have n0_ := Aside0.mk (KeepBut.blk hk (g' := gb401) (o := .cells #[.int .i64 a0_0, .int .i64 a0_1, .int .i64 a0_2, .slice A0_3 l0_3.length c0_3] 43 (0, 0)) (by (with_reducible repeat (first | refine blk_drewN ?_ _ | refine blk_drew ?_ | refine blk_alloc ?_ _)); exact BK401.out) NB401_406.out (by simp)); have n1_ := Aside0.mk (Kd.R_lower ho0 (below_size (by repeat (first | (with_reducible first | exact HB.out | apply below_alloc | apply pw_below_drewN | apply below_drew1 | refine below_set ?_ (IsS103.ge HI406.out) | refine below_set ?_ GE401.out) | exact HB.out)))); have n2_ := Aside0.mk (hb); have n3_ := Aside0.mk (hi); clear BK401; clear HB; clear HI406; have BK401 := n0_; have HO412 := n1_; have HB := n2_; have HI406 := n3_; clear n0_ n1_ n2_ n3_; (try clear hb); (try clear hb2); (try clear hk); (try clear hi); (try clear ho0)) | ((with_reducible refine gate_dst (N := 8) rfl ?_); refine box_event ?hg (N := 8) ?hd (cs := #[.int .i64 0, .int .i64 0, .int .i64 0, .slice none 0 0]) (t := 43) ?hr ?_; (case hd => rfl); (case hg => rfl); (case hr => first | (go_simp; done) | (go_simp; rfl)); intro gb414 hg w13 hbox hb; have n0_ := Aside0.mk (Kd.R_below (by (with_reducible repeat (first | apply Kd.R_alloc | apply Kd.R_drewN | apply Kd.R_drew)); exact HO412.out) hb); have n1_ := Aside0.mk (blk_below (g := gb401) (o := .cells #[.int .i64 a0_0, .int .i64 a0_1, .int .i64 a0_2, .slice A0_3 l0_3.length c0_3] 43 (0, 0)) (by (with_reducible repeat (first | refine blk_drewN ?_ _ | refine blk_drew ?_ | refine blk_alloc ?_ _)); exact BK401.out) hb); have n2_ := Aside0.mk (IsS103.below (by repeat (first | (with_reducible first | exact HI406.out | apply IsS103.alloc | apply IsS103.drewN | apply IsS103.drew | apply IsS103.set_1 | refine IsS103.far ?_ NB406_401.out _) | exact HI406.out)) hb); have n3_ := Aside0.mk (below_step (by repeat (first | (with_reducible first | exact HB.out | apply below_alloc | apply pw_below_drewN | apply below_drew1 | refine below_set ?_ (IsS103.ge HI406.out) | refine below_set ?_ GE401.out) | exact HB.out)) hb); have n4_ := Aside0.mk (hbox); have n5_ := Aside0.mk ((by rw [hg]; exact (below_size (by repeat (first | (with_reducible first | exact HB.out | apply below_alloc | apply pw_below_drewN | apply below_drew1 | refine below_set ?_ (IsS103.ge HI406.out) | refine below_set ?_ GE401.out) | exact HB.out))) : w.heap.size ≤ gb414)); have n6_ := Aside0.mk ((by rw [hg]; exact (below_size (by repeat (first | (with_reducible first | exact HB.out | apply below_alloc | apply pw_below_drewN | apply below_drew1 | refine below_set ?_ (IsS103.ge HI406.out) | refine below_set ?_ GE401.out) | exact HB.out))) : w.heap.size ≤ gb414)); have n7_ := Aside0.mk ((by rw [hg]; exact Nat.ne_of_lt (blk_lt (g := gb401) (o := .cells #[.int .i64 a0_0, .int .i64 a0_1, .int .i64 a0_2, .slice A0_3 l0_3.length c0_3] 43 (0, 0)) (by (with_reducible repeat (first | refine blk_drewN ?_ _ | refine blk_drew ?_ | refine blk_alloc ?_ _)); exact BK401.out)) : gb401 ≠ gb414)); have n8_ := Aside0.mk ((by rw [hg]; exact Nat.ne_of_gt (blk_lt (g := gb401) (o := .cells #[.int .i64 a0_0, .int .i64 a0_1, .int .i64 a0_2, .slice A0_3 l0_3.length c0_3] 43 (0, 0)) (by (with_reducible repeat (first | refine blk_drewN ?_ _ | refine blk_drew ?_ | refine blk_alloc ?_ _)); exact BK401.out)) : gb414 ≠ gb401)); have n9_ := Aside0.mk ((by rw [hg]; exact Nat.ne_of_lt (IsS103.lt (show IsS103 w _ g406 t404 t413 from by repeat (first | (with_reducible first | exact HI406.out | apply IsS103.alloc | apply IsS103.drewN | apply IsS103.drew | apply IsS103.set_1 | refine IsS103.far ?_ NB406_401.out _) | exact HI406.out))) : g406 ≠ gb414)); have n10_ := Aside0.mk ((by rw [hg]; exact Nat.ne_of_gt (IsS103.lt (show IsS103 w _ g406 t404 t413 from by repeat (first | (with_reducible first | exact HI406.out | apply IsS103.alloc | apply IsS103.drewN | apply IsS103.drew | apply IsS103.set_1 | refine IsS103.far ?_ NB406_401.out _) | exact HI406.out))) : gb414 ≠ g406)); clear HO412; clear BK401; clear HI406; clear HB; have HO412 := n0_; have BK401 := n1_; have HI406 := n2_; have HB := n3_; have BK414 := n4_; have GW414 := n5_; have GE414 := n6_; have NB401_414 := n7_; have NB414_401 := n8_; have NB406_414 := n9_; have NB414_406 := n10_; clear n0_ n1_ n2_ n3_ n4_ n5_ n6_ n7_ n8_ n9_ n10_; clear hb hbox hg; have hnb14 := NB414_401.out; have hnc14 := NB401_414.out; have hnb15 := NB414_406.out; have hnc15 := NB406_414.out; have hcz16_0 : w13.cell? ⟨gb414, 0, none⟩ = some (.int .i64 0) := (blk_cell BK414.out 0).trans rfl; have hcz16_1 : w13.cell? ⟨gb414, 1, none⟩ = some (.int .i64 0) := (blk_cell BK414.out 1).trans rfl; have hcz16_2 : w13.cell? ⟨gb414, 2, none⟩ = some (.int .i64 0) := (blk_cell BK414.out 2).trans rfl; have hcz16_3 : w13.cell? ⟨gb414, 3, none⟩ = some (.slice none 0 0) := (blk_cell BK414.out 3).trans rfl; have hfz16_0 := blk_frozen BK414.out 0; have hfz16_1 := blk_frozen BK414.out 1; have hfz16_2 := blk_frozen BK414.out 2; have hfz16_3 := blk_frozen BK414.out 3; obtain ⟨Ao17, co17, eo17⟩ := Kd.R_slice HO412.out; subst eo17) | ((with_reducible refine gate_dst (N := 28) rfl ?_); refine Kd.R_lit Kd.string _ 9 ?hg (N := 28) ?hd (xs := ([a1, (⟨#[97]⟩ : ByteArray), (⟨#[117, 105, 100]⟩ : ByteArray), (⟨#[120, 95, 49]⟩ : ByteArray)] : List ByteArray)) (inner := [.string a1, .string (⟨#[97]⟩ : ByteArray), .string (⟨#[117, 105, 100]⟩ : ByteArray), .string (⟨#[120, 95, 49]⟩ : ByteArray)]) (ok := fun _ => True) (okp := fun _ => True) ?hr ?hp (fun _ hk => hk) trivial (Below.refl _ _) (Nat.le_refl _) (by simp) ?_; (case hd => rfl); (case hg => rfl); (case hr => first | (go_simp; done) | (go_simp; rfl)); (case hp => exact (Reps.one (show Kd.M Kd.string _ _ _ a1 [.string a1] from rfl) (Reps.one (show Kd.M Kd.string _ _ _ (⟨#[97]⟩ : ByteArray) [.string (⟨#[97]⟩ : ByteArray)] from rfl) (Reps.one (show Kd.M Kd.string _ _ _ (⟨#[117, 105, 100]⟩ : ByteArray) [.string (⟨#[117, 105, 100]⟩ : ByteArray)] from rfl) (Reps.one (show Kd.M Kd.string _ _ _ (⟨#[120, 95, 49]⟩ : ByteArray) [.string (⟨#[120, 95, 49]⟩ : ByteArray)] from rfl) (Reps.none _ _)))))); intro v416 w18 ho19 hb hg_ hnew_; clear hg_ hnew_; (first | rw [← Ny415.out] at ho19 | (simp only [Int.reduceToNat] at ho19; rw [← Ny415.out] at ho19)); have n0_ := Aside0.mk (Kd.R_below (by (with_reducible repeat (first | apply Kd.R_alloc | apply Kd.R_drewN | apply Kd.R_drew)); exact (Kd.R_mono (Kd.R_far (p := ⟨gb414, 3, none⟩) (Kd.R_far (p := ⟨gb414, 2, none⟩) (Kd.R_far (p := ⟨gb414, 1, none⟩) (Kd.R_far (p := ⟨gb414, 0, none⟩) (Kd.R_types HO412.out BK414.out (by decide)) (fun _ hk => hk.2) (.int .i64 t407)) (fun _ hk => hk.2) (.int .i64 t408)) (fun _ hk => hk.2) (.int .i64 t409)) (fun _ hk => hk.2) (.slice Ao17 t410.length co17)) (fun _ h_ => h_.1))) hb); have n1_ := Aside0.mk (Kd.R_lower ho19 (below_size (by repeat (first | (with_reducible first | exact HB.out | apply below_alloc | apply pw_below_drewN | apply below_drew1 | refine below_set ?_ (IsS103.ge HI406.out) | refine below_set ?_ GE401.out | refine below_set ?_ GE414.out) | exact HB.out)))); have n2_ := Aside0.mk (blk_below (g := gb401) (o := .cells #[.int .i64 a0_0, .int .i64 a0_1, .int .i64 a0_2, .slice A0_3 l0_3.length c0_3] 43 (0, 0)) (by (with_reducible repeat (first | refine blk_drewN ?_ _ | refine blk_drew ?_ | refine blk_alloc ?_ _)); refine blk_far ?_ NB401_414.out _; (with_reducible repeat (first | refine blk_drewN ?_ _ | refine blk_drew ?_ | refine blk_alloc ?_ _)); refine blk_far ?_ NB401_414.out _; (with_reducible repeat (first | refine blk_drewN ?_ _ | refine blk_drew ?_ | refine blk_alloc ?_ _)); refine blk_far ?_ NB401_414.out _; (with_reducible repeat (first | refine blk_drewN ?_ _ | refine blk_drew ?_ | refine blk_alloc ?_ _)); refine blk_far ?_ NB401_414.out _; (with_reducible repeat (first | refine blk_drewN ?_ _ | refine blk_drew ?_ | refine blk_alloc ?_ _)); exact BK401.out) hb); have n3_ := Aside0.mk (IsS103.below (show IsS103 w ((((w13.setCell ⟨gb414, 0, none⟩ (.int .i64 t407)).setCell ⟨gb414, 1, none⟩ (.int .i64 t408)).setCell ⟨gb414, 2, none⟩ (.int .i64 t409)).setCell ⟨gb414, 3, none⟩ (.slice Ao17 t410.length co17)) g406 t404 t413 from by repeat (first | (with_reducible first | exact HI406.out | apply IsS103.alloc | apply IsS103.drewN | apply IsS103.drew | apply IsS103.set_1 | refine IsS103.far ?_ NB406_401.out _ | refine IsS103.far ?_ NB406_414.out _) | exact HI406.out)) hb); have n4_ := Aside0.mk (blk_below (g := gb414) (o := .cells #[.int .i64 t407, .int .i64 t408, .int .i64 t409, .slice Ao17 t410.length co17] 43 (0, 0)) (by (with_reducible repeat (first | refine blk_drewN ?_ _ | refine blk_drew ?_ | refine blk_alloc ?_ _)); refine blk_put (cs := #[.int .i64 t407, .int .i64 t408, .int .i64 t409, .slice none 0 0]) ?_ 3 _ rfl; (with_reducible repeat (first | refine blk_drewN ?_ _ | refine blk_drew ?_ | refine blk_alloc ?_ _)); refine blk_put (cs := #[.int .i64 t407, .int .i64 t408, .int .i64 0, .slice none 0 0]) ?_ 2 _ rfl; (with_reducible repeat (first | refine blk_drewN ?_ _ | refine blk_drew ?_ | refine blk_alloc ?_ _)); refine blk_put (cs := #[.int .i64 t407, .int .i64 0, .int .i64 0, .slice none 0 0]) ?_ 1 _ rfl; (with_reducible repeat (first | refine blk_drewN ?_ _ | refine blk_drew ?_ | refine blk_alloc ?_ _)); refine blk_put (cs := #[.int .i64 0, .int .i64 0, .int .i64 0, .slice none 0 0]) ?_ 0 _ rfl; (with_reducible repeat (first | refine blk_drewN ?_ _ | refine blk_drew ?_ | refine blk_alloc ?_ _)); exact BK414.out) hb); have n5_ := Aside0.mk (below_step (by repeat (first | (with_reducible first | exact HB.out | apply below_alloc | apply pw_below_drewN | apply below_drew1 | refine below_set ?_ (IsS103.ge HI406.out) | refine below_set ?_ GE401.out | refine below_set ?_ GE414.out) | exact HB.out)) hb); clear HO412; clear BK401; clear HI406; clear BK414; clear HB; have HO412 := n0_; have HO417 := n1_; have BK401 := n2_; have HI406 := n3_; have BK414 := n4_; have HB := n5_; clear n0_ n1_ n2_ n3_ n4_ n5_; clear hb ho19))
  go_loopg [10] k (fun kq v10 w' => ∃ (x10_1 : Int), v10 = .int .i64 x10_1 ∧ Aside0 (kauditlaw03_RecordGets.l0 kq y415 x10_1 a0_0 a0_1 a0_2 l0_3 t407 t408 t409 t410 = some r) ∧ Aside0 (kq ≤ k) ∧ Aside0 (Kd.R Kd.string 9 w' w.heap.size (fun _ => True) v416 y415) ∧ Aside0 (Kd.R k31 31 w' w.heap.size (fun _ => True) (.slice Ao17 t410.length co17) t410) ∧ Aside0 (w'.heap[gb401]? = some (.cells #[.int .i64 a0_0, .int .i64 a0_1, .int .i64 a0_2, (.slice A0_3 l0_3.length c0_3)] 43 (0, 0))) ∧ Aside0 (w'.heap[gb414]? = some (.cells #[.int .i64 t407, .int .i64 t408, .int .i64 t409, (.slice Ao17 t410.length co17)] 43 (0, 0))) ∧ Aside0 (Below w.heap.size w w'))
  case atStart => exact ⟨(0), (by first | rfl | (simp; done) | (simp [*]; done)), H', ⟨Nat.le_refl _⟩, ⟨by (with_reducible repeat (first | apply Kd.R_alloc | apply Kd.R_drewN | apply Kd.R_drew)); exact HO417.out⟩, ⟨by (with_reducible repeat (first | apply Kd.R_alloc | apply Kd.R_drewN | apply Kd.R_drew)); exact HO412.out⟩, ⟨by (with_reducible repeat (first | refine blk_drewN ?_ _ | refine blk_drew ?_ | refine blk_alloc ?_ _)); exact BK401.out⟩, ⟨by (with_reducible repeat (first | refine blk_drewN ?_ _ | refine blk_drew ?_ | refine blk_alloc ?_ _)); exact BK414.out⟩, ⟨by repeat (first | (with_reducible first | exact HB.out | apply below_alloc | apply pw_below_drewN | apply below_drew1 | refine below_set ?_ (IsS103.ge HI406.out) | refine below_set ?_ GE401.out | refine below_set ?_ GE414.out) | exact HB.out)⟩⟩
  case round =>
   clear H'
   try clear c1
   try clear c2
   try clear p2
   try clear c3
   try clear c5
   try clear c10
   try clear c14
   try clear c15
   try clear hcz16_0
   try clear hcz16_1
   try clear hcz16_2
   try clear hcz16_3
   try clear hcz9_0
   try clear hcz9_1
   try clear hcz9_2
   try clear hcz9_3
   try clear hfz16_0
   try clear hfz16_1
   try clear hfz16_2
   try clear hfz16_3
   try clear hfz9_0
   try clear hfz9_1
   try clear hfz9_2
   try clear hfz9_3
   obtain ⟨x10_1, rfl, HA, HK1, HO_9, HO_415003, BK401, BK414, HB⟩ := hrel
   cases gk with
   | zero => exact absurd HA.out (by simp [kauditlaw03_RecordGets.l0])
   | succ k1 =>
    have H := HA.out
    clear HA
    simp only [kauditlaw03_RecordGets.l0] at H
    by_cases c20 : x10_1 < (y415.length : Int)
    ·rw [if_pos c20] at H
     have c20b0 : decide (x10_1 < (y415.length : Int)) = true := decide_eq_true c20
     clear c20
     by_cases c21 : 0 ≤ x10_1
     ·rw [if_pos c21] at H
      have c21b0 : decide (0 ≤ x10_1) = true := decide_eq_true c21
      clear c21
      replace H := Option.bind_eq_some_iff.mp H
      obtain ⟨⟨t420, t421, t422, t423, t424⟩, A220, H⟩ := H
      replace H : ((kauditref03_Get.f k1 a0_0 a0_1 a0_2 l0_3 (rdOf ByteArray.empty y415 x10_1)).bind fun bt427 => ((record_Get.f k1 t407 t408 t409 t410 (rdOf ByteArray.empty y415 x10_1)).bind fun bt434 => ((kauditref03_Get.f k1 t407 t408 t409 t410 (rdOf ByteArray.empty y415 x10_1)).bind fun bt441 => (if (t424 != bt427.2.2.2.2) = true then (some false) else (if (!(t420.toList == bt427.1.toList) || (!(t421 == bt427.2.1) || (!(t422 == bt427.2.2.1) || (!(t423.toList == bt427.2.2.2.1.toList))))) = true then (some false) else (if (bt434.2.2.2.2 != bt441.2.2.2.2) = true then (some false) else (if (!(bt434.1.toList == bt441.1.toList) || (!(bt434.2.1 == bt441.2.1) || (!(bt434.2.2.1 == bt441.2.2.1) || (!(bt434.2.2.2.1.toList == bt441.2.2.2.1.toList))))) = true then (some false) else (kauditlaw03_RecordGets.l0 k1 y415 (wrap64 (x10_1 + 1)) a0_0 a0_1 a0_2 l0_3 t407 t408 t409 t410)))))))) = some r := H
      have A22 := Aside0.mk A220
      clear A220
      replace H := Option.bind_eq_some_iff.mp H
      obtain ⟨⟨t427, t428, t429, t430, t431⟩, A230, H⟩ := H
      replace H : ((record_Get.f k1 t407 t408 t409 t410 (rdOf ByteArray.empty y415 x10_1)).bind fun bt434 => ((kauditref03_Get.f k1 t407 t408 t409 t410 (rdOf ByteArray.empty y415 x10_1)).bind fun bt441 => (if (t424 != t431) = true then (some false) else (if (!(t420.toList == t427.toList) || (!(t421 == t428) || (!(t422 == t429) || (!(t423.toList == t430.toList))))) = true then (some false) else (if (bt434.2.2.2.2 != bt441.2.2.2.2) = true then (some false) else (if (!(bt434.1.toList == bt441.1.toList) || (!(bt434.2.1 == bt441.2.1) || (!(bt434.2.2.1 == bt441.2.2.1) || (!(bt434.2.2.2.1.toList == bt441.2.2.2.1.toList))))) = true then (some false) else (kauditlaw03_RecordGets.l0 k1 y415 (wrap64 (x10_1 + 1)) a0_0 a0_1 a0_2 l0_3 t407 t408 t409 t410))))))) = some r := H
      have A23 := Aside0.mk A230
      clear A230
      replace H := Option.bind_eq_some_iff.mp H
      obtain ⟨⟨t434, t435, t436, t437, t438⟩, A240, H⟩ := H
      replace H : ((kauditref03_Get.f k1 t407 t408 t409 t410 (rdOf ByteArray.empty y415 x10_1)).bind fun bt441 => (if (t424 != t431) = true then (some false) else (if (!(t420.toList == t427.toList) || (!(t421 == t428) || (!(t422 == t429) || (!(t423.toList == t430.toList))))) = true then (some false) else (if (t438 != bt441.2.2.2.2) = true then (some false) else (if (!(t434.toList == bt441.1.toList) || (!(t435 == bt441.2.1) || (!(t436 == bt441.2.2.1) || (!(t437.toList == bt441.2.2.2.1.toList))))) = true then (some false) else (kauditlaw03_RecordGets.l0 k1 y415 (wrap64 (x10_1 + 1)) a0_0 a0_1 a0_2 l0_3 t407 t408 t409 t410)))))) = some r := H
      have A24 := Aside0.mk A240
      clear A240
      replace H := Option.bind_eq_some_iff.mp H
      obtain ⟨⟨t441, t442, t443, t444, t445⟩, A250, H⟩ := H
      replace H : (if (t424 != t431) = true then (some false) else (if (!(t420.toList == t427.toList) || (!(t421 == t428) || (!(t422 == t429) || (!(t423.toList == t430.toList))))) = true then (some false) else (if (t438 != t445) = true then (some false) else (if (!(t434.toList == t441.toList) || (!(t435 == t442) || (!(t436 == t443) || (!(t437.toList == t444.toList))))) = true then (some false) else (kauditlaw03_RecordGets.l0 k1 y415 (wrap64 (x10_1 + 1)) a0_0 a0_1 a0_2 l0_3 t407 t408 t409 t410))))) = some r := H
      have A25 := Aside0.mk A250
      clear A250
      by_cases c26 : (t424 != t431) = true
      ·rw [if_pos c26] at H
       have c26b0 : (t424 != t431) = true := c26
       (try (have c26b1 : decide (t424 = t431) = false := by simpa using c26))
       (try (have c26b2 : (t424 == t431) = false := by simpa using c26))
       (try (have c26b3 : ¬ (t424 = t431) := by simpa using c26))
       clear c26
       exact absurd (Option.some.inj H) (by rw [HRT.out]; decide)
      ·rw [if_neg c26] at H
       have c26b0 : (t424 != t431) = false := by simpa using c26
       (try (have c26b1 : decide (t424 = t431) = true := by simpa using c26))
       (try (have c26b2 : (t424 == t431) = true := by simpa using c26))
       clear c26
       by_cases c27 : (!(t420.toList == t427.toList) || (!(t421 == t428) || (!(t422 == t429) || (!(t423.toList == t430.toList))))) = true
       ·rw [if_pos c27] at H
        have c27b0 : (!(t420.toList == t427.toList) || (!(t421 == t428) || (!(t422 == t429) || (!(t423.toList == t430.toList))))) = true := c27
        clear c27
        exact absurd (Option.some.inj H) (by rw [HRT.out]; decide)
       ·rw [if_neg c27] at H
        have c27b0 : (!(t420.toList == t427.toList) || (!(t421 == t428) || (!(t422 == t429) || (!(t423.toList == t430.toList))))) = false := by simpa using c27
        clear c27
        by_cases c28 : (t438 != t445) = true
        ·rw [if_pos c28] at H
         have c28b0 : (t438 != t445) = true := c28
         (try (have c28b1 : decide (t438 = t445) = false := by simpa using c28))
         (try (have c28b2 : (t438 == t445) = false := by simpa using c28))
         (try (have c28b3 : ¬ (t438 = t445) := by simpa using c28))
         clear c28
         exact absurd (Option.some.inj H) (by rw [HRT.out]; decide)
        ·rw [if_neg c28] at H
         have c28b0 : (t438 != t445) = false := by simpa using c28
         (try (have c28b1 : decide (t438 = t445) = true := by simpa using c28))
         (try (have c28b2 : (t438 == t445) = true := by simpa using c28))
         clear c28
         by_cases c29 : (!(t434.toList == t441.toList) || (!(t435 == t442) || (!(t436 == t443) || (!(t437.toList == t444.toList))))) = true
         ·rw [if_pos c29] at H
          have c29b0 : (!(t434.toList == t441.toList) || (!(t435 == t442) || (!(t436 == t443) || (!(t437.toList == t444.toList))))) = true := c29
          clear c29
          exact absurd (Option.some.inj H) (by rw [HRT.out]; decide)
         ·rw [if_neg c29] at H
          have c29b0 : (!(t434.toList == t441.toList) || (!(t435 == t442) || (!(t436 == t443) || (!(t437.toList == t444.toList))))) = false := by simpa using c29
          clear c29
          have H' := Aside0.mk H
          clear H
          obtain ⟨Ao30, co30, eo30⟩ := Kd.R_slice HO_9.out
          subst eo30
          try go_wp2
          have n0_ := Aside0.mk (Kd.R_drew HO_9.out)
          have n1_ := Aside0.mk (Kd.R_drew HO_415003.out)
          have n2_ := Aside0.mk (blk_drew BK401.out)
          have n3_ := Aside0.mk (blk_drew BK414.out)
          have n4_ := Aside0.mk (below_drew1 HB.out)
          clear HO_9
          clear HO_415003
          clear BK401
          clear BK414
          clear HB
          have HO_9 := n0_
          have HO_415003 := n1_
          have BK401 := n2_
          have BK414 := n3_
          have HB := n4_
          clear n0_ n1_ n2_ n3_ n4_
          have p419 : 0 ≤ (x10_1 : Int) := of_decide_eq_true (by first | (with_reducible assumption) | assumption)
          have q419 : x10_1 < (y415.length : Int) := of_decide_eq_true (by first | (with_reducible assumption) | assumption)
          obtain ⟨ad419, e419, hx419_0⟩ := Kd.at_string (Kd.R_reads' HO_9.out).2.2 x10_1 p419 q419
          cases e419
          replace p419 := eq_true p419
          replace q419 := eq_true q419
          refine start_ (n := 12) (S := fun w' => w'.cell? ⟨gb401, 0, none⟩ = some (.int .i64 a0_0) ∧ w'.cell? ⟨gb401, 1, none⟩ = some (.int .i64 a0_1) ∧ w'.cell? ⟨gb401, 2, none⟩ = some (.int .i64 a0_2) ∧ w'.cell? ⟨gb401, 3, none⟩ = some (.slice A0_3 l0_3.length c0_3) ∧ w'.cell? (ad419.add (x10_1).toNat) = some (.string (rdOf ByteArray.empty y415 x10_1))) (ds := []) #[false, false, false, false, false, false, false, false, false, false, false, false] (by kernel_rfl) rfl rfl ⟨(blk_cell BK401.out 0).trans rfl, (blk_cell BK401.out 1).trans rfl, (blk_cell BK401.out 2).trans rfl, (blk_cell BK401.out 3).trans rfl, hx419_0⟩ (fun hHeld => ?_); refine with_tabW kauditlaw03_RecordGets.tab9 kauditlaw03_RecordGets.bits9 (fun HT_ HW_ => ?_)
          generalize wr.drew = w31 at HO_9 HO_415003 BK401 BK414 HB hx419_0 hHeld ⊢
          refine pure_ (i := 1) (N := some 37) (v := ?_) (a' := ?_) #[false, true, false, false, false, false, false, false, false, false, false, false] rfl rfl (any_of HT_.out (by kernel_rfl)) (fun _ _ _ h => h) (Or.inl ⟨by rfl, ?_⟩) ?_ ?_
          rotate_left
          ·intro w'
           go_simp
           with_reducible rfl
          rotate_left
          ·simp only [Act.put, List.setIfInBounds_toArray, List.set_cons_zero, List.set_cons_succ, i64_w, i32_w]
           rfl
          refine pure_ (i := 2) (N := some 38) (v := ?_) (a' := ?_) #[false, true, true, false, false, false, false, false, false, false, false, false] rfl rfl (any_of HT_.out (by kernel_rfl)) (fun _ _ _ h => h) (Or.inl ⟨by rfl, ?_⟩) ?_ ?_
          rotate_left
          ·intro w'
           go_simp
           with_reducible rfl
          rotate_left
          ·simp only [Act.put, List.setIfInBounds_toArray, List.set_cons_zero, List.set_cons_succ, i64_w, i32_w]
           rfl
          refine pure_ (i := 3) (N := some 39) (v := ?_) (a' := ?_) #[false, true, true, true, false, false, false, false, false, false, false, false] rfl rfl (any_of HT_.out (by kernel_rfl)) (fun _ _ _ h => h) (Or.inl ⟨by rfl, ?_⟩) ?_ ?_
          rotate_left
          ·intro w'
           go_simp
           with_reducible rfl
          rotate_left
          ·simp only [Act.put, List.setIfInBounds_toArray, List.set_cons_zero, List.set_cons_succ, i64_w, i32_w]
           rfl
          refine take_ (i := 0) (N := some 36) (v := ?_) (a' := ?_) #[true, true, true, true, false, false, false, false, false, false, false, false] rfl rfl (take_ofW HT_.out HW_.out (by kernel_rfl)) (fun _ _ _ h => h) (Or.inl ⟨by rfl, ?_⟩) hHeld ?_ ?_
          rotate_left
          ·rintro w' ⟨s0, s1, s2, s3, s4⟩
           go_simp
           with_reducible rfl
          rotate_left
          ·simp only [Act.put, List.setIfInBounds_toArray, List.set_cons_zero, List.set_cons_succ, i64_w, i32_w]
           rfl
          refine take_ (i := 4) (N := some 40) (v := ?_) (a' := ?_) #[true, true, true, true, true, false, false, false, false, false, false, false] rfl rfl (take_ofW HT_.out HW_.out (by kernel_rfl)) (fun _ _ _ h => h) (Or.inl ⟨by rfl, ?_⟩) hHeld ?_ ?_
          rotate_left
          ·rintro w' ⟨s0, s1, s2, s3, s4⟩
           go_simp
           with_reducible rfl
          rotate_left
          ·simp only [Act.put, List.setIfInBounds_toArray, List.set_cons_zero, List.set_cons_succ, i64_w, i32_w]
           rfl
          refine join_ (σ := Nat) 2 #[true, true, true, true, true, true, true, true, true, true, false, false] (fun s_ => [(41, .tuple #[.agg #[.string t420, .int .i64 t421, .int .i64 t422, .string t423], .bool t424]), (11, .pointer (some ⟨s_, 0, none⟩)), (35, .tuple #[.agg #[.string t420, .int .i64 t421, .int .i64 t422, .string t423], .bool t424]), (42, .agg #[.string t420, .int .i64 t421, .int .i64 t422, .string t423]), (43, .bool t424)]) (fun s_ w' => (w'.cell? ⟨gb401, 0, none⟩ = some (.int .i64 a0_0) ∧ w'.cell? ⟨gb401, 1, none⟩ = some (.int .i64 a0_1) ∧ w'.cell? ⟨gb401, 2, none⟩ = some (.int .i64 a0_2) ∧ w'.cell? ⟨gb401, 3, none⟩ = some (.slice A0_3 l0_3.length c0_3) ∧ w'.cell? (ad419.add (x10_1).toNat) = some (.string (rdOf ByteArray.empty y415 x10_1))) ∧ (Kd.R k31 31 w' w.heap.size (fun k_ => k_ ≠ s_) (.slice Ao17 t410.length co17) t410) ∧ (Kd.R Kd.string 9 w' w.heap.size (fun _ => True) (.slice (some ad419) y415.length co30) y415) ∧ (w'.heap[gb401]? = some (.cells #[.int .i64 a0_0, .int .i64 a0_1, .int .i64 a0_2, .slice A0_3 l0_3.length c0_3] 43 (0, 0))) ∧ (w'.heap[gb414]? = some (.cells #[.int .i64 t407, .int .i64 t408, .int .i64 t409, .slice Ao17 t410.length co17] 43 (0, 0))) ∧ (w'.heap[s_]? = some (.cells #[.string (⟨#[]⟩ : ByteArray), .int .i64 0, .int .i64 0, .string (⟨#[]⟩ : ByteArray)] 31 (0, 0))) ∧ (w.heap.size ≤ s_) ∧ (w.heap.size ≤ s_) ∧ (gb401 ≠ s_) ∧ (s_ ≠ gb401) ∧ (gb414 ≠ s_) ∧ (s_ ≠ gb414) ∧ (Below w.heap.size w w')) ?_ ?_
          rotate_left
          ·intro hCont
           refine two_ (i := 5) (j := 9) (Ni := some 41) (Nj := some 11) #[true, true, true, true, true, true, false, false, false, false, false, false] #[true, true, true, true, true, false, false, false, false, true, false, false] rfl rfl rfl rfl (two_of HT_.out (by kernel_rfl)) (by decide) (by decide) (fun K hK => ?_) (fun K hK => ?_)
           ·skip
            refine goes_ Tryd.func37 (by kernel_rfl) rfl #[.agg #[.int .i64 a0_0, .int .i64 a0_1, .int .i64 a0_2, .slice A0_3 l0_3.length c0_3], .string (rdOf ByteArray.empty y415 x10_1)] (by rfl) rfl rfl (by (try simp only [List.map_toArray, List.map_cons, List.map_nil]); first | done | rfl | (simp only [List.length_drop, List.length_take]; rfl)) ?_
            with_reducible refine (record_Get.calls k1 a0_0 a0_1 a0_2 _ _ l0_3 (rdOf ByteArray.empty y415 x10_1) t420 t421 t422 t423 t424 _ ?side1 ?side2 A22.out).mono ?_
            (case side1 => repeat (first | exact (Kd.C_below HR0_3.out HB.out) | (with_reducible refine Kd.C_alloc ?_ _) | (with_reducible refine Kd.C_drewN ?_ _) | (with_reducible refine Kd.C_drew ?_)))
            (case side2 => exact HC0_3.out)
            rintro e w32 ⟨rfl, hb⟩
            have HS4_ := (hb.cell (World.block_lt_of_cell? _ _ (hHeld.2.2.2.2))).trans (hHeld.2.2.2.2)
            refine ⟨_, rfl, ?_⟩
            have n0_ := Aside0.mk (Kd.R_below (by (with_reducible repeat (first | apply Kd.R_alloc | apply Kd.R_drewN | apply Kd.R_drew)); exact HO_9.out) hb)
            have n1_ := Aside0.mk (Kd.R_below (by (with_reducible repeat (first | apply Kd.R_alloc | apply Kd.R_drewN | apply Kd.R_drew)); exact HO_415003.out) hb)
            have n2_ := Aside0.mk (blk_below (g := gb401) (o := .cells #[.int .i64 a0_0, .int .i64 a0_1, .int .i64 a0_2, .slice A0_3 l0_3.length c0_3] 43 (0, 0)) (by (with_reducible repeat (first | refine blk_drewN ?_ _ | refine blk_drew ?_ | refine blk_alloc ?_ _)); exact BK401.out) hb)
            have n3_ := Aside0.mk (blk_below (g := gb414) (o := .cells #[.int .i64 t407, .int .i64 t408, .int .i64 t409, .slice Ao17 t410.length co17] 43 (0, 0)) (by (with_reducible repeat (first | refine blk_drewN ?_ _ | refine blk_drew ?_ | refine blk_alloc ?_ _)); exact BK414.out) hb)
            have n4_ := Aside0.mk (below_step (by repeat (first | (with_reducible first | exact HB.out | apply below_alloc | apply pw_below_drewN | apply below_drew1 | refine below_set ?_ GE401.out | refine below_set ?_ GE414.out) | exact HB.out)) hb)
            clear HO_9
            clear HO_415003
            clear BK401
            clear BK414
            clear HB
            have HO_9 := n0_
            have HO_415003 := n1_
            have BK401 := n2_
            have BK414 := n3_
            have HB := n4_
            clear n0_ n1_ n2_ n3_ n4_
            (try clear hb)
            (try clear hb2)
            (try clear hk)
            (try clear hi)
            refine hK.out _ _ ⟨(blk_cell BK401.out 0).trans rfl, (blk_cell BK401.out 1).trans rfl, (blk_cell BK401.out 2).trans rfl, (blk_cell BK401.out 3).trans rfl, HS4_⟩ (fun hHeld => ?_)
            clear hK K
            refine norm_ (a' := ?_) ?_ ?_
            rotate_left
            ·show Act.put _ (some 41) _ = _
             simp only [Act.put, List.setIfInBounds_toArray, List.set_cons_zero, List.set_cons_succ, i64_w, i32_w]
             rfl
            refine pure_ (i := 6) (N := some 35) (v := ?_) (a' := ?_) #[true, true, true, true, true, true, true, false, false, false, false, false] rfl rfl (any_of HT_.out (by kernel_rfl)) (fun _ _ _ h => h) (Or.inl ⟨by rfl, ?_⟩) ?_ ?_
            rotate_left
            ·intro w'
             go_simp
             with_reducible rfl
            rotate_left
            ·simp only [Act.put, List.setIfInBounds_toArray, List.set_cons_zero, List.set_cons_succ, i64_w, i32_w]
             rfl
            refine pure_ (i := 7) (N := some 42) (v := ?_) (a' := ?_) #[true, true, true, true, true, true, true, true, false, false, false, false] rfl rfl (any_of HT_.out (by kernel_rfl)) (fun _ _ _ h => h) (Or.inl ⟨by rfl, ?_⟩) ?_ ?_
            rotate_left
            ·intro w'
             go_simp
             with_reducible rfl
            rotate_left
            ·simp only [Act.put, List.setIfInBounds_toArray, List.set_cons_zero, List.set_cons_succ, i64_w, i32_w]
             rfl
            refine pure_ (i := 8) (N := some 43) (v := ?_) (a' := ?_) #[true, true, true, true, true, true, true, true, true, false, false, false] rfl rfl (any_of HT_.out (by kernel_rfl)) (fun _ _ _ h => h) (Or.inl ⟨by rfl, ?_⟩) ?_ ?_
            rotate_left
            ·intro w'
             go_simp
             with_reducible rfl
            rotate_left
            ·simp only [Act.put, List.setIfInBounds_toArray, List.set_cons_zero, List.set_cons_succ, i64_w, i32_w]
             rfl
            refine one_ (i := 9) (N := some 11) #[true, true, true, true, true, true, true, true, true, true, false, false] rfl rfl (one_of HT_.out (by kernel_rfl)) (by decide) (fun K hK => ?_)
            refine box_step ?hg (N := 11) ?hd (cs := #[.string (⟨#[]⟩ : ByteArray), .int .i64 0, .int .i64 0, .string (⟨#[]⟩ : ByteArray)]) (t := 31) ?hr ?_; (case hd => rfl); (case hg => rfl); (case hr => first | (go_simp; done) | (go_simp; rfl))
            intro gb425 hg w33 hbox hb
            have HS4_ := (hb.cell (World.block_lt_of_cell? _ _ (hHeld.2.2.2.2))).trans (hHeld.2.2.2.2)
            have n0_ := Aside0.mk (Kd.R_below (by (with_reducible repeat (first | apply Kd.R_alloc | apply Kd.R_drewN | apply Kd.R_drew)); exact HO_9.out) hb)
            have n1_ := Aside0.mk (Kd.R_below (Kd.R_elderB (by (with_reducible repeat (first | apply Kd.R_alloc | apply Kd.R_drewN | apply Kd.R_drew)); exact HO_415003.out) gb425 (Nat.le_of_eq hg.symm)) hb)
            have n2_ := Aside0.mk (blk_below (g := gb401) (o := .cells #[.int .i64 a0_0, .int .i64 a0_1, .int .i64 a0_2, .slice A0_3 l0_3.length c0_3] 43 (0, 0)) (by (with_reducible repeat (first | refine blk_drewN ?_ _ | refine blk_drew ?_ | refine blk_alloc ?_ _)); exact BK401.out) hb)
            have n3_ := Aside0.mk (blk_below (g := gb414) (o := .cells #[.int .i64 t407, .int .i64 t408, .int .i64 t409, .slice Ao17 t410.length co17] 43 (0, 0)) (by (with_reducible repeat (first | refine blk_drewN ?_ _ | refine blk_drew ?_ | refine blk_alloc ?_ _)); exact BK414.out) hb)
            have n4_ := Aside0.mk (below_step (by repeat (first | (with_reducible first | exact HB.out | apply below_alloc | apply pw_below_drewN | apply below_drew1 | refine below_set ?_ GE401.out | refine below_set ?_ GE414.out) | exact HB.out)) hb)
            have n5_ := Aside0.mk (hbox)
            have n6_ := Aside0.mk ((by rw [hg]; exact (below_size (by repeat (first | (with_reducible first | exact HB.out | apply below_alloc | apply pw_below_drewN | apply below_drew1 | refine below_set ?_ GE401.out | refine below_set ?_ GE414.out) | exact HB.out))) : w.heap.size ≤ gb425))
            have n7_ := Aside0.mk ((by rw [hg]; exact (below_size (by repeat (first | (with_reducible first | exact HB.out | apply below_alloc | apply pw_below_drewN | apply below_drew1 | refine below_set ?_ GE401.out | refine below_set ?_ GE414.out) | exact HB.out))) : w.heap.size ≤ gb425))
            have n8_ := Aside0.mk ((by rw [hg]; exact Nat.ne_of_lt (blk_lt (g := gb401) (o := .cells #[.int .i64 a0_0, .int .i64 a0_1, .int .i64 a0_2, .slice A0_3 l0_3.length c0_3] 43 (0, 0)) (by (with_reducible repeat (first | refine blk_drewN ?_ _ | refine blk_drew ?_ | refine blk_alloc ?_ _)); exact BK401.out)) : gb401 ≠ gb425))
            have n9_ := Aside0.mk ((by rw [hg]; exact Nat.ne_of_gt (blk_lt (g := gb401) (o := .cells #[.int .i64 a0_0, .int .i64 a0_1, .int .i64 a0_2, .slice A0_3 l0_3.length c0_3] 43 (0, 0)) (by (with_reducible repeat (first | refine blk_drewN ?_ _ | refine blk_drew ?_ | refine blk_alloc ?_ _)); exact BK401.out)) : gb425 ≠ gb401))
            have n10_ := Aside0.mk ((by rw [hg]; exact Nat.ne_of_lt (blk_lt (g := gb414) (o := .cells #[.int .i64 t407, .int .i64 t408, .int .i64 t409, .slice Ao17 t410.length co17] 43 (0, 0)) (by (with_reducible repeat (first | refine blk_drewN ?_ _ | refine blk_drew ?_ | refine blk_alloc ?_ _)); exact BK414.out)) : gb414 ≠ gb425))
            have n11_ := Aside0.mk ((by rw [hg]; exact Nat.ne_of_gt (blk_lt (g := gb414) (o := .cells #[.int .i64 t407, .int .i64 t408, .int .i64 t409, .slice Ao17 t410.length co17] 43 (0, 0)) (by (with_reducible repeat (first | refine blk_drewN ?_ _ | refine blk_drew ?_ | refine blk_alloc ?_ _)); exact BK414.out)) : gb425 ≠ gb414))
            clear HO_9
            clear HO_415003
            clear BK401
            clear BK414
            clear HB
            have HO_9 := n0_
            have HO_415003 := n1_
            have BK401 := n2_
            have BK414 := n3_
            have HB := n4_
            have BK425 := n5_
            have GW425 := n6_
            have GE425 := n7_
            have NB401_425 := n8_
            have NB425_401 := n9_
            have NB414_425 := n10_
            have NB425_414 := n11_
            clear n0_ n1_ n2_ n3_ n4_ n5_ n6_ n7_ n8_ n9_ n10_ n11_
            clear hb hbox hg
            refine hK.out _ _ ⟨(blk_cell BK401.out 0).trans rfl, (blk_cell BK401.out 1).trans rfl, (blk_cell BK401.out 2).trans rfl, (blk_cell BK401.out 3).trans rfl, HS4_⟩ (fun hHeld => ?_)
            clear hK K
            refine norm_ (a' := ?_) ?_ ?_
            rotate_left
            ·show Act.put _ (some 11) _ = _
             simp only [Act.put, List.setIfInBounds_toArray, List.set_cons_zero, List.set_cons_succ, i64_w, i32_w]
             rfl
            exact norm_ (by simp only [putAll, Act.put, List.setIfInBounds_toArray, List.set_cons_zero, List.set_cons_succ]) (hCont (gb425) _ ⟨hHeld, (by (with_reducible repeat (first | apply Kd.R_alloc | apply Kd.R_drewN | apply Kd.R_drew)); exact Kd.R_mono HO_415003.out (fun _ hk => hk.2)), (by (with_reducible repeat (first | apply Kd.R_alloc | apply Kd.R_drewN | apply Kd.R_drew)); exact HO_9.out), (by (with_reducible repeat (first | refine blk_drewN ?_ _ | refine blk_drew ?_ | refine blk_alloc ?_ _)); exact BK401.out), (by (with_reducible repeat (first | refine blk_drewN ?_ _ | refine blk_drew ?_ | refine blk_alloc ?_ _)); exact BK414.out), (by (with_reducible repeat (first | refine blk_drewN ?_ _ | refine blk_drew ?_ | refine blk_alloc ?_ _)); exact BK425.out), GW425.out, GE425.out, NB401_425.out, NB425_401.out, NB414_425.out, NB425_414.out, (by repeat (first | (with_reducible first | exact HB.out | apply below_alloc | apply pw_below_drewN | apply below_drew1 | refine below_set ?_ GE401.out | refine below_set ?_ GE414.out | refine below_set ?_ GE425.out) | exact HB.out))⟩)
           ·skip
            refine box_step ?hg (N := 11) ?hd (cs := #[.string (⟨#[]⟩ : ByteArray), .int .i64 0, .int .i64 0, .string (⟨#[]⟩ : ByteArray)]) (t := 31) ?hr ?_; (case hd => rfl); (case hg => rfl); (case hr => first | (go_simp; done) | (go_simp; rfl))
            intro gb425 hg w32 hbox hb
            have HS4_ := (hb.cell (World.block_lt_of_cell? _ _ (hHeld.2.2.2.2))).trans (hHeld.2.2.2.2)
            have n0_ := Aside0.mk (Kd.R_below (by (with_reducible repeat (first | apply Kd.R_alloc | apply Kd.R_drewN | apply Kd.R_drew)); exact HO_9.out) hb)
            have n1_ := Aside0.mk (Kd.R_below (Kd.R_elderB (by (with_reducible repeat (first | apply Kd.R_alloc | apply Kd.R_drewN | apply Kd.R_drew)); exact HO_415003.out) gb425 (Nat.le_of_eq hg.symm)) hb)
            have n2_ := Aside0.mk (blk_below (g := gb401) (o := .cells #[.int .i64 a0_0, .int .i64 a0_1, .int .i64 a0_2, .slice A0_3 l0_3.length c0_3] 43 (0, 0)) (by (with_reducible repeat (first | refine blk_drewN ?_ _ | refine blk_drew ?_ | refine blk_alloc ?_ _)); exact BK401.out) hb)
            have n3_ := Aside0.mk (blk_below (g := gb414) (o := .cells #[.int .i64 t407, .int .i64 t408, .int .i64 t409, .slice Ao17 t410.length co17] 43 (0, 0)) (by (with_reducible repeat (first | refine blk_drewN ?_ _ | refine blk_drew ?_ | refine blk_alloc ?_ _)); exact BK414.out) hb)
            have n4_ := Aside0.mk (below_step (by repeat (first | (with_reducible first | exact HB.out | apply below_alloc | apply pw_below_drewN | apply below_drew1 | refine below_set ?_ GE401.out | refine below_set ?_ GE414.out) | exact HB.out)) hb)
            have n5_ := Aside0.mk (hbox)
            have n6_ := Aside0.mk ((by rw [hg]; exact (below_size (by repeat (first | (with_reducible first | exact HB.out | apply below_alloc | apply pw_below_drewN | apply below_drew1 | refine below_set ?_ GE401.out | refine below_set ?_ GE414.out) | exact HB.out))) : w.heap.size ≤ gb425))
            have n7_ := Aside0.mk ((by rw [hg]; exact (below_size (by repeat (first | (with_reducible first | exact HB.out | apply below_alloc | apply pw_below_drewN | apply below_drew1 | refine below_set ?_ GE401.out | refine below_set ?_ GE414.out) | exact HB.out))) : w.heap.size ≤ gb425))
            have n8_ := Aside0.mk ((by rw [hg]; exact Nat.ne_of_lt (blk_lt (g := gb401) (o := .cells #[.int .i64 a0_0, .int .i64 a0_1, .int .i64 a0_2, .slice A0_3 l0_3.length c0_3] 43 (0, 0)) (by (with_reducible repeat (first | refine blk_drewN ?_ _ | refine blk_drew ?_ | refine blk_alloc ?_ _)); exact BK401.out)) : gb401 ≠ gb425))
            have n9_ := Aside0.mk ((by rw [hg]; exact Nat.ne_of_gt (blk_lt (g := gb401) (o := .cells #[.int .i64 a0_0, .int .i64 a0_1, .int .i64 a0_2, .slice A0_3 l0_3.length c0_3] 43 (0, 0)) (by (with_reducible repeat (first | refine blk_drewN ?_ _ | refine blk_drew ?_ | refine blk_alloc ?_ _)); exact BK401.out)) : gb425 ≠ gb401))
            have n10_ := Aside0.mk ((by rw [hg]; exact Nat.ne_of_lt (blk_lt (g := gb414) (o := .cells #[.int .i64 t407, .int .i64 t408, .int .i64 t409, .slice Ao17 t410.length co17] 43 (0, 0)) (by (with_reducible repeat (first | refine blk_drewN ?_ _ | refine blk_drew ?_ | refine blk_alloc ?_ _)); exact BK414.out)) : gb414 ≠ gb425))
            have n11_ := Aside0.mk ((by rw [hg]; exact Nat.ne_of_gt (blk_lt (g := gb414) (o := .cells #[.int .i64 t407, .int .i64 t408, .int .i64 t409, .slice Ao17 t410.length co17] 43 (0, 0)) (by (with_reducible repeat (first | refine blk_drewN ?_ _ | refine blk_drew ?_ | refine blk_alloc ?_ _)); exact BK414.out)) : gb425 ≠ gb414))
            clear HO_9
            clear HO_415003
            clear BK401
            clear BK414
            clear HB
            have HO_9 := n0_
            have HO_415003 := n1_
            have BK401 := n2_
            have BK414 := n3_
            have HB := n4_
            have BK425 := n5_
            have GW425 := n6_
            have GE425 := n7_
            have NB401_425 := n8_
            have NB425_401 := n9_
            have NB414_425 := n10_
            have NB425_414 := n11_
            clear n0_ n1_ n2_ n3_ n4_ n5_ n6_ n7_ n8_ n9_ n10_ n11_
            clear hb hbox hg
            refine hK.out _ _ ⟨(blk_cell BK401.out 0).trans rfl, (blk_cell BK401.out 1).trans rfl, (blk_cell BK401.out 2).trans rfl, (blk_cell BK401.out 3).trans rfl, HS4_⟩ (fun hHeld => ?_)
            clear hK K
            refine norm_ (a' := ?_) ?_ ?_
            rotate_left
            ·show Act.put _ (some 11) _ = _
             simp only [Act.put, List.setIfInBounds_toArray, List.set_cons_zero, List.set_cons_succ, i64_w, i32_w]
             rfl
            refine one_ (i := 5) (N := some 41) #[true, true, true, true, true, true, false, false, false, true, false, false] rfl rfl (one_of HT_.out (by kernel_rfl)) (by decide) (fun K hK => ?_)
            refine goes_ Tryd.func37 (by kernel_rfl) rfl #[.agg #[.int .i64 a0_0, .int .i64 a0_1, .int .i64 a0_2, .slice A0_3 l0_3.length c0_3], .string (rdOf ByteArray.empty y415 x10_1)] (by rfl) rfl rfl (by (try simp only [List.map_toArray, List.map_cons, List.map_nil]); first | done | rfl | (simp only [List.length_drop, List.length_take]; rfl)) ?_
            with_reducible refine (record_Get.calls k1 a0_0 a0_1 a0_2 _ _ l0_3 (rdOf ByteArray.empty y415 x10_1) t420 t421 t422 t423 t424 _ ?side1 ?side2 A22.out).mono ?_
            (case side1 => repeat (first | exact (Kd.C_below HR0_3.out HB.out) | (with_reducible refine Kd.C_alloc ?_ _) | (with_reducible refine Kd.C_drewN ?_ _) | (with_reducible refine Kd.C_drew ?_)))
            (case side2 => exact HC0_3.out)
            rintro e w33 ⟨rfl, hb⟩
            have HS4_ := (hb.cell (World.block_lt_of_cell? _ _ (hHeld.2.2.2.2))).trans (hHeld.2.2.2.2)
            refine ⟨_, rfl, ?_⟩
            have n0_ := Aside0.mk (Kd.R_below (by (with_reducible repeat (first | apply Kd.R_alloc | apply Kd.R_drewN | apply Kd.R_drew)); exact HO_9.out) hb)
            have n1_ := Aside0.mk (Kd.R_below (by (with_reducible repeat (first | apply Kd.R_alloc | apply Kd.R_drewN | apply Kd.R_drew)); exact HO_415003.out) hb)
            have n2_ := Aside0.mk (blk_below (g := gb401) (o := .cells #[.int .i64 a0_0, .int .i64 a0_1, .int .i64 a0_2, .slice A0_3 l0_3.length c0_3] 43 (0, 0)) (by (with_reducible repeat (first | refine blk_drewN ?_ _ | refine blk_drew ?_ | refine blk_alloc ?_ _)); exact BK401.out) hb)
            have n3_ := Aside0.mk (blk_below (g := gb414) (o := .cells #[.int .i64 t407, .int .i64 t408, .int .i64 t409, .slice Ao17 t410.length co17] 43 (0, 0)) (by (with_reducible repeat (first | refine blk_drewN ?_ _ | refine blk_drew ?_ | refine blk_alloc ?_ _)); exact BK414.out) hb)
            have n4_ := Aside0.mk (blk_below (g := gb425) (o := .cells #[.string (⟨#[]⟩ : ByteArray), .int .i64 0, .int .i64 0, .string (⟨#[]⟩ : ByteArray)] 31 (0, 0)) (by (with_reducible repeat (first | refine blk_drewN ?_ _ | refine blk_drew ?_ | refine blk_alloc ?_ _)); exact BK425.out) hb)
            have n5_ := Aside0.mk (below_step (by repeat (first | (with_reducible first | exact HB.out | apply below_alloc | apply pw_below_drewN | apply below_drew1 | refine below_set ?_ GE401.out | refine below_set ?_ GE414.out | refine below_set ?_ GE425.out) | exact HB.out)) hb)
            clear HO_9
            clear HO_415003
            clear BK401
            clear BK414
            clear BK425
            clear HB
            have HO_9 := n0_
            have HO_415003 := n1_
            have BK401 := n2_
            have BK414 := n3_
            have BK425 := n4_
            have HB := n5_
            clear n0_ n1_ n2_ n3_ n4_ n5_
            (try clear hb)
            (try clear hb2)
            (try clear hk)
            (try clear hi)
            refine hK.out _ _ ⟨(blk_cell BK401.out 0).trans rfl, (blk_cell BK401.out 1).trans rfl, (blk_cell BK401.out 2).trans rfl, (blk_cell BK401.out 3).trans rfl, HS4_⟩ (fun hHeld => ?_)
            clear hK K
            refine norm_ (a' := ?_) ?_ ?_
            rotate_left
            ·show Act.put _ (some 41) _ = _
             simp only [Act.put, List.setIfInBounds_toArray, List.set_cons_zero, List.set_cons_succ, i64_w, i32_w]
             rfl
            refine pure_ (i := 6) (N := some 35) (v := ?_) (a' := ?_) #[true, true, true, true, true, true, true, false, false, true, false, false] rfl rfl (any_of HT_.out (by kernel_rfl)) (fun _ _ _ h => h) (Or.inl ⟨by rfl, ?_⟩) ?_ ?_
            rotate_left
            ·intro w'
             go_simp
             with_reducible rfl
            rotate_left
            ·simp only [Act.put, List.setIfInBounds_toArray, List.set_cons_zero, List.set_cons_succ, i64_w, i32_w]
             rfl
            refine pure_ (i := 7) (N := some 42) (v := ?_) (a' := ?_) #[true, true, true, true, true, true, true, true, false, true, false, false] rfl rfl (any_of HT_.out (by kernel_rfl)) (fun _ _ _ h => h) (Or.inl ⟨by rfl, ?_⟩) ?_ ?_
            rotate_left
            ·intro w'
             go_simp
             with_reducible rfl
            rotate_left
            ·simp only [Act.put, List.setIfInBounds_toArray, List.set_cons_zero, List.set_cons_succ, i64_w, i32_w]
             rfl
            refine pure_ (i := 8) (N := some 43) (v := ?_) (a' := ?_) #[true, true, true, true, true, true, true, true, true, true, false, false] rfl rfl (any_of HT_.out (by kernel_rfl)) (fun _ _ _ h => h) (Or.inl ⟨by rfl, ?_⟩) ?_ ?_
            rotate_left
            ·intro w'
             go_simp
             with_reducible rfl
            rotate_left
            ·simp only [Act.put, List.setIfInBounds_toArray, List.set_cons_zero, List.set_cons_succ, i64_w, i32_w]
             rfl
            exact norm_ (by simp only [putAll, Act.put, List.setIfInBounds_toArray, List.set_cons_zero, List.set_cons_succ]) (hCont (gb425) _ ⟨hHeld, (by (with_reducible repeat (first | apply Kd.R_alloc | apply Kd.R_drewN | apply Kd.R_drew)); exact Kd.R_mono HO_415003.out (fun _ hk => hk.2)), (by (with_reducible repeat (first | apply Kd.R_alloc | apply Kd.R_drewN | apply Kd.R_drew)); exact HO_9.out), (by (with_reducible repeat (first | refine blk_drewN ?_ _ | refine blk_drew ?_ | refine blk_alloc ?_ _)); exact BK401.out), (by (with_reducible repeat (first | refine blk_drewN ?_ _ | refine blk_drew ?_ | refine blk_alloc ?_ _)); exact BK414.out), (by (with_reducible repeat (first | refine blk_drewN ?_ _ | refine blk_drew ?_ | refine blk_alloc ?_ _)); exact BK425.out), GW425.out, GE425.out, NB401_425.out, NB425_401.out, NB414_425.out, NB425_414.out, (by repeat (first | (with_reducible first | exact HB.out | apply below_alloc | apply pw_below_drewN | apply below_drew1 | refine below_set ?_ GE401.out | refine below_set ?_ GE414.out | refine below_set ?_ GE425.out) | exact HB.out))⟩)
          rintro gb425 w34 ⟨hS_, h0_, h1_, h2_, h3_, h4_, h5_, h6_, h7_, h8_, h9_, h10_, h11_⟩
          have n0_ : Aside0 (Kd.R k31 31 w34 w.heap.size (fun k_ => k_ ≠ gb425) (.slice Ao17 t410.length co17) t410) := ⟨h0_⟩
          have n1_ : Aside0 (Kd.R Kd.string 9 w34 w.heap.size (fun _ => True) (.slice (some ad419) y415.length co30) y415) := ⟨h1_⟩
          have n2_ : Aside0 (w34.heap[gb401]? = some (.cells #[.int .i64 a0_0, .int .i64 a0_1, .int .i64 a0_2, .slice A0_3 l0_3.length c0_3] 43 (0, 0))) := ⟨h2_⟩
          have n3_ : Aside0 (w34.heap[gb414]? = some (.cells #[.int .i64 t407, .int .i64 t408, .int .i64 t409, .slice Ao17 t410.length co17] 43 (0, 0))) := ⟨h3_⟩
          have n4_ : Aside0 (w34.heap[gb425]? = some (.cells #[.string (⟨#[]⟩ : ByteArray), .int .i64 0, .int .i64 0, .string (⟨#[]⟩ : ByteArray)] 31 (0, 0))) := ⟨h4_⟩
          have n5_ : Aside0 (w.heap.size ≤ gb425) := ⟨h5_⟩
          have n6_ : Aside0 (w.heap.size ≤ gb425) := ⟨h6_⟩
          have n7_ : Aside0 (gb401 ≠ gb425) := ⟨h7_⟩
          have n8_ : Aside0 (gb425 ≠ gb401) := ⟨h8_⟩
          have n9_ : Aside0 (gb414 ≠ gb425) := ⟨h9_⟩
          have n10_ : Aside0 (gb425 ≠ gb414) := ⟨h10_⟩
          have n11_ : Aside0 (Below w.heap.size w w34) := ⟨h11_⟩
          clear HO_9
          clear HO_415003
          clear BK401
          clear BK414
          clear HB
          clear h0_ h1_ h2_ h3_ h4_ h5_ h6_ h7_ h8_ h9_ h10_ h11_
          have HO_415003 := n0_
          have HO_9 := n1_
          have BK401 := n2_
          have BK414 := n3_
          have BK425 := n4_
          have GW425 := n5_
          have GE425 := n6_
          have NB401_425 := n7_
          have NB425_401 := n8_
          have NB414_425 := n9_
          have NB425_414 := n10_
          have HB := n11_
          clear n0_ n1_ n2_ n3_ n4_ n5_ n6_ n7_ n8_ n9_ n10_ n11_
          have hHeld : w34.cell? ⟨gb401, 0, none⟩ = some (.int .i64 a0_0) ∧ w34.cell? ⟨gb401, 1, none⟩ = some (.int .i64 a0_1) ∧ w34.cell? ⟨gb401, 2, none⟩ = some (.int .i64 a0_2) ∧ w34.cell? ⟨gb401, 3, none⟩ = some (.slice A0_3 l0_3.length c0_3) ∧ w34.cell? (ad419.add (x10_1).toNat) = some (.string (rdOf ByteArray.empty y415 x10_1)) := hS_
          refine norm_ (a' := ?_) ?_ ?_
          rotate_left
          ·simp only [putAll, Act.put, List.setIfInBounds_toArray, List.set_cons_zero, List.set_cons_succ]
           rfl
          refine one_ (i := 10) (N := none) #[true, true, true, true, true, true, true, true, true, true, true, false] rfl rfl (one_of HT_.out (by kernel_rfl)) (by decide) (fun K hK => ?_)
          have hs35 : w34.cell? ⟨gb425, 0, none⟩ = some (.string (⟨#[]⟩ : ByteArray)) := (blk_cell BK425.out 0).trans rfl
          have hfs35 := blk_frozen BK425.out 0
          have hns35_0 := NB401_425.out
          have hns35_1 := NB414_425.out
          have hms35_0 := NB425_401.out
          have hms35_1 := NB425_414.out
          have hs36 : w34.cell? ⟨gb425, 1, none⟩ = some (.int .i64 0) := (blk_cell BK425.out 1).trans rfl
          have hfs36 := blk_frozen BK425.out 1
          have hns36_0 := NB401_425.out
          have hns36_1 := NB414_425.out
          have hms36_0 := NB425_401.out
          have hms36_1 := NB425_414.out
          have hs37 : w34.cell? ⟨gb425, 2, none⟩ = some (.int .i64 0) := (blk_cell BK425.out 2).trans rfl
          have hfs37 := blk_frozen BK425.out 2
          have hns37_0 := NB401_425.out
          have hns37_1 := NB414_425.out
          have hms37_0 := NB425_401.out
          have hms37_1 := NB425_414.out
          have hs38 : w34.cell? ⟨gb425, 3, none⟩ = some (.string (⟨#[]⟩ : ByteArray)) := (blk_cell BK425.out 3).trans rfl
          have hfs38 := blk_frozen BK425.out 3
          have hns38_0 := NB401_425.out
          have hns38_1 := NB414_425.out
          have hms38_0 := NB425_401.out
          have hms38_1 := NB425_414.out
          refine skip_ (w1 := ?_) (by rfl) rfl ?_ ?_
          rotate_left
          ·go_simp
           rfl
          refine hK.out _ _ ⟨((cell_far (p := ⟨gb425, _, none⟩) NB401_425.out _).trans (((cell_far (p := ⟨gb425, _, none⟩) NB401_425.out _).trans (((cell_far (p := ⟨gb425, _, none⟩) NB401_425.out _).trans (((cell_far (p := ⟨gb425, _, none⟩) NB401_425.out _).trans (hHeld.1)))))))), ((cell_far (p := ⟨gb425, _, none⟩) NB401_425.out _).trans (((cell_far (p := ⟨gb425, _, none⟩) NB401_425.out _).trans (((cell_far (p := ⟨gb425, _, none⟩) NB401_425.out _).trans (((cell_far (p := ⟨gb425, _, none⟩) NB401_425.out _).trans (hHeld.2.1)))))))), ((cell_far (p := ⟨gb425, _, none⟩) NB401_425.out _).trans (((cell_far (p := ⟨gb425, _, none⟩) NB401_425.out _).trans (((cell_far (p := ⟨gb425, _, none⟩) NB401_425.out _).trans (((cell_far (p := ⟨gb425, _, none⟩) NB401_425.out _).trans (hHeld.2.2.1)))))))), ((cell_far (p := ⟨gb425, _, none⟩) NB401_425.out _).trans (((cell_far (p := ⟨gb425, _, none⟩) NB401_425.out _).trans (((cell_far (p := ⟨gb425, _, none⟩) NB401_425.out _).trans (((cell_far (p := ⟨gb425, _, none⟩) NB401_425.out _).trans (hHeld.2.2.2.1)))))))), ((cell_far (p := ⟨gb425, _, none⟩) (by first | exact Kd.own_blk (Kd.R_ne HO_9.out BK425.out (by decide)) | (rw [add_block]; exact Kd.own_blk (Kd.R_ne HO_9.out BK425.out (by decide))) | (show (Addr.add _ _).block ≠ _; rw [add_block]; exact Kd.own_blk (Kd.R_ne HO_9.out BK425.out (by decide))) | (dsimp only; exact Kd.own_blk (Kd.R_ne HO_9.out BK425.out (by decide)))) _).trans (((cell_far (p := ⟨gb425, _, none⟩) (by first | exact Kd.own_blk (Kd.R_ne HO_9.out BK425.out (by decide)) | (rw [add_block]; exact Kd.own_blk (Kd.R_ne HO_9.out BK425.out (by decide))) | (show (Addr.add _ _).block ≠ _; rw [add_block]; exact Kd.own_blk (Kd.R_ne HO_9.out BK425.out (by decide))) | (dsimp only; exact Kd.own_blk (Kd.R_ne HO_9.out BK425.out (by decide)))) _).trans (((cell_far (p := ⟨gb425, _, none⟩) (by first | exact Kd.own_blk (Kd.R_ne HO_9.out BK425.out (by decide)) | (rw [add_block]; exact Kd.own_blk (Kd.R_ne HO_9.out BK425.out (by decide))) | (show (Addr.add _ _).block ≠ _; rw [add_block]; exact Kd.own_blk (Kd.R_ne HO_9.out BK425.out (by decide))) | (dsimp only; exact Kd.own_blk (Kd.R_ne HO_9.out BK425.out (by decide)))) _).trans (((cell_far (p := ⟨gb425, _, none⟩) (by first | exact Kd.own_blk (Kd.R_ne HO_9.out BK425.out (by decide)) | (rw [add_block]; exact Kd.own_blk (Kd.R_ne HO_9.out BK425.out (by decide))) | (show (Addr.add _ _).block ≠ _; rw [add_block]; exact Kd.own_blk (Kd.R_ne HO_9.out BK425.out (by decide))) | (dsimp only; exact Kd.own_blk (Kd.R_ne HO_9.out BK425.out (by decide)))) _).trans (hHeld.2.2.2.2))))))))⟩ (fun hHeld => ?_)
          clear hK K
          refine pure_ (i := 11) (N := some 12) (v := ?_) (a' := ?_) #[true, true, true, true, true, true, true, true, true, true, true, true] rfl rfl (any_of HT_.out (by kernel_rfl)) (fun _ _ _ h => h) (Or.inl ⟨by rfl, ?_⟩) ?_ ?_
          rotate_left
          ·intro w'
           go_simp
           with_reducible rfl
          rotate_left
          ·simp only [Act.put, List.setIfInBounds_toArray, List.set_cons_zero, List.set_cons_succ, i64_w, i32_w]
           rfl
          refine done_ (done_of HT_.out (by kernel_rfl)) ?_
          try go_wp2
          have n0_ : Aside0 (Kd.R Kd.string 9 ((((w34.setCell ⟨gb425, 0, none⟩ (.string t420)).setCell ⟨gb425, 1, none⟩ (.int .i64 t421)).setCell ⟨gb425, 2, none⟩ (.int .i64 t422)).setCell ⟨gb425, 3, none⟩ (.string t423)) w.heap.size (fun _ => True) (.slice (some ad419) y415.length co30) y415) := ⟨by (with_reducible repeat (first | apply Kd.R_alloc | apply Kd.R_drewN | apply Kd.R_drew)); exact Kd.R_mono (Kd.R_far (p := ⟨gb425, 3, none⟩) (Kd.R_far (p := ⟨gb425, 2, none⟩) (Kd.R_far (p := ⟨gb425, 1, none⟩) (Kd.R_far (p := ⟨gb425, 0, none⟩) (Kd.R_types HO_9.out BK425.out (by decide)) (fun _ hk => hk.2) (.string t420)) (fun _ hk => hk.2) (.int .i64 t421)) (fun _ hk => hk.2) (.int .i64 t422)) (fun _ hk => hk.2) (.string t423)) (fun _ hk => trivial)⟩
          have n1_ : Aside0 (Kd.R k31 31 ((((w34.setCell ⟨gb425, 0, none⟩ (.string t420)).setCell ⟨gb425, 1, none⟩ (.int .i64 t421)).setCell ⟨gb425, 2, none⟩ (.int .i64 t422)).setCell ⟨gb425, 3, none⟩ (.string t423)) w.heap.size (fun k_ => k_ ≠ gb425) (.slice Ao17 t410.length co17) t410) := ⟨by (with_reducible repeat (first | apply Kd.R_alloc | apply Kd.R_drewN | apply Kd.R_drew)); exact Kd.R_mono (Kd.R_far (p := ⟨gb425, 3, none⟩) (Kd.R_far (p := ⟨gb425, 2, none⟩) (Kd.R_far (p := ⟨gb425, 1, none⟩) (Kd.R_far (p := ⟨gb425, 0, none⟩) (Kd.R_mono HO_415003.out (fun k_ hk => (⟨hk, hk⟩ : _ ∧ k_ ≠ gb425))) (fun _ hk => hk.2) (.string t420)) (fun _ hk => hk.2) (.int .i64 t421)) (fun _ hk => hk.2) (.int .i64 t422)) (fun _ hk => hk.2) (.string t423)) (fun _ hk => hk.1)⟩
          have n2_ : Aside0 (((((w34.setCell ⟨gb425, 0, none⟩ (.string t420)).setCell ⟨gb425, 1, none⟩ (.int .i64 t421)).setCell ⟨gb425, 2, none⟩ (.int .i64 t422)).setCell ⟨gb425, 3, none⟩ (.string t423)).heap[gb401]? = some (.cells #[.int .i64 a0_0, .int .i64 a0_1, .int .i64 a0_2, .slice A0_3 l0_3.length c0_3] 43 (0, 0))) := ⟨by (with_reducible repeat (first | refine blk_drewN ?_ _ | refine blk_drew ?_ | refine blk_alloc ?_ _)); refine blk_far ?_ NB401_425.out _; (with_reducible repeat (first | refine blk_drewN ?_ _ | refine blk_drew ?_ | refine blk_alloc ?_ _)); refine blk_far ?_ NB401_425.out _; (with_reducible repeat (first | refine blk_drewN ?_ _ | refine blk_drew ?_ | refine blk_alloc ?_ _)); refine blk_far ?_ NB401_425.out _; (with_reducible repeat (first | refine blk_drewN ?_ _ | refine blk_drew ?_ | refine blk_alloc ?_ _)); refine blk_far ?_ NB401_425.out _; (with_reducible repeat (first | refine blk_drewN ?_ _ | refine blk_drew ?_ | refine blk_alloc ?_ _)); exact BK401.out⟩
          have n3_ : Aside0 (((((w34.setCell ⟨gb425, 0, none⟩ (.string t420)).setCell ⟨gb425, 1, none⟩ (.int .i64 t421)).setCell ⟨gb425, 2, none⟩ (.int .i64 t422)).setCell ⟨gb425, 3, none⟩ (.string t423)).heap[gb414]? = some (.cells #[.int .i64 t407, .int .i64 t408, .int .i64 t409, .slice Ao17 t410.length co17] 43 (0, 0))) := ⟨by (with_reducible repeat (first | refine blk_drewN ?_ _ | refine blk_drew ?_ | refine blk_alloc ?_ _)); refine blk_far ?_ NB414_425.out _; (with_reducible repeat (first | refine blk_drewN ?_ _ | refine blk_drew ?_ | refine blk_alloc ?_ _)); refine blk_far ?_ NB414_425.out _; (with_reducible repeat (first | refine blk_drewN ?_ _ | refine blk_drew ?_ | refine blk_alloc ?_ _)); refine blk_far ?_ NB414_425.out _; (with_reducible repeat (first | refine blk_drewN ?_ _ | refine blk_drew ?_ | refine blk_alloc ?_ _)); refine blk_far ?_ NB414_425.out _; (with_reducible repeat (first | refine blk_drewN ?_ _ | refine blk_drew ?_ | refine blk_alloc ?_ _)); exact BK414.out⟩
          have n4_ : Aside0 (((((w34.setCell ⟨gb425, 0, none⟩ (.string t420)).setCell ⟨gb425, 1, none⟩ (.int .i64 t421)).setCell ⟨gb425, 2, none⟩ (.int .i64 t422)).setCell ⟨gb425, 3, none⟩ (.string t423)).heap[gb425]? = some (.cells #[.string t420, .int .i64 t421, .int .i64 t422, .string t423] 31 (0, 0))) := ⟨by (with_reducible repeat (first | refine blk_drewN ?_ _ | refine blk_drew ?_ | refine blk_alloc ?_ _)); refine blk_put (cs := #[.string t420, .int .i64 t421, .int .i64 t422, .string (⟨#[]⟩ : ByteArray)]) ?_ 3 _ rfl; (with_reducible repeat (first | refine blk_drewN ?_ _ | refine blk_drew ?_ | refine blk_alloc ?_ _)); refine blk_put (cs := #[.string t420, .int .i64 t421, .int .i64 0, .string (⟨#[]⟩ : ByteArray)]) ?_ 2 _ rfl; (with_reducible repeat (first | refine blk_drewN ?_ _ | refine blk_drew ?_ | refine blk_alloc ?_ _)); refine blk_put (cs := #[.string t420, .int .i64 0, .int .i64 0, .string (⟨#[]⟩ : ByteArray)]) ?_ 1 _ rfl; (with_reducible repeat (first | refine blk_drewN ?_ _ | refine blk_drew ?_ | refine blk_alloc ?_ _)); refine blk_put (cs := #[.string (⟨#[]⟩ : ByteArray), .int .i64 0, .int .i64 0, .string (⟨#[]⟩ : ByteArray)]) ?_ 0 _ rfl; (with_reducible repeat (first | refine blk_drewN ?_ _ | refine blk_drew ?_ | refine blk_alloc ?_ _)); exact BK425.out⟩
          have n5_ : Aside0 (Below w.heap.size w ((((w34.setCell ⟨gb425, 0, none⟩ (.string t420)).setCell ⟨gb425, 1, none⟩ (.int .i64 t421)).setCell ⟨gb425, 2, none⟩ (.int .i64 t422)).setCell ⟨gb425, 3, none⟩ (.string t423))) := ⟨by repeat (first | (with_reducible first | exact HB.out | apply below_alloc | apply pw_below_drewN | apply below_drew1 | refine below_set ?_ GE401.out | refine below_set ?_ GE414.out | refine below_set ?_ GE425.out) | exact HB.out)⟩
          (try clear HO_9)
          (try clear HO_415003)
          (try clear BK401)
          (try clear BK414)
          (try clear BK425)
          (try clear HB)
          generalize ((((w34.setCell ⟨gb425, 0, none⟩ (.string t420)).setCell ⟨gb425, 1, none⟩ (.int .i64 t421)).setCell ⟨gb425, 2, none⟩ (.int .i64 t422)).setCell ⟨gb425, 3, none⟩ (.string t423)) = w39 at n0_ n1_ n2_ n3_ n4_ n5_ ⊢
          have HO_9 := n0_
          have HO_415003 := n1_
          have BK401 := n2_
          have BK414 := n3_
          have BK425 := n4_
          have HB := n5_
          clear n0_ n1_ n2_ n3_ n4_ n5_
          have n0_ := Aside0.mk (Kd.R_drew HO_9.out)
          have n1_ := Aside0.mk (Kd.R_drew HO_415003.out)
          have n2_ := Aside0.mk (blk_drew BK401.out)
          have n3_ := Aside0.mk (blk_drew BK414.out)
          have n4_ := Aside0.mk (blk_drew BK425.out)
          have n5_ := Aside0.mk (below_drew1 HB.out)
          clear HO_9
          clear HO_415003
          clear BK401
          clear BK414
          clear BK425
          clear HB
          have HO_9 := n0_
          have HO_415003 := n1_
          have BK401 := n2_
          have BK414 := n3_
          have BK425 := n4_
          have HB := n5_
          clear n0_ n1_ n2_ n3_ n4_ n5_
          have p426 : 0 ≤ (x10_1 : Int) := of_decide_eq_true (by first | (with_reducible assumption) | assumption)
          have q426 : x10_1 < (y415.length : Int) := of_decide_eq_true (by first | (with_reducible assumption) | assumption)
          obtain ⟨ad426, e426, hx426_0⟩ := Kd.at_string (Kd.R_reads' HO_9.out).2.2 x10_1 p426 q426
          obtain rfl : ad419 = ad426 := (by injection e426)
          replace p426 := eq_true p426
          replace q426 := eq_true q426
          refine start_ (n := 12) (S := fun w' => w'.cell? ⟨gb401, 0, none⟩ = some (.int .i64 a0_0) ∧ w'.cell? ⟨gb401, 1, none⟩ = some (.int .i64 a0_1) ∧ w'.cell? ⟨gb401, 2, none⟩ = some (.int .i64 a0_2) ∧ w'.cell? ⟨gb401, 3, none⟩ = some (.slice A0_3 l0_3.length c0_3) ∧ w'.cell? (ad419.add (x10_1).toNat) = some (.string (rdOf ByteArray.empty y415 x10_1))) (ds := []) #[false, false, false, false, false, false, false, false, false, false, false, false] (by kernel_rfl) rfl rfl ⟨(blk_cell BK401.out 0).trans rfl, (blk_cell BK401.out 1).trans rfl, (blk_cell BK401.out 2).trans rfl, (blk_cell BK401.out 3).trans rfl, hx426_0⟩ (fun hHeld => ?_); refine with_tabW kauditlaw03_RecordGets.tab10 kauditlaw03_RecordGets.bits10 (fun HT_ HW_ => ?_)
          generalize w39.drew = w40 at HO_9 HO_415003 BK401 BK414 BK425 HB hx426_0 hHeld ⊢
          refine pure_ (i := 1) (N := some 46) (v := ?_) (a' := ?_) #[false, true, false, false, false, false, false, false, false, false, false, false] rfl rfl (any_of HT_.out (by kernel_rfl)) (fun _ _ _ h => h) (Or.inl ⟨by rfl, ?_⟩) ?_ ?_
          rotate_left
          ·intro w'
           go_simp
           with_reducible rfl
          rotate_left
          ·simp only [Act.put, List.setIfInBounds_toArray, List.set_cons_zero, List.set_cons_succ, i64_w, i32_w]
           rfl
          refine pure_ (i := 2) (N := some 47) (v := ?_) (a' := ?_) #[false, true, true, false, false, false, false, false, false, false, false, false] rfl rfl (any_of HT_.out (by kernel_rfl)) (fun _ _ _ h => h) (Or.inl ⟨by rfl, ?_⟩) ?_ ?_
          rotate_left
          ·intro w'
           go_simp
           with_reducible rfl
          rotate_left
          ·simp only [Act.put, List.setIfInBounds_toArray, List.set_cons_zero, List.set_cons_succ, i64_w, i32_w]
           rfl
          refine pure_ (i := 3) (N := some 48) (v := ?_) (a' := ?_) #[false, true, true, true, false, false, false, false, false, false, false, false] rfl rfl (any_of HT_.out (by kernel_rfl)) (fun _ _ _ h => h) (Or.inl ⟨by rfl, ?_⟩) ?_ ?_
          rotate_left
          ·intro w'
           go_simp
           with_reducible rfl
          rotate_left
          ·simp only [Act.put, List.setIfInBounds_toArray, List.set_cons_zero, List.set_cons_succ, i64_w, i32_w]
           rfl
          refine take_ (i := 0) (N := some 45) (v := ?_) (a' := ?_) #[true, true, true, true, false, false, false, false, false, false, false, false] rfl rfl (take_ofW HT_.out HW_.out (by kernel_rfl)) (fun _ _ _ h => h) (Or.inl ⟨by rfl, ?_⟩) hHeld ?_ ?_
          rotate_left
          ·rintro w' ⟨s0, s1, s2, s3, s4⟩
           go_simp
           with_reducible rfl
          rotate_left
          ·simp only [Act.put, List.setIfInBounds_toArray, List.set_cons_zero, List.set_cons_succ, i64_w, i32_w]
           rfl
          refine take_ (i := 4) (N := some 49) (v := ?_) (a' := ?_) #[true, true, true, true, true, false, false, false, false, false, false, false] rfl rfl (take_ofW HT_.out HW_.out (by kernel_rfl)) (fun _ _ _ h => h) (Or.inl ⟨by rfl, ?_⟩) hHeld ?_ ?_
          rotate_left
          ·rintro w' ⟨s0, s1, s2, s3, s4⟩
           go_simp
           with_reducible rfl
          rotate_left
          ·simp only [Act.put, List.setIfInBounds_toArray, List.set_cons_zero, List.set_cons_succ, i64_w, i32_w]
           rfl
          refine join_ (σ := Nat) 2 #[true, true, true, true, true, true, true, true, true, true, false, false] (fun s_ => [(50, .tuple #[.agg #[.string t427, .int .i64 t428, .int .i64 t429, .string t430], .bool t431]), (13, .pointer (some ⟨s_, 0, none⟩)), (44, .tuple #[.agg #[.string t427, .int .i64 t428, .int .i64 t429, .string t430], .bool t431]), (51, .agg #[.string t427, .int .i64 t428, .int .i64 t429, .string t430]), (52, .bool t431)]) (fun s_ w' => (w'.cell? ⟨gb401, 0, none⟩ = some (.int .i64 a0_0) ∧ w'.cell? ⟨gb401, 1, none⟩ = some (.int .i64 a0_1) ∧ w'.cell? ⟨gb401, 2, none⟩ = some (.int .i64 a0_2) ∧ w'.cell? ⟨gb401, 3, none⟩ = some (.slice A0_3 l0_3.length c0_3) ∧ w'.cell? (ad419.add (x10_1).toNat) = some (.string (rdOf ByteArray.empty y415 x10_1))) ∧ (Kd.R k31 31 w' w.heap.size (fun k_ => k_ ≠ gb425 ∧ k_ ≠ s_) (.slice Ao17 t410.length co17) t410) ∧ (Kd.R Kd.string 9 w' w.heap.size (fun _ => True) (.slice (some ad419) y415.length co30) y415) ∧ (w'.heap[gb401]? = some (.cells #[.int .i64 a0_0, .int .i64 a0_1, .int .i64 a0_2, .slice A0_3 l0_3.length c0_3] 43 (0, 0))) ∧ (w'.heap[gb414]? = some (.cells #[.int .i64 t407, .int .i64 t408, .int .i64 t409, .slice Ao17 t410.length co17] 43 (0, 0))) ∧ (w'.heap[gb425]? = some (.cells #[.string t420, .int .i64 t421, .int .i64 t422, .string t423] 31 (0, 0))) ∧ (w'.heap[s_]? = some (.cells #[.string (⟨#[]⟩ : ByteArray), .int .i64 0, .int .i64 0, .string (⟨#[]⟩ : ByteArray)] 31 (0, 0))) ∧ (w.heap.size ≤ s_) ∧ (w.heap.size ≤ s_) ∧ (gb401 ≠ s_) ∧ (s_ ≠ gb401) ∧ (gb414 ≠ s_) ∧ (s_ ≠ gb414) ∧ (gb425 ≠ s_) ∧ (s_ ≠ gb425) ∧ (Below w.heap.size w w')) ?_ ?_
          rotate_left
          ·intro hCont
           refine two_ (i := 5) (j := 9) (Ni := some 50) (Nj := some 13) #[true, true, true, true, true, true, false, false, false, false, false, false] #[true, true, true, true, true, false, false, false, false, true, false, false] rfl rfl rfl rfl (two_of HT_.out (by kernel_rfl)) (by decide) (by decide) (fun K hK => ?_) (fun K hK => ?_)
           ·skip
            refine goes_ Tryd.func38 (by kernel_rfl) rfl #[.agg #[.int .i64 a0_0, .int .i64 a0_1, .int .i64 a0_2, .slice A0_3 l0_3.length c0_3], .string (rdOf ByteArray.empty y415 x10_1)] (by rfl) rfl rfl (by (try simp only [List.map_toArray, List.map_cons, List.map_nil]); first | done | rfl | (simp only [List.length_drop, List.length_take]; rfl)) ?_
            with_reducible refine (kauditref03_Get.calls k1 a0_0 a0_1 a0_2 _ _ l0_3 (rdOf ByteArray.empty y415 x10_1) t427 t428 t429 t430 t431 _ ?side1 ?side2 A23.out).mono ?_
            (case side1 => repeat (first | exact (Kd.C_below HR0_3.out HB.out) | (with_reducible refine Kd.C_alloc ?_ _) | (with_reducible refine Kd.C_drewN ?_ _) | (with_reducible refine Kd.C_drew ?_)))
            (case side2 => exact HC0_3.out)
            rintro e w41 ⟨rfl, hb⟩
            have HS4_ := (hb.cell (World.block_lt_of_cell? _ _ (hHeld.2.2.2.2))).trans (hHeld.2.2.2.2)
            refine ⟨_, rfl, ?_⟩
            have n0_ := Aside0.mk (Kd.R_below (by (with_reducible repeat (first | apply Kd.R_alloc | apply Kd.R_drewN | apply Kd.R_drew)); exact HO_9.out) hb)
            have n1_ := Aside0.mk (Kd.R_below (by (with_reducible repeat (first | apply Kd.R_alloc | apply Kd.R_drewN | apply Kd.R_drew)); exact HO_415003.out) hb)
            have n2_ := Aside0.mk (blk_below (g := gb401) (o := .cells #[.int .i64 a0_0, .int .i64 a0_1, .int .i64 a0_2, .slice A0_3 l0_3.length c0_3] 43 (0, 0)) (by (with_reducible repeat (first | refine blk_drewN ?_ _ | refine blk_drew ?_ | refine blk_alloc ?_ _)); exact BK401.out) hb)
            have n3_ := Aside0.mk (blk_below (g := gb414) (o := .cells #[.int .i64 t407, .int .i64 t408, .int .i64 t409, .slice Ao17 t410.length co17] 43 (0, 0)) (by (with_reducible repeat (first | refine blk_drewN ?_ _ | refine blk_drew ?_ | refine blk_alloc ?_ _)); exact BK414.out) hb)
            have n4_ := Aside0.mk (blk_below (g := gb425) (o := .cells #[.string t420, .int .i64 t421, .int .i64 t422, .string t423] 31 (0, 0)) (by (with_reducible repeat (first | refine blk_drewN ?_ _ | refine blk_drew ?_ | refine blk_alloc ?_ _)); exact BK425.out) hb)
            have n5_ := Aside0.mk (below_step (by repeat (first | (with_reducible first | exact HB.out | apply below_alloc | apply pw_below_drewN | apply below_drew1 | refine below_set ?_ GE401.out | refine below_set ?_ GE414.out | refine below_set ?_ GE425.out) | exact HB.out)) hb)
            clear HO_9
            clear HO_415003
            clear BK401
            clear BK414
            clear BK425
            clear HB
            have HO_9 := n0_
            have HO_415003 := n1_
            have BK401 := n2_
            have BK414 := n3_
            have BK425 := n4_
            have HB := n5_
            clear n0_ n1_ n2_ n3_ n4_ n5_
            (try clear hb)
            (try clear hb2)
            (try clear hk)
            (try clear hi)
            refine hK.out _ _ ⟨(blk_cell BK401.out 0).trans rfl, (blk_cell BK401.out 1).trans rfl, (blk_cell BK401.out 2).trans rfl, (blk_cell BK401.out 3).trans rfl, HS4_⟩ (fun hHeld => ?_)
            clear hK K
            refine norm_ (a' := ?_) ?_ ?_
            rotate_left
            ·show Act.put _ (some 50) _ = _
             simp only [Act.put, List.setIfInBounds_toArray, List.set_cons_zero, List.set_cons_succ, i64_w, i32_w]
             rfl
            refine pure_ (i := 6) (N := some 44) (v := ?_) (a' := ?_) #[true, true, true, true, true, true, true, false, false, false, false, false] rfl rfl (any_of HT_.out (by kernel_rfl)) (fun _ _ _ h => h) (Or.inl ⟨by rfl, ?_⟩) ?_ ?_
            rotate_left
            ·intro w'
             go_simp
             with_reducible rfl
            rotate_left
            ·simp only [Act.put, List.setIfInBounds_toArray, List.set_cons_zero, List.set_cons_succ, i64_w, i32_w]
             rfl
            refine pure_ (i := 7) (N := some 51) (v := ?_) (a' := ?_) #[true, true, true, true, true, true, true, true, false, false, false, false] rfl rfl (any_of HT_.out (by kernel_rfl)) (fun _ _ _ h => h) (Or.inl ⟨by rfl, ?_⟩) ?_ ?_
            rotate_left
            ·intro w'
             go_simp
             with_reducible rfl
            rotate_left
            ·simp only [Act.put, List.setIfInBounds_toArray, List.set_cons_zero, List.set_cons_succ, i64_w, i32_w]
             rfl
            refine pure_ (i := 8) (N := some 52) (v := ?_) (a' := ?_) #[true, true, true, true, true, true, true, true, true, false, false, false] rfl rfl (any_of HT_.out (by kernel_rfl)) (fun _ _ _ h => h) (Or.inl ⟨by rfl, ?_⟩) ?_ ?_
            rotate_left
            ·intro w'
             go_simp
             with_reducible rfl
            rotate_left
            ·simp only [Act.put, List.setIfInBounds_toArray, List.set_cons_zero, List.set_cons_succ, i64_w, i32_w]
             rfl
            refine one_ (i := 9) (N := some 13) #[true, true, true, true, true, true, true, true, true, true, false, false] rfl rfl (one_of HT_.out (by kernel_rfl)) (by decide) (fun K hK => ?_)
            refine box_step ?hg (N := 13) ?hd (cs := #[.string (⟨#[]⟩ : ByteArray), .int .i64 0, .int .i64 0, .string (⟨#[]⟩ : ByteArray)]) (t := 31) ?hr ?_; (case hd => rfl); (case hg => rfl); (case hr => first | (go_simp; done) | (go_simp; rfl))
            intro gb432 hg w42 hbox hb
            have HS4_ := (hb.cell (World.block_lt_of_cell? _ _ (hHeld.2.2.2.2))).trans (hHeld.2.2.2.2)
            have n0_ := Aside0.mk (Kd.R_below (by (with_reducible repeat (first | apply Kd.R_alloc | apply Kd.R_drewN | apply Kd.R_drew)); exact HO_9.out) hb)
            have n1_ := Aside0.mk (Kd.R_below (Kd.R_elderB (by (with_reducible repeat (first | apply Kd.R_alloc | apply Kd.R_drewN | apply Kd.R_drew)); exact HO_415003.out) gb432 (Nat.le_of_eq hg.symm)) hb)
            have n2_ := Aside0.mk (blk_below (g := gb401) (o := .cells #[.int .i64 a0_0, .int .i64 a0_1, .int .i64 a0_2, .slice A0_3 l0_3.length c0_3] 43 (0, 0)) (by (with_reducible repeat (first | refine blk_drewN ?_ _ | refine blk_drew ?_ | refine blk_alloc ?_ _)); exact BK401.out) hb)
            have n3_ := Aside0.mk (blk_below (g := gb414) (o := .cells #[.int .i64 t407, .int .i64 t408, .int .i64 t409, .slice Ao17 t410.length co17] 43 (0, 0)) (by (with_reducible repeat (first | refine blk_drewN ?_ _ | refine blk_drew ?_ | refine blk_alloc ?_ _)); exact BK414.out) hb)
            have n4_ := Aside0.mk (blk_below (g := gb425) (o := .cells #[.string t420, .int .i64 t421, .int .i64 t422, .string t423] 31 (0, 0)) (by (with_reducible repeat (first | refine blk_drewN ?_ _ | refine blk_drew ?_ | refine blk_alloc ?_ _)); exact BK425.out) hb)
            have n5_ := Aside0.mk (below_step (by repeat (first | (with_reducible first | exact HB.out | apply below_alloc | apply pw_below_drewN | apply below_drew1 | refine below_set ?_ GE401.out | refine below_set ?_ GE414.out | refine below_set ?_ GE425.out) | exact HB.out)) hb)
            have n6_ := Aside0.mk (hbox)
            have n7_ := Aside0.mk ((by rw [hg]; exact (below_size (by repeat (first | (with_reducible first | exact HB.out | apply below_alloc | apply pw_below_drewN | apply below_drew1 | refine below_set ?_ GE401.out | refine below_set ?_ GE414.out | refine below_set ?_ GE425.out) | exact HB.out))) : w.heap.size ≤ gb432))
            have n8_ := Aside0.mk ((by rw [hg]; exact (below_size (by repeat (first | (with_reducible first | exact HB.out | apply below_alloc | apply pw_below_drewN | apply below_drew1 | refine below_set ?_ GE401.out | refine below_set ?_ GE414.out | refine below_set ?_ GE425.out) | exact HB.out))) : w.heap.size ≤ gb432))
            have n9_ := Aside0.mk ((by rw [hg]; exact Nat.ne_of_lt (blk_lt (g := gb401) (o := .cells #[.int .i64 a0_0, .int .i64 a0_1, .int .i64 a0_2, .slice A0_3 l0_3.length c0_3] 43 (0, 0)) (by (with_reducible repeat (first | refine blk_drewN ?_ _ | refine blk_drew ?_ | refine blk_alloc ?_ _)); exact BK401.out)) : gb401 ≠ gb432))
            have n10_ := Aside0.mk ((by rw [hg]; exact Nat.ne_of_gt (blk_lt (g := gb401) (o := .cells #[.int .i64 a0_0, .int .i64 a0_1, .int .i64 a0_2, .slice A0_3 l0_3.length c0_3] 43 (0, 0)) (by (with_reducible repeat (first | refine blk_drewN ?_ _ | refine blk_drew ?_ | refine blk_alloc ?_ _)); exact BK401.out)) : gb432 ≠ gb401))
            have n11_ := Aside0.mk ((by rw [hg]; exact Nat.ne_of_lt (blk_lt (g := gb414) (o := .cells #[.int .i64 t407, .int .i64 t408, .int .i64 t409, .slice Ao17 t410.length co17] 43 (0, 0)) (by (with_reducible repeat (first | refine blk_drewN ?_ _ | refine blk_drew ?_ | refine blk_alloc ?_ _)); exact BK414.out)) : gb414 ≠ gb432))
            have n12_ := Aside0.mk ((by rw [hg]; exact Nat.ne_of_gt (blk_lt (g := gb414) (o := .cells #[.int .i64 t407, .int .i64 t408, .int .i64 t409, .slice Ao17 t410.length co17] 43 (0, 0)) (by (with_reducible repeat (first | refine blk_drewN ?_ _ | refine blk_drew ?_ | refine blk_alloc ?_ _)); exact BK414.out)) : gb432 ≠ gb414))
            have n13_ := Aside0.mk ((by rw [hg]; exact Nat.ne_of_lt (blk_lt (g := gb425) (o := .cells #[.string t420, .int .i64 t421, .int .i64 t422, .string t423] 31 (0, 0)) (by (with_reducible repeat (first | refine blk_drewN ?_ _ | refine blk_drew ?_ | refine blk_alloc ?_ _)); exact BK425.out)) : gb425 ≠ gb432))
            have n14_ := Aside0.mk ((by rw [hg]; exact Nat.ne_of_gt (blk_lt (g := gb425) (o := .cells #[.string t420, .int .i64 t421, .int .i64 t422, .string t423] 31 (0, 0)) (by (with_reducible repeat (first | refine blk_drewN ?_ _ | refine blk_drew ?_ | refine blk_alloc ?_ _)); exact BK425.out)) : gb432 ≠ gb425))
            clear HO_9
            clear HO_415003
            clear BK401
            clear BK414
            clear BK425
            clear HB
            have HO_9 := n0_
            have HO_415003 := n1_
            have BK401 := n2_
            have BK414 := n3_
            have BK425 := n4_
            have HB := n5_
            have BK432 := n6_
            have GW432 := n7_
            have GE432 := n8_
            have NB401_432 := n9_
            have NB432_401 := n10_
            have NB414_432 := n11_
            have NB432_414 := n12_
            have NB425_432 := n13_
            have NB432_425 := n14_
            clear n0_ n1_ n2_ n3_ n4_ n5_ n6_ n7_ n8_ n9_ n10_ n11_ n12_ n13_ n14_
            clear hb hbox hg
            refine hK.out _ _ ⟨(blk_cell BK401.out 0).trans rfl, (blk_cell BK401.out 1).trans rfl, (blk_cell BK401.out 2).trans rfl, (blk_cell BK401.out 3).trans rfl, HS4_⟩ (fun hHeld => ?_)
            clear hK K
            refine norm_ (a' := ?_) ?_ ?_
            rotate_left
            ·show Act.put _ (some 13) _ = _
             simp only [Act.put, List.setIfInBounds_toArray, List.set_cons_zero, List.set_cons_succ, i64_w, i32_w]
             rfl
            exact norm_ (by simp only [putAll, Act.put, List.setIfInBounds_toArray, List.set_cons_zero, List.set_cons_succ]) (hCont (gb432) _ ⟨hHeld, (by (with_reducible repeat (first | apply Kd.R_alloc | apply Kd.R_drewN | apply Kd.R_drew)); exact HO_415003.out), (by (with_reducible repeat (first | apply Kd.R_alloc | apply Kd.R_drewN | apply Kd.R_drew)); exact HO_9.out), (by (with_reducible repeat (first | refine blk_drewN ?_ _ | refine blk_drew ?_ | refine blk_alloc ?_ _)); exact BK401.out), (by (with_reducible repeat (first | refine blk_drewN ?_ _ | refine blk_drew ?_ | refine blk_alloc ?_ _)); exact BK414.out), (by (with_reducible repeat (first | refine blk_drewN ?_ _ | refine blk_drew ?_ | refine blk_alloc ?_ _)); exact BK425.out), (by (with_reducible repeat (first | refine blk_drewN ?_ _ | refine blk_drew ?_ | refine blk_alloc ?_ _)); exact BK432.out), GW432.out, GE432.out, NB401_432.out, NB432_401.out, NB414_432.out, NB432_414.out, NB425_432.out, NB432_425.out, (by repeat (first | (with_reducible first | exact HB.out | apply below_alloc | apply pw_below_drewN | apply below_drew1 | refine below_set ?_ GE401.out | refine below_set ?_ GE414.out | refine below_set ?_ GE425.out | refine below_set ?_ GE432.out) | exact HB.out))⟩)
           ·skip
            refine box_step ?hg (N := 13) ?hd (cs := #[.string (⟨#[]⟩ : ByteArray), .int .i64 0, .int .i64 0, .string (⟨#[]⟩ : ByteArray)]) (t := 31) ?hr ?_; (case hd => rfl); (case hg => rfl); (case hr => first | (go_simp; done) | (go_simp; rfl))
            intro gb432 hg w41 hbox hb
            have HS4_ := (hb.cell (World.block_lt_of_cell? _ _ (hHeld.2.2.2.2))).trans (hHeld.2.2.2.2)
            have n0_ := Aside0.mk (Kd.R_below (by (with_reducible repeat (first | apply Kd.R_alloc | apply Kd.R_drewN | apply Kd.R_drew)); exact HO_9.out) hb)
            have n1_ := Aside0.mk (Kd.R_below (Kd.R_elderB (by (with_reducible repeat (first | apply Kd.R_alloc | apply Kd.R_drewN | apply Kd.R_drew)); exact HO_415003.out) gb432 (Nat.le_of_eq hg.symm)) hb)
            have n2_ := Aside0.mk (blk_below (g := gb401) (o := .cells #[.int .i64 a0_0, .int .i64 a0_1, .int .i64 a0_2, .slice A0_3 l0_3.length c0_3] 43 (0, 0)) (by (with_reducible repeat (first | refine blk_drewN ?_ _ | refine blk_drew ?_ | refine blk_alloc ?_ _)); exact BK401.out) hb)
            have n3_ := Aside0.mk (blk_below (g := gb414) (o := .cells #[.int .i64 t407, .int .i64 t408, .int .i64 t409, .slice Ao17 t410.length co17] 43 (0, 0)) (by (with_reducible repeat (first | refine blk_drewN ?_ _ | refine blk_drew ?_ | refine blk_alloc ?_ _)); exact BK414.out) hb)
            have n4_ := Aside0.mk (blk_below (g := gb425) (o := .cells #[.string t420, .int .i64 t421, .int .i64 t422, .string t423] 31 (0, 0)) (by (with_reducible repeat (first | refine blk_drewN ?_ _ | refine blk_drew ?_ | refine blk_alloc ?_ _)); exact BK425.out) hb)
            have n5_ := Aside0.mk (below_step (by repeat (first | (with_reducible first | exact HB.out | apply below_alloc | apply pw_below_drewN | apply below_drew1 | refine below_set ?_ GE401.out | refine below_set ?_ GE414.out | refine below_set ?_ GE425.out) | exact HB.out)) hb)
            have n6_ := Aside0.mk (hbox)
            have n7_ := Aside0.mk ((by rw [hg]; exact (below_size (by repeat (first | (with_reducible first | exact HB.out | apply below_alloc | apply pw_below_drewN | apply below_drew1 | refine below_set ?_ GE401.out | refine below_set ?_ GE414.out | refine below_set ?_ GE425.out) | exact HB.out))) : w.heap.size ≤ gb432))
            have n8_ := Aside0.mk ((by rw [hg]; exact (below_size (by repeat (first | (with_reducible first | exact HB.out | apply below_alloc | apply pw_below_drewN | apply below_drew1 | refine below_set ?_ GE401.out | refine below_set ?_ GE414.out | refine below_set ?_ GE425.out) | exact HB.out))) : w.heap.size ≤ gb432))
            have n9_ := Aside0.mk ((by rw [hg]; exact Nat.ne_of_lt (blk_lt (g := gb401) (o := .cells #[.int .i64 a0_0, .int .i64 a0_1, .int .i64 a0_2, .slice A0_3 l0_3.length c0_3] 43 (0, 0)) (by (with_reducible repeat (first | refine blk_drewN ?_ _ | refine blk_drew ?_ | refine blk_alloc ?_ _)); exact BK401.out)) : gb401 ≠ gb432))
            have n10_ := Aside0.mk ((by rw [hg]; exact Nat.ne_of_gt (blk_lt (g := gb401) (o := .cells #[.int .i64 a0_0, .int .i64 a0_1, .int .i64 a0_2, .slice A0_3 l0_3.length c0_3] 43 (0, 0)) (by (with_reducible repeat (first | refine blk_drewN ?_ _ | refine blk_drew ?_ | refine blk_alloc ?_ _)); exact BK401.out)) : gb432 ≠ gb401))
            have n11_ := Aside0.mk ((by rw [hg]; exact Nat.ne_of_lt (blk_lt (g := gb414) (o := .cells #[.int .i64 t407, .int .i64 t408, .int .i64 t409, .slice Ao17 t410.length co17] 43 (0, 0)) (by (with_reducible repeat (first | refine blk_drewN ?_ _ | refine blk_drew ?_ | refine blk_alloc ?_ _)); exact BK414.out)) : gb414 ≠ gb432))
            have n12_ := Aside0.mk ((by rw [hg]; exact Nat.ne_of_gt (blk_lt (g := gb414) (o := .cells #[.int .i64 t407, .int .i64 t408, .int .i64 t409, .slice Ao17 t410.length co17] 43 (0, 0)) (by (with_reducible repeat (first | refine blk_drewN ?_ _ | refine blk_drew ?_ | refine blk_alloc ?_ _)); exact BK414.out)) : gb432 ≠ gb414))
            have n13_ := Aside0.mk ((by rw [hg]; exact Nat.ne_of_lt (blk_lt (g := gb425) (o := .cells #[.string t420, .int .i64 t421, .int .i64 t422, .string t423] 31 (0, 0)) (by (with_reducible repeat (first | refine blk_drewN ?_ _ | refine blk_drew ?_ | refine blk_alloc ?_ _)); exact BK425.out)) : gb425 ≠ gb432))
            have n14_ := Aside0.mk ((by rw [hg]; exact Nat.ne_of_gt (blk_lt (g := gb425) (o := .cells #[.string t420, .int .i64 t421, .int .i64 t422, .string t423] 31 (0, 0)) (by (with_reducible repeat (first | refine blk_drewN ?_ _ | refine blk_drew ?_ | refine blk_alloc ?_ _)); exact BK425.out)) : gb432 ≠ gb425))
            clear HO_9
            clear HO_415003
            clear BK401
            clear BK414
            clear BK425
            clear HB
            have HO_9 := n0_
            have HO_415003 := n1_
            have BK401 := n2_
            have BK414 := n3_
            have BK425 := n4_
            have HB := n5_
            have BK432 := n6_
            have GW432 := n7_
            have GE432 := n8_
            have NB401_432 := n9_
            have NB432_401 := n10_
            have NB414_432 := n11_
            have NB432_414 := n12_
            have NB425_432 := n13_
            have NB432_425 := n14_
            clear n0_ n1_ n2_ n3_ n4_ n5_ n6_ n7_ n8_ n9_ n10_ n11_ n12_ n13_ n14_
            clear hb hbox hg
            refine hK.out _ _ ⟨(blk_cell BK401.out 0).trans rfl, (blk_cell BK401.out 1).trans rfl, (blk_cell BK401.out 2).trans rfl, (blk_cell BK401.out 3).trans rfl, HS4_⟩ (fun hHeld => ?_)
            clear hK K
            refine norm_ (a' := ?_) ?_ ?_
            rotate_left
            ·show Act.put _ (some 13) _ = _
             simp only [Act.put, List.setIfInBounds_toArray, List.set_cons_zero, List.set_cons_succ, i64_w, i32_w]
             rfl
            refine one_ (i := 5) (N := some 50) #[true, true, true, true, true, true, false, false, false, true, false, false] rfl rfl (one_of HT_.out (by kernel_rfl)) (by decide) (fun K hK => ?_)
            refine goes_ Tryd.func38 (by kernel_rfl) rfl #[.agg #[.int .i64 a0_0, .int .i64 a0_1, .int .i64 a0_2, .slice A0_3 l0_3.length c0_3], .string (rdOf ByteArray.empty y415 x10_1)] (by rfl) rfl rfl (by (try simp only [List.map_toArray, List.map_cons, List.map_nil]); first | done | rfl | (simp only [List.length_drop, List.length_take]; rfl)) ?_
            with_reducible refine (kauditref03_Get.calls k1 a0_0 a0_1 a0_2 _ _ l0_3 (rdOf ByteArray.empty y415 x10_1) t427 t428 t429 t430 t431 _ ?side1 ?side2 A23.out).mono ?_
            (case side1 => repeat (first | exact (Kd.C_below HR0_3.out HB.out) | (with_reducible refine Kd.C_alloc ?_ _) | (with_reducible refine Kd.C_drewN ?_ _) | (with_reducible refine Kd.C_drew ?_)))
            (case side2 => exact HC0_3.out)
            rintro e w42 ⟨rfl, hb⟩
            have HS4_ := (hb.cell (World.block_lt_of_cell? _ _ (hHeld.2.2.2.2))).trans (hHeld.2.2.2.2)
            refine ⟨_, rfl, ?_⟩
            have n0_ := Aside0.mk (Kd.R_below (by (with_reducible repeat (first | apply Kd.R_alloc | apply Kd.R_drewN | apply Kd.R_drew)); exact HO_9.out) hb)
            have n1_ := Aside0.mk (Kd.R_below (by (with_reducible repeat (first | apply Kd.R_alloc | apply Kd.R_drewN | apply Kd.R_drew)); exact HO_415003.out) hb)
            have n2_ := Aside0.mk (blk_below (g := gb401) (o := .cells #[.int .i64 a0_0, .int .i64 a0_1, .int .i64 a0_2, .slice A0_3 l0_3.length c0_3] 43 (0, 0)) (by (with_reducible repeat (first | refine blk_drewN ?_ _ | refine blk_drew ?_ | refine blk_alloc ?_ _)); exact BK401.out) hb)
            have n3_ := Aside0.mk (blk_below (g := gb414) (o := .cells #[.int .i64 t407, .int .i64 t408, .int .i64 t409, .slice Ao17 t410.length co17] 43 (0, 0)) (by (with_reducible repeat (first | refine blk_drewN ?_ _ | refine blk_drew ?_ | refine blk_alloc ?_ _)); exact BK414.out) hb)
            have n4_ := Aside0.mk (blk_below (g := gb425) (o := .cells #[.string t420, .int .i64 t421, .int .i64 t422, .string t423] 31 (0, 0)) (by (with_reducible repeat (first | refine blk_drewN ?_ _ | refine blk_drew ?_ | refine blk_alloc ?_ _)); exact BK425.out) hb)
            have n5_ := Aside0.mk (blk_below (g := gb432) (o := .cells #[.string (⟨#[]⟩ : ByteArray), .int .i64 0, .int .i64 0, .string (⟨#[]⟩ : ByteArray)] 31 (0, 0)) (by (with_reducible repeat (first | refine blk_drewN ?_ _ | refine blk_drew ?_ | refine blk_alloc ?_ _)); exact BK432.out) hb)
            have n6_ := Aside0.mk (below_step (by repeat (first | (with_reducible first | exact HB.out | apply below_alloc | apply pw_below_drewN | apply below_drew1 | refine below_set ?_ GE401.out | refine below_set ?_ GE414.out | refine below_set ?_ GE425.out | refine below_set ?_ GE432.out) | exact HB.out)) hb)
            clear HO_9
            clear HO_415003
            clear BK401
            clear BK414
            clear BK425
            clear BK432
            clear HB
            have HO_9 := n0_
            have HO_415003 := n1_
            have BK401 := n2_
            have BK414 := n3_
            have BK425 := n4_
            have BK432 := n5_
            have HB := n6_
            clear n0_ n1_ n2_ n3_ n4_ n5_ n6_
            (try clear hb)
            (try clear hb2)
            (try clear hk)
            (try clear hi)
            refine hK.out _ _ ⟨(blk_cell BK401.out 0).trans rfl, (blk_cell BK401.out 1).trans rfl, (blk_cell BK401.out 2).trans rfl, (blk_cell BK401.out 3).trans rfl, HS4_⟩ (fun hHeld => ?_)
            clear hK K
            refine norm_ (a' := ?_) ?_ ?_
            rotate_left
            ·show Act.put _ (some 50) _ = _
             simp only [Act.put, List.setIfInBounds_toArray, List.set_cons_zero, List.set_cons_succ, i64_w, i32_w]
             rfl
            refine pure_ (i := 6) (N := some 44) (v := ?_) (a' := ?_) #[true, true, true, true, true, true, true, false, false, true, false, false] rfl rfl (any_of HT_.out (by kernel_rfl)) (fun _ _ _ h => h) (Or.inl ⟨by rfl, ?_⟩) ?_ ?_
            rotate_left
            ·intro w'
             go_simp
             with_reducible rfl
            rotate_left
            ·simp only [Act.put, List.setIfInBounds_toArray, List.set_cons_zero, List.set_cons_succ, i64_w, i32_w]
             rfl
            refine pure_ (i := 7) (N := some 51) (v := ?_) (a' := ?_) #[true, true, true, true, true, true, true, true, false, true, false, false] rfl rfl (any_of HT_.out (by kernel_rfl)) (fun _ _ _ h => h) (Or.inl ⟨by rfl, ?_⟩) ?_ ?_
            rotate_left
            ·intro w'
             go_simp
             with_reducible rfl
            rotate_left
            ·simp only [Act.put, List.setIfInBounds_toArray, List.set_cons_zero, List.set_cons_succ, i64_w, i32_w]
             rfl
            refine pure_ (i := 8) (N := some 52) (v := ?_) (a' := ?_) #[true, true, true, true, true, true, true, true, true, true, false, false] rfl rfl (any_of HT_.out (by kernel_rfl)) (fun _ _ _ h => h) (Or.inl ⟨by rfl, ?_⟩) ?_ ?_
            rotate_left
            ·intro w'
             go_simp
             with_reducible rfl
            rotate_left
            ·simp only [Act.put, List.setIfInBounds_toArray, List.set_cons_zero, List.set_cons_succ, i64_w, i32_w]
             rfl
            exact norm_ (by simp only [putAll, Act.put, List.setIfInBounds_toArray, List.set_cons_zero, List.set_cons_succ]) (hCont (gb432) _ ⟨hHeld, (by (with_reducible repeat (first | apply Kd.R_alloc | apply Kd.R_drewN | apply Kd.R_drew)); exact HO_415003.out), (by (with_reducible repeat (first | apply Kd.R_alloc | apply Kd.R_drewN | apply Kd.R_drew)); exact HO_9.out), (by (with_reducible repeat (first | refine blk_drewN ?_ _ | refine blk_drew ?_ | refine blk_alloc ?_ _)); exact BK401.out), (by (with_reducible repeat (first | refine blk_drewN ?_ _ | refine blk_drew ?_ | refine blk_alloc ?_ _)); exact BK414.out), (by (with_reducible repeat (first | refine blk_drewN ?_ _ | refine blk_drew ?_ | refine blk_alloc ?_ _)); exact BK425.out), (by (with_reducible repeat (first | refine blk_drewN ?_ _ | refine blk_drew ?_ | refine blk_alloc ?_ _)); exact BK432.out), GW432.out, GE432.out, NB401_432.out, NB432_401.out, NB414_432.out, NB432_414.out, NB425_432.out, NB432_425.out, (by repeat (first | (with_reducible first | exact HB.out | apply below_alloc | apply pw_below_drewN | apply below_drew1 | refine below_set ?_ GE401.out | refine below_set ?_ GE414.out | refine below_set ?_ GE425.out | refine below_set ?_ GE432.out) | exact HB.out))⟩)
          rintro gb432 w43 ⟨hS_, h0_, h1_, h2_, h3_, h4_, h5_, h6_, h7_, h8_, h9_, h10_, h11_, h12_, h13_, h14_⟩
          have n0_ : Aside0 (Kd.R k31 31 w43 w.heap.size (fun k_ => k_ ≠ gb425 ∧ k_ ≠ gb432) (.slice Ao17 t410.length co17) t410) := ⟨h0_⟩
          have n1_ : Aside0 (Kd.R Kd.string 9 w43 w.heap.size (fun _ => True) (.slice (some ad419) y415.length co30) y415) := ⟨h1_⟩
          have n2_ : Aside0 (w43.heap[gb401]? = some (.cells #[.int .i64 a0_0, .int .i64 a0_1, .int .i64 a0_2, .slice A0_3 l0_3.length c0_3] 43 (0, 0))) := ⟨h2_⟩
          have n3_ : Aside0 (w43.heap[gb414]? = some (.cells #[.int .i64 t407, .int .i64 t408, .int .i64 t409, .slice Ao17 t410.length co17] 43 (0, 0))) := ⟨h3_⟩
          have n4_ : Aside0 (w43.heap[gb425]? = some (.cells #[.string t420, .int .i64 t421, .int .i64 t422, .string t423] 31 (0, 0))) := ⟨h4_⟩
          have n5_ : Aside0 (w43.heap[gb432]? = some (.cells #[.string (⟨#[]⟩ : ByteArray), .int .i64 0, .int .i64 0, .string (⟨#[]⟩ : ByteArray)] 31 (0, 0))) := ⟨h5_⟩
          have n6_ : Aside0 (w.heap.size ≤ gb432) := ⟨h6_⟩
          have n7_ : Aside0 (w.heap.size ≤ gb432) := ⟨h7_⟩
          have n8_ : Aside0 (gb401 ≠ gb432) := ⟨h8_⟩
          have n9_ : Aside0 (gb432 ≠ gb401) := ⟨h9_⟩
          have n10_ : Aside0 (gb414 ≠ gb432) := ⟨h10_⟩
          have n11_ : Aside0 (gb432 ≠ gb414) := ⟨h11_⟩
          have n12_ : Aside0 (gb425 ≠ gb432) := ⟨h12_⟩
          have n13_ : Aside0 (gb432 ≠ gb425) := ⟨h13_⟩
          have n14_ : Aside0 (Below w.heap.size w w43) := ⟨h14_⟩
          clear HO_9
          clear HO_415003
          clear BK401
          clear BK414
          clear BK425
          clear HB
          clear h0_ h1_ h2_ h3_ h4_ h5_ h6_ h7_ h8_ h9_ h10_ h11_ h12_ h13_ h14_
          have HO_415003 := n0_
          have HO_9 := n1_
          have BK401 := n2_
          have BK414 := n3_
          have BK425 := n4_
          have BK432 := n5_
          have GW432 := n6_
          have GE432 := n7_
          have NB401_432 := n8_
          have NB432_401 := n9_
          have NB414_432 := n10_
          have NB432_414 := n11_
          have NB425_432 := n12_
          have NB432_425 := n13_
          have HB := n14_
          clear n0_ n1_ n2_ n3_ n4_ n5_ n6_ n7_ n8_ n9_ n10_ n11_ n12_ n13_ n14_
          have hHeld : w43.cell? ⟨gb401, 0, none⟩ = some (.int .i64 a0_0) ∧ w43.cell? ⟨gb401, 1, none⟩ = some (.int .i64 a0_1) ∧ w43.cell? ⟨gb401, 2, none⟩ = some (.int .i64 a0_2) ∧ w43.cell? ⟨gb401, 3, none⟩ = some (.slice A0_3 l0_3.length c0_3) ∧ w43.cell? (ad419.add (x10_1).toNat) = some (.string (rdOf ByteArray.empty y415 x10_1)) := hS_
          refine norm_ (a' := ?_) ?_ ?_
          rotate_left
          ·simp only [putAll, Act.put, List.setIfInBounds_toArray, List.set_cons_zero, List.set_cons_succ]
           rfl
          refine one_ (i := 10) (N := none) #[true, true, true, true, true, true, true, true, true, true, true, false] rfl rfl (one_of HT_.out (by kernel_rfl)) (by decide) (fun K hK => ?_)
          have hs44 : w43.cell? ⟨gb432, 0, none⟩ = some (.string (⟨#[]⟩ : ByteArray)) := (blk_cell BK432.out 0).trans rfl
          have hfs44 := blk_frozen BK432.out 0
          have hns44_0 := NB401_432.out
          have hns44_1 := NB414_432.out
          have hns44_2 := NB425_432.out
          have hms44_0 := NB432_401.out
          have hms44_1 := NB432_414.out
          have hms44_2 := NB432_425.out
          have hs45 : w43.cell? ⟨gb432, 1, none⟩ = some (.int .i64 0) := (blk_cell BK432.out 1).trans rfl
          have hfs45 := blk_frozen BK432.out 1
          have hns45_0 := NB401_432.out
          have hns45_1 := NB414_432.out
          have hns45_2 := NB425_432.out
          have hms45_0 := NB432_401.out
          have hms45_1 := NB432_414.out
          have hms45_2 := NB432_425.out
          have hs46 : w43.cell? ⟨gb432, 2, none⟩ = some (.int .i64 0) := (blk_cell BK432.out 2).trans rfl
          have hfs46 := blk_frozen BK432.out 2
          have hns46_0 := NB401_432.out
          have hns46_1 := NB414_432.out
          have hns46_2 := NB425_432.out
          have hms46_0 := NB432_401.out
          have hms46_1 := NB432_414.out
          have hms46_2 := NB432_425.out
          have hs47 : w43.cell? ⟨gb432, 3, none⟩ = some (.string (⟨#[]⟩ : ByteArray)) := (blk_cell BK432.out 3).trans rfl
          have hfs47 := blk_frozen BK432.out 3
          have hns47_0 := NB401_432.out
          have hns47_1 := NB414_432.out
          have hns47_2 := NB425_432.out
          have hms47_0 := NB432_401.out
          have hms47_1 := NB432_414.out
          have hms47_2 := NB432_425.out
          refine skip_ (w1 := ?_) (by rfl) rfl ?_ ?_
          rotate_left
          ·go_simp
           rfl
          refine hK.out _ _ ⟨((cell_far (p := ⟨gb432, _, none⟩) NB401_432.out _).trans (((cell_far (p := ⟨gb432, _, none⟩) NB401_432.out _).trans (((cell_far (p := ⟨gb432, _, none⟩) NB401_432.out _).trans (((cell_far (p := ⟨gb432, _, none⟩) NB401_432.out _).trans (hHeld.1)))))))), ((cell_far (p := ⟨gb432, _, none⟩) NB401_432.out _).trans (((cell_far (p := ⟨gb432, _, none⟩) NB401_432.out _).trans (((cell_far (p := ⟨gb432, _, none⟩) NB401_432.out _).trans (((cell_far (p := ⟨gb432, _, none⟩) NB401_432.out _).trans (hHeld.2.1)))))))), ((cell_far (p := ⟨gb432, _, none⟩) NB401_432.out _).trans (((cell_far (p := ⟨gb432, _, none⟩) NB401_432.out _).trans (((cell_far (p := ⟨gb432, _, none⟩) NB401_432.out _).trans (((cell_far (p := ⟨gb432, _, none⟩) NB401_432.out _).trans (hHeld.2.2.1)))))))), ((cell_far (p := ⟨gb432, _, none⟩) NB401_432.out _).trans (((cell_far (p := ⟨gb432, _, none⟩) NB401_432.out _).trans (((cell_far (p := ⟨gb432, _, none⟩) NB401_432.out _).trans (((cell_far (p := ⟨gb432, _, none⟩) NB401_432.out _).trans (hHeld.2.2.2.1)))))))), ((cell_far (p := ⟨gb432, _, none⟩) (by first | exact Kd.own_blk (Kd.R_ne HO_9.out BK432.out (by decide)) | (rw [add_block]; exact Kd.own_blk (Kd.R_ne HO_9.out BK432.out (by decide))) | (show (Addr.add _ _).block ≠ _; rw [add_block]; exact Kd.own_blk (Kd.R_ne HO_9.out BK432.out (by decide))) | (dsimp only; exact Kd.own_blk (Kd.R_ne HO_9.out BK432.out (by decide)))) _).trans (((cell_far (p := ⟨gb432, _, none⟩) (by first | exact Kd.own_blk (Kd.R_ne HO_9.out BK432.out (by decide)) | (rw [add_block]; exact Kd.own_blk (Kd.R_ne HO_9.out BK432.out (by decide))) | (show (Addr.add _ _).block ≠ _; rw [add_block]; exact Kd.own_blk (Kd.R_ne HO_9.out BK432.out (by decide))) | (dsimp only; exact Kd.own_blk (Kd.R_ne HO_9.out BK432.out (by decide)))) _).trans (((cell_far (p := ⟨gb432, _, none⟩) (by first | exact Kd.own_blk (Kd.R_ne HO_9.out BK432.out (by decide)) | (rw [add_block]; exact Kd.own_blk (Kd.R_ne HO_9.out BK432.out (by decide))) | (show (Addr.add _ _).block ≠ _; rw [add_block]; exact Kd.own_blk (Kd.R_ne HO_9.out BK432.out (by decide))) | (dsimp only; exact Kd.own_blk (Kd.R_ne HO_9.out BK432.out (by decide)))) _).trans (((cell_far (p := ⟨gb432, _, none⟩) (by first | exact Kd.own_blk (Kd.R_ne HO_9.out BK432.out (by decide)) | (rw [add_block]; exact Kd.own_blk (Kd.R_ne HO_9.out BK432.out (by decide))) | (show (Addr.add _ _).block ≠ _; rw [add_block]; exact Kd.own_blk (Kd.R_ne HO_9.out BK432.out (by decide))) | (dsimp only; exact Kd.own_blk (Kd.R_ne HO_9.out BK432.out (by decide)))) _).trans (hHeld.2.2.2.2))))))))⟩ (fun hHeld => ?_)
          clear hK K
          refine pure_ (i := 11) (N := some 14) (v := ?_) (a' := ?_) #[true, true, true, true, true, true, true, true, true, true, true, true] rfl rfl (any_of HT_.out (by kernel_rfl)) (fun _ _ _ h => h) (Or.inl ⟨by rfl, ?_⟩) ?_ ?_
          rotate_left
          ·intro w'
           go_simp
           with_reducible rfl
          rotate_left
          ·simp only [Act.put, List.setIfInBounds_toArray, List.set_cons_zero, List.set_cons_succ, i64_w, i32_w]
           rfl
          refine done_ (done_of HT_.out (by kernel_rfl)) ?_
          try go_wp2
          have n0_ : Aside0 (Kd.R Kd.string 9 ((((w43.setCell ⟨gb432, 0, none⟩ (.string t427)).setCell ⟨gb432, 1, none⟩ (.int .i64 t428)).setCell ⟨gb432, 2, none⟩ (.int .i64 t429)).setCell ⟨gb432, 3, none⟩ (.string t430)) w.heap.size (fun _ => True) (.slice (some ad419) y415.length co30) y415) := ⟨by (with_reducible repeat (first | apply Kd.R_alloc | apply Kd.R_drewN | apply Kd.R_drew)); exact Kd.R_mono (Kd.R_far (p := ⟨gb432, 3, none⟩) (Kd.R_far (p := ⟨gb432, 2, none⟩) (Kd.R_far (p := ⟨gb432, 1, none⟩) (Kd.R_far (p := ⟨gb432, 0, none⟩) (Kd.R_types HO_9.out BK432.out (by decide)) (fun _ hk => hk.2) (.string t427)) (fun _ hk => hk.2) (.int .i64 t428)) (fun _ hk => hk.2) (.int .i64 t429)) (fun _ hk => hk.2) (.string t430)) (fun _ hk => trivial)⟩
          have n1_ : Aside0 (Kd.R k31 31 ((((w43.setCell ⟨gb432, 0, none⟩ (.string t427)).setCell ⟨gb432, 1, none⟩ (.int .i64 t428)).setCell ⟨gb432, 2, none⟩ (.int .i64 t429)).setCell ⟨gb432, 3, none⟩ (.string t430)) w.heap.size (fun k_ => k_ ≠ gb425 ∧ k_ ≠ gb432) (.slice Ao17 t410.length co17) t410) := ⟨by (with_reducible repeat (first | apply Kd.R_alloc | apply Kd.R_drewN | apply Kd.R_drew)); exact Kd.R_mono (Kd.R_far (p := ⟨gb432, 3, none⟩) (Kd.R_far (p := ⟨gb432, 2, none⟩) (Kd.R_far (p := ⟨gb432, 1, none⟩) (Kd.R_far (p := ⟨gb432, 0, none⟩) (Kd.R_mono HO_415003.out (fun k_ hk => (⟨hk, hk.2⟩ : _ ∧ k_ ≠ gb432))) (fun _ hk => hk.2) (.string t427)) (fun _ hk => hk.2) (.int .i64 t428)) (fun _ hk => hk.2) (.int .i64 t429)) (fun _ hk => hk.2) (.string t430)) (fun _ hk => ⟨hk.1.1, hk.1.2⟩)⟩
          have n2_ : Aside0 (((((w43.setCell ⟨gb432, 0, none⟩ (.string t427)).setCell ⟨gb432, 1, none⟩ (.int .i64 t428)).setCell ⟨gb432, 2, none⟩ (.int .i64 t429)).setCell ⟨gb432, 3, none⟩ (.string t430)).heap[gb401]? = some (.cells #[.int .i64 a0_0, .int .i64 a0_1, .int .i64 a0_2, .slice A0_3 l0_3.length c0_3] 43 (0, 0))) := ⟨by (with_reducible repeat (first | refine blk_drewN ?_ _ | refine blk_drew ?_ | refine blk_alloc ?_ _)); refine blk_far ?_ NB401_432.out _; (with_reducible repeat (first | refine blk_drewN ?_ _ | refine blk_drew ?_ | refine blk_alloc ?_ _)); refine blk_far ?_ NB401_432.out _; (with_reducible repeat (first | refine blk_drewN ?_ _ | refine blk_drew ?_ | refine blk_alloc ?_ _)); refine blk_far ?_ NB401_432.out _; (with_reducible repeat (first | refine blk_drewN ?_ _ | refine blk_drew ?_ | refine blk_alloc ?_ _)); refine blk_far ?_ NB401_432.out _; (with_reducible repeat (first | refine blk_drewN ?_ _ | refine blk_drew ?_ | refine blk_alloc ?_ _)); exact BK401.out⟩
          have n3_ : Aside0 (((((w43.setCell ⟨gb432, 0, none⟩ (.string t427)).setCell ⟨gb432, 1, none⟩ (.int .i64 t428)).setCell ⟨gb432, 2, none⟩ (.int .i64 t429)).setCell ⟨gb432, 3, none⟩ (.string t430)).heap[gb414]? = some (.cells #[.int .i64 t407, .int .i64 t408, .int .i64 t409, .slice Ao17 t410.length co17] 43 (0, 0))) := ⟨by (with_reducible repeat (first | refine blk_drewN ?_ _ | refine blk_drew ?_ | refine blk_alloc ?_ _)); refine blk_far ?_ NB414_432.out _; (with_reducible repeat (first | refine blk_drewN ?_ _ | refine blk_drew ?_ | refine blk_alloc ?_ _)); refine blk_far ?_ NB414_432.out _; (with_reducible repeat (first | refine blk_drewN ?_ _ | refine blk_drew ?_ | refine blk_alloc ?_ _)); refine blk_far ?_ NB414_432.out _; (with_reducible repeat (first | refine blk_drewN ?_ _ | refine blk_drew ?_ | refine blk_alloc ?_ _)); refine blk_far ?_ NB414_432.out _; (with_reducible repeat (first | refine blk_drewN ?_ _ | refine blk_drew ?_ | refine blk_alloc ?_ _)); exact BK414.out⟩
          have n4_ : Aside0 (((((w43.setCell ⟨gb432, 0, none⟩ (.string t427)).setCell ⟨gb432, 1, none⟩ (.int .i64 t428)).setCell ⟨gb432, 2, none⟩ (.int .i64 t429)).setCell ⟨gb432, 3, none⟩ (.string t430)).heap[gb425]? = some (.cells #[.string t420, .int .i64 t421, .int .i64 t422, .string t423] 31 (0, 0))) := ⟨by (with_reducible repeat (first | refine blk_drewN ?_ _ | refine blk_drew ?_ | refine blk_alloc ?_ _)); refine blk_far ?_ NB425_432.out _; (with_reducible repeat (first | refine blk_drewN ?_ _ | refine blk_drew ?_ | refine blk_alloc ?_ _)); refine blk_far ?_ NB425_432.out _; (with_reducible repeat (first | refine blk_drewN ?_ _ | refine blk_drew ?_ | refine blk_alloc ?_ _)); refine blk_far ?_ NB425_432.out _; (with_reducible repeat (first | refine blk_drewN ?_ _ | refine blk_drew ?_ | refine blk_alloc ?_ _)); refine blk_far ?_ NB425_432.out _; (with_reducible repeat (first | refine blk_drewN ?_ _ | refine blk_drew ?_ | refine blk_alloc ?_ _)); exact BK425.out⟩
          have n5_ : Aside0 (((((w43.setCell ⟨gb432, 0, none⟩ (.string t427)).setCell ⟨gb432, 1, none⟩ (.int .i64 t428)).setCell ⟨gb432, 2, none⟩ (.int .i64 t429)).setCell ⟨gb432, 3, none⟩ (.string t430)).heap[gb432]? = some (.cells #[.string t427, .int .i64 t428, .int .i64 t429, .string t430] 31 (0, 0))) := ⟨by (with_reducible repeat (first | refine blk_drewN ?_ _ | refine blk_drew ?_ | refine blk_alloc ?_ _)); refine blk_put (cs := #[.string t427, .int .i64 t428, .int .i64 t429, .string (⟨#[]⟩ : ByteArray)]) ?_ 3 _ rfl; (with_reducible repeat (first | refine blk_drewN ?_ _ | refine blk_drew ?_ | refine blk_alloc ?_ _)); refine blk_put (cs := #[.string t427, .int .i64 t428, .int .i64 0, .string (⟨#[]⟩ : ByteArray)]) ?_ 2 _ rfl; (with_reducible repeat (first | refine blk_drewN ?_ _ | refine blk_drew ?_ | refine blk_alloc ?_ _)); refine blk_put (cs := #[.string t427, .int .i64 0, .int .i64 0, .string (⟨#[]⟩ : ByteArray)]) ?_ 1 _ rfl; (with_reducible repeat (first | refine blk_drewN ?_ _ | refine blk_drew ?_ | refine blk_alloc ?_ _)); refine blk_put (cs := #[.string (⟨#[]⟩ : ByteArray), .int .i64 0, .int .i64 0, .string (⟨#[]⟩ : ByteArray)]) ?_ 0 _ rfl; (with_reducible repeat (first | refine blk_drewN ?_ _ | refine blk_drew ?_ | refine blk_alloc ?_ _)); exact BK432.out⟩
          have n6_ : Aside0 (Below w.heap.size w ((((w43.setCell ⟨gb432, 0, none⟩ (.string t427)).setCell ⟨gb432, 1, none⟩ (.int .i64 t428)).setCell ⟨gb432, 2, none⟩ (.int .i64 t429)).setCell ⟨gb432, 3, none⟩ (.string t430))) := ⟨by repeat (first | (with_reducible first | exact HB.out | apply below_alloc | apply pw_below_drewN | apply below_drew1 | refine below_set ?_ GE401.out | refine below_set ?_ GE414.out | refine below_set ?_ GE425.out | refine below_set ?_ GE432.out) | exact HB.out)⟩
          (try clear HO_9)
          (try clear HO_415003)
          (try clear BK401)
          (try clear BK414)
          (try clear BK425)
          (try clear BK432)
          (try clear HB)
          generalize ((((w43.setCell ⟨gb432, 0, none⟩ (.string t427)).setCell ⟨gb432, 1, none⟩ (.int .i64 t428)).setCell ⟨gb432, 2, none⟩ (.int .i64 t429)).setCell ⟨gb432, 3, none⟩ (.string t430)) = w48 at n0_ n1_ n2_ n3_ n4_ n5_ n6_ ⊢
          have HO_9 := n0_
          have HO_415003 := n1_
          have BK401 := n2_
          have BK414 := n3_
          have BK425 := n4_
          have BK432 := n5_
          have HB := n6_
          clear n0_ n1_ n2_ n3_ n4_ n5_ n6_
          have n0_ := Aside0.mk (Kd.R_drew HO_9.out)
          have n1_ := Aside0.mk (Kd.R_drew HO_415003.out)
          have n2_ := Aside0.mk (blk_drew BK401.out)
          have n3_ := Aside0.mk (blk_drew BK414.out)
          have n4_ := Aside0.mk (blk_drew BK425.out)
          have n5_ := Aside0.mk (blk_drew BK432.out)
          have n6_ := Aside0.mk (below_drew1 HB.out)
          clear HO_9
          clear HO_415003
          clear BK401
          clear BK414
          clear BK425
          clear BK432
          clear HB
          have HO_9 := n0_
          have HO_415003 := n1_
          have BK401 := n2_
          have BK414 := n3_
          have BK425 := n4_
          have BK432 := n5_
          have HB := n6_
          clear n0_ n1_ n2_ n3_ n4_ n5_ n6_
          have p433 : 0 ≤ (x10_1 : Int) := of_decide_eq_true (by first | (with_reducible assumption) | assumption)
          have q433 : x10_1 < (y415.length : Int) := of_decide_eq_true (by first | (with_reducible assumption) | assumption)
          obtain ⟨ad433, e433, hx433_0⟩ := Kd.at_string (Kd.R_reads' HO_9.out).2.2 x10_1 p433 q433
          obtain rfl : ad419 = ad433 := (by injection e433)
          replace p433 := eq_true p433
          replace q433 := eq_true q433
          refine start_ (n := 12) (S := fun w' => w'.cell? ⟨gb414, 0, none⟩ = some (.int .i64 t407) ∧ w'.cell? ⟨gb414, 1, none⟩ = some (.int .i64 t408) ∧ w'.cell? ⟨gb414, 2, none⟩ = some (.int .i64 t409) ∧ w'.cell? ⟨gb414, 3, none⟩ = some (.slice Ao17 t410.length co17) ∧ w'.cell? (ad419.add (x10_1).toNat) = some (.string (rdOf ByteArray.empty y415 x10_1))) (ds := []) #[false, false, false, false, false, false, false, false, false, false, false, false] (by kernel_rfl) rfl rfl ⟨(blk_cell BK414.out 0).trans rfl, (blk_cell BK414.out 1).trans rfl, (blk_cell BK414.out 2).trans rfl, (blk_cell BK414.out 3).trans rfl, hx433_0⟩ (fun hHeld => ?_); refine with_tabW kauditlaw03_RecordGets.tab11 kauditlaw03_RecordGets.bits11 (fun HT_ HW_ => ?_)
          generalize w48.drew = w49 at HO_9 HO_415003 BK401 BK414 BK425 BK432 HB hx433_0 hHeld ⊢
          refine pure_ (i := 1) (N := some 55) (v := ?_) (a' := ?_) #[false, true, false, false, false, false, false, false, false, false, false, false] rfl rfl (any_of HT_.out (by kernel_rfl)) (fun _ _ _ h => h) (Or.inl ⟨by rfl, ?_⟩) ?_ ?_
          rotate_left
          ·intro w'
           go_simp
           with_reducible rfl
          rotate_left
          ·simp only [Act.put, List.setIfInBounds_toArray, List.set_cons_zero, List.set_cons_succ, i64_w, i32_w]
           rfl
          refine pure_ (i := 2) (N := some 56) (v := ?_) (a' := ?_) #[false, true, true, false, false, false, false, false, false, false, false, false] rfl rfl (any_of HT_.out (by kernel_rfl)) (fun _ _ _ h => h) (Or.inl ⟨by rfl, ?_⟩) ?_ ?_
          rotate_left
          ·intro w'
           go_simp
           with_reducible rfl
          rotate_left
          ·simp only [Act.put, List.setIfInBounds_toArray, List.set_cons_zero, List.set_cons_succ, i64_w, i32_w]
           rfl
          refine pure_ (i := 3) (N := some 57) (v := ?_) (a' := ?_) #[false, true, true, true, false, false, false, false, false, false, false, false] rfl rfl (any_of HT_.out (by kernel_rfl)) (fun _ _ _ h => h) (Or.inl ⟨by rfl, ?_⟩) ?_ ?_
          rotate_left
          ·intro w'
           go_simp
           with_reducible rfl
          rotate_left
          ·simp only [Act.put, List.setIfInBounds_toArray, List.set_cons_zero, List.set_cons_succ, i64_w, i32_w]
           rfl
          refine take_ (i := 0) (N := some 54) (v := ?_) (a' := ?_) #[true, true, true, true, false, false, false, false, false, false, false, false] rfl rfl (take_ofW HT_.out HW_.out (by kernel_rfl)) (fun _ _ _ h => h) (Or.inl ⟨by rfl, ?_⟩) hHeld ?_ ?_
          rotate_left
          ·rintro w' ⟨s0, s1, s2, s3, s4⟩
           go_simp
           with_reducible rfl
          rotate_left
          ·simp only [Act.put, List.setIfInBounds_toArray, List.set_cons_zero, List.set_cons_succ, i64_w, i32_w]
           rfl
          refine take_ (i := 4) (N := some 58) (v := ?_) (a' := ?_) #[true, true, true, true, true, false, false, false, false, false, false, false] rfl rfl (take_ofW HT_.out HW_.out (by kernel_rfl)) (fun _ _ _ h => h) (Or.inl ⟨by rfl, ?_⟩) hHeld ?_ ?_
          rotate_left
          ·rintro w' ⟨s0, s1, s2, s3, s4⟩
           go_simp
           with_reducible rfl
          rotate_left
          ·simp only [Act.put, List.setIfInBounds_toArray, List.set_cons_zero, List.set_cons_succ, i64_w, i32_w]
           rfl
          refine join_ (σ := Nat) 2 #[true, true, true, true, true, true, true, true, true, true, false, false] (fun s_ => [(59, .tuple #[.agg #[.string t434, .int .i64 t435, .int .i64 t436, .string t437], .bool t438]), (15, .pointer (some ⟨s_, 0, none⟩)), (53, .tuple #[.agg #[.string t434, .int .i64 t435, .int .i64 t436, .string t437], .bool t438]), (60, .agg #[.string t434, .int .i64 t435, .int .i64 t436, .string t437]), (61, .bool t438)]) (fun s_ w' => (w'.cell? ⟨gb414, 0, none⟩ = some (.int .i64 t407) ∧ w'.cell? ⟨gb414, 1, none⟩ = some (.int .i64 t408) ∧ w'.cell? ⟨gb414, 2, none⟩ = some (.int .i64 t409) ∧ w'.cell? ⟨gb414, 3, none⟩ = some (.slice Ao17 t410.length co17) ∧ w'.cell? (ad419.add (x10_1).toNat) = some (.string (rdOf ByteArray.empty y415 x10_1))) ∧ (Kd.R k31 31 w' w.heap.size (fun k_ => k_ ≠ gb425 ∧ k_ ≠ gb432 ∧ k_ ≠ s_) (.slice Ao17 t410.length co17) t410) ∧ (Kd.R Kd.string 9 w' w.heap.size (fun _ => True) (.slice (some ad419) y415.length co30) y415) ∧ (w'.heap[gb401]? = some (.cells #[.int .i64 a0_0, .int .i64 a0_1, .int .i64 a0_2, .slice A0_3 l0_3.length c0_3] 43 (0, 0))) ∧ (w'.heap[gb414]? = some (.cells #[.int .i64 t407, .int .i64 t408, .int .i64 t409, .slice Ao17 t410.length co17] 43 (0, 0))) ∧ (w'.heap[gb425]? = some (.cells #[.string t420, .int .i64 t421, .int .i64 t422, .string t423] 31 (0, 0))) ∧ (w'.heap[gb432]? = some (.cells #[.string t427, .int .i64 t428, .int .i64 t429, .string t430] 31 (0, 0))) ∧ (w'.heap[s_]? = some (.cells #[.string (⟨#[]⟩ : ByteArray), .int .i64 0, .int .i64 0, .string (⟨#[]⟩ : ByteArray)] 31 (0, 0))) ∧ (w.heap.size ≤ s_) ∧ (w.heap.size ≤ s_) ∧ (gb401 ≠ s_) ∧ (s_ ≠ gb401) ∧ (gb414 ≠ s_) ∧ (s_ ≠ gb414) ∧ (gb425 ≠ s_) ∧ (s_ ≠ gb425) ∧ (gb432 ≠ s_) ∧ (s_ ≠ gb432) ∧ (Below w.heap.size w w')) ?_ ?_
          rotate_left
          ·intro hCont
           refine two_ (i := 5) (j := 9) (Ni := some 59) (Nj := some 15) #[true, true, true, true, true, true, false, false, false, false, false, false] #[true, true, true, true, true, false, false, false, false, true, false, false] rfl rfl rfl rfl (two_of HT_.out (by kernel_rfl)) (by decide) (by decide) (fun K hK => ?_) (fun K hK => ?_)
           ·skip
            refine goes_ Tryd.func37 (by kernel_rfl) rfl #[.agg #[.int .i64 t407, .int .i64 t408, .int .i64 t409, .slice Ao17 t410.length co17], .string (rdOf ByteArray.empty y415 x10_1)] (by rfl) rfl rfl (by (try simp only [List.map_toArray, List.map_cons, List.map_nil]); first | done | rfl | (simp only [List.length_drop, List.length_take]; rfl)) ?_
            with_reducible refine (record_Get.calls k1 t407 t408 t409 _ _ t410 (rdOf ByteArray.empty y415 x10_1) t434 t435 t436 t437 t438 _ ?side1 ?side2 A24.out).mono ?_
            (case side1 => repeat (first | exact (Kd.R_reads' HO_415003.out).2.2 | (with_reducible refine Kd.C_alloc ?_ _) | (with_reducible refine Kd.C_drewN ?_ _) | (with_reducible refine Kd.C_drew ?_)))
            (case side2 => exact (Kd.R_reads' HO_415003.out).2.1)
            rintro e w50 ⟨rfl, hb⟩
            have HS4_ := (hb.cell (World.block_lt_of_cell? _ _ (hHeld.2.2.2.2))).trans (hHeld.2.2.2.2)
            refine ⟨_, rfl, ?_⟩
            have n0_ := Aside0.mk (Kd.R_below (by (with_reducible repeat (first | apply Kd.R_alloc | apply Kd.R_drewN | apply Kd.R_drew)); exact HO_9.out) hb)
            have n1_ := Aside0.mk (Kd.R_below (by (with_reducible repeat (first | apply Kd.R_alloc | apply Kd.R_drewN | apply Kd.R_drew)); exact HO_415003.out) hb)
            have n2_ := Aside0.mk (blk_below (g := gb401) (o := .cells #[.int .i64 a0_0, .int .i64 a0_1, .int .i64 a0_2, .slice A0_3 l0_3.length c0_3] 43 (0, 0)) (by (with_reducible repeat (first | refine blk_drewN ?_ _ | refine blk_drew ?_ | refine blk_alloc ?_ _)); exact BK401.out) hb)
            have n3_ := Aside0.mk (blk_below (g := gb414) (o := .cells #[.int .i64 t407, .int .i64 t408, .int .i64 t409, .slice Ao17 t410.length co17] 43 (0, 0)) (by (with_reducible repeat (first | refine blk_drewN ?_ _ | refine blk_drew ?_ | refine blk_alloc ?_ _)); exact BK414.out) hb)
            have n4_ := Aside0.mk (blk_below (g := gb425) (o := .cells #[.string t420, .int .i64 t421, .int .i64 t422, .string t423] 31 (0, 0)) (by (with_reducible repeat (first | refine blk_drewN ?_ _ | refine blk_drew ?_ | refine blk_alloc ?_ _)); exact BK425.out) hb)
            have n5_ := Aside0.mk (blk_below (g := gb432) (o := .cells #[.string t427, .int .i64 t428, .int .i64 t429, .string t430] 31 (0, 0)) (by (with_reducible repeat (first | refine blk_drewN ?_ _ | refine blk_drew ?_ | refine blk_alloc ?_ _)); exact BK432.out) hb)
            have n6_ := Aside0.mk (below_step (by repeat (first | (with_reducible first | exact HB.out | apply below_alloc | apply pw_below_drewN | apply below_drew1 | refine below_set ?_ GE401.out | refine below_set ?_ GE414.out | refine below_set ?_ GE425.out | refine below_set ?_ GE432.out) | exact HB.out)) hb)
            clear HO_9
            clear HO_415003
            clear BK401
            clear BK414
            clear BK425
            clear BK432
            clear HB
            have HO_9 := n0_
            have HO_415003 := n1_
            have BK401 := n2_
            have BK414 := n3_
            have BK425 := n4_
            have BK432 := n5_
            have HB := n6_
            clear n0_ n1_ n2_ n3_ n4_ n5_ n6_
            (try clear hb)
            (try clear hb2)
            (try clear hk)
            (try clear hi)
            refine hK.out _ _ ⟨(blk_cell BK414.out 0).trans rfl, (blk_cell BK414.out 1).trans rfl, (blk_cell BK414.out 2).trans rfl, (blk_cell BK414.out 3).trans rfl, HS4_⟩ (fun hHeld => ?_)
            clear hK K
            refine norm_ (a' := ?_) ?_ ?_
            rotate_left
            ·show Act.put _ (some 59) _ = _
             simp only [Act.put, List.setIfInBounds_toArray, List.set_cons_zero, List.set_cons_succ, i64_w, i32_w]
             rfl
            refine pure_ (i := 6) (N := some 53) (v := ?_) (a' := ?_) #[true, true, true, true, true, true, true, false, false, false, false, false] rfl rfl (any_of HT_.out (by kernel_rfl)) (fun _ _ _ h => h) (Or.inl ⟨by rfl, ?_⟩) ?_ ?_
            rotate_left
            ·intro w'
             go_simp
             with_reducible rfl
            rotate_left
            ·simp only [Act.put, List.setIfInBounds_toArray, List.set_cons_zero, List.set_cons_succ, i64_w, i32_w]
             rfl
            refine pure_ (i := 7) (N := some 60) (v := ?_) (a' := ?_) #[true, true, true, true, true, true, true, true, false, false, false, false] rfl rfl (any_of HT_.out (by kernel_rfl)) (fun _ _ _ h => h) (Or.inl ⟨by rfl, ?_⟩) ?_ ?_
            rotate_left
            ·intro w'
             go_simp
             with_reducible rfl
            rotate_left
            ·simp only [Act.put, List.setIfInBounds_toArray, List.set_cons_zero, List.set_cons_succ, i64_w, i32_w]
             rfl
            refine pure_ (i := 8) (N := some 61) (v := ?_) (a' := ?_) #[true, true, true, true, true, true, true, true, true, false, false, false] rfl rfl (any_of HT_.out (by kernel_rfl)) (fun _ _ _ h => h) (Or.inl ⟨by rfl, ?_⟩) ?_ ?_
            rotate_left
            ·intro w'
             go_simp
             with_reducible rfl
            rotate_left
            ·simp only [Act.put, List.setIfInBounds_toArray, List.set_cons_zero, List.set_cons_succ, i64_w, i32_w]
             rfl
            refine one_ (i := 9) (N := some 15) #[true, true, true, true, true, true, true, true, true, true, false, false] rfl rfl (one_of HT_.out (by kernel_rfl)) (by decide) (fun K hK => ?_)
            refine box_step ?hg (N := 15) ?hd (cs := #[.string (⟨#[]⟩ : ByteArray), .int .i64 0, .int .i64 0, .string (⟨#[]⟩ : ByteArray)]) (t := 31) ?hr ?_; (case hd => rfl); (case hg => rfl); (case hr => first | (go_simp; done) | (go_simp; rfl))
            intro gb439 hg w51 hbox hb
            have HS4_ := (hb.cell (World.block_lt_of_cell? _ _ (hHeld.2.2.2.2))).trans (hHeld.2.2.2.2)
            have n0_ := Aside0.mk (Kd.R_below (by (with_reducible repeat (first | apply Kd.R_alloc | apply Kd.R_drewN | apply Kd.R_drew)); exact HO_9.out) hb)
            have n1_ := Aside0.mk (Kd.R_below (Kd.R_elderB (by (with_reducible repeat (first | apply Kd.R_alloc | apply Kd.R_drewN | apply Kd.R_drew)); exact HO_415003.out) gb439 (Nat.le_of_eq hg.symm)) hb)
            have n2_ := Aside0.mk (blk_below (g := gb401) (o := .cells #[.int .i64 a0_0, .int .i64 a0_1, .int .i64 a0_2, .slice A0_3 l0_3.length c0_3] 43 (0, 0)) (by (with_reducible repeat (first | refine blk_drewN ?_ _ | refine blk_drew ?_ | refine blk_alloc ?_ _)); exact BK401.out) hb)
            have n3_ := Aside0.mk (blk_below (g := gb414) (o := .cells #[.int .i64 t407, .int .i64 t408, .int .i64 t409, .slice Ao17 t410.length co17] 43 (0, 0)) (by (with_reducible repeat (first | refine blk_drewN ?_ _ | refine blk_drew ?_ | refine blk_alloc ?_ _)); exact BK414.out) hb)
            have n4_ := Aside0.mk (blk_below (g := gb425) (o := .cells #[.string t420, .int .i64 t421, .int .i64 t422, .string t423] 31 (0, 0)) (by (with_reducible repeat (first | refine blk_drewN ?_ _ | refine blk_drew ?_ | refine blk_alloc ?_ _)); exact BK425.out) hb)
            have n5_ := Aside0.mk (blk_below (g := gb432) (o := .cells #[.string t427, .int .i64 t428, .int .i64 t429, .string t430] 31 (0, 0)) (by (with_reducible repeat (first | refine blk_drewN ?_ _ | refine blk_drew ?_ | refine blk_alloc ?_ _)); exact BK432.out) hb)
            have n6_ := Aside0.mk (below_step (by repeat (first | (with_reducible first | exact HB.out | apply below_alloc | apply pw_below_drewN | apply below_drew1 | refine below_set ?_ GE401.out | refine below_set ?_ GE414.out | refine below_set ?_ GE425.out | refine below_set ?_ GE432.out) | exact HB.out)) hb)
            have n7_ := Aside0.mk (hbox)
            have n8_ := Aside0.mk ((by rw [hg]; exact (below_size (by repeat (first | (with_reducible first | exact HB.out | apply below_alloc | apply pw_below_drewN | apply below_drew1 | refine below_set ?_ GE401.out | refine below_set ?_ GE414.out | refine below_set ?_ GE425.out | refine below_set ?_ GE432.out) | exact HB.out))) : w.heap.size ≤ gb439))
            have n9_ := Aside0.mk ((by rw [hg]; exact (below_size (by repeat (first | (with_reducible first | exact HB.out | apply below_alloc | apply pw_below_drewN | apply below_drew1 | refine below_set ?_ GE401.out | refine below_set ?_ GE414.out | refine below_set ?_ GE425.out | refine below_set ?_ GE432.out) | exact HB.out))) : w.heap.size ≤ gb439))
            have n10_ := Aside0.mk ((by rw [hg]; exact Nat.ne_of_lt (blk_lt (g := gb401) (o := .cells #[.int .i64 a0_0, .int .i64 a0_1, .int .i64 a0_2, .slice A0_3 l0_3.length c0_3] 43 (0, 0)) (by (with_reducible repeat (first | refine blk_drewN ?_ _ | refine blk_drew ?_ | refine blk_alloc ?_ _)); exact BK401.out)) : gb401 ≠ gb439))
            have n11_ := Aside0.mk ((by rw [hg]; exact Nat.ne_of_gt (blk_lt (g := gb401) (o := .cells #[.int .i64 a0_0, .int .i64 a0_1, .int .i64 a0_2, .slice A0_3 l0_3.length c0_3] 43 (0, 0)) (by (with_reducible repeat (first | refine blk_drewN ?_ _ | refine blk_drew ?_ | refine blk_alloc ?_ _)); exact BK401.out)) : gb439 ≠ gb401))
            have n12_ := Aside0.mk ((by rw [hg]; exact Nat.ne_of_lt (blk_lt (g := gb414) (o := .cells #[.int .i64 t407, .int .i64 t408, .int .i64 t409, .slice Ao17 t410.length co17] 43 (0, 0)) (by (with_reducible repeat (first | refine blk_drewN ?_ _ | refine blk_drew ?_ | refine blk_alloc ?_ _)); exact BK414.out)) : gb414 ≠ gb439))
            have n13_ := Aside0.mk ((by rw [hg]; exact Nat.ne_of_gt (blk_lt (g := gb414) (o := .cells #[.int .i64 t407, .int .i64 t408, .int .i64 t409, .slice Ao17 t410.length co17] 43 (0, 0)) (by (with_reducible repeat (first | refine blk_drewN ?_ _ | refine blk_drew ?_ | refine blk_alloc ?_ _)); exact BK414.out)) : gb439 ≠ gb414))
            have n14_ := Aside0.mk ((by rw [hg]; exact Nat.ne_of_lt (blk_lt (g := gb425) (o := .cells #[.string t420, .int .i64 t421, .int .i64 t422, .string t423] 31 (0, 0)) (by (with_reducible repeat (first | refine blk_drewN ?_ _ | refine blk_drew ?_ | refine blk_alloc ?_ _)); exact BK425.out)) : gb425 ≠ gb439))
            have n15_ := Aside0.mk ((by rw [hg]; exact Nat.ne_of_gt (blk_lt (g := gb425) (o := .cells #[.string t420, .int .i64 t421, .int .i64 t422, .string t423] 31 (0, 0)) (by (with_reducible repeat (first | refine blk_drewN ?_ _ | refine blk_drew ?_ | refine blk_alloc ?_ _)); exact BK425.out)) : gb439 ≠ gb425))
            have n16_ := Aside0.mk ((by rw [hg]; exact Nat.ne_of_lt (blk_lt (g := gb432) (o := .cells #[.string t427, .int .i64 t428, .int .i64 t429, .string t430] 31 (0, 0)) (by (with_reducible repeat (first | refine blk_drewN ?_ _ | refine blk_drew ?_ | refine blk_alloc ?_ _)); exact BK432.out)) : gb432 ≠ gb439))
            have n17_ := Aside0.mk ((by rw [hg]; exact Nat.ne_of_gt (blk_lt (g := gb432) (o := .cells #[.string t427, .int .i64 t428, .int .i64 t429, .string t430] 31 (0, 0)) (by (with_reducible repeat (first | refine blk_drewN ?_ _ | refine blk_drew ?_ | refine blk_alloc ?_ _)); exact BK432.out)) : gb439 ≠ gb432))
            clear HO_9
            clear HO_415003
            clear BK401
            clear BK414
            clear BK425
            clear BK432
            clear HB
            have HO_9 := n0_
            have HO_415003 := n1_
            have BK401 := n2_
            have BK414 := n3_
            have BK425 := n4_
            have BK432 := n5_
            have HB := n6_
            have BK439 := n7_
            have GW439 := n8_
            have GE439 := n9_
            have NB401_439 := n10_
            have NB439_401 := n11_
            have NB414_439 := n12_
            have NB439_414 := n13_
            have NB425_439 := n14_
            have NB439_425 := n15_
            have NB432_439 := n16_
            have NB439_432 := n17_
            clear n0_ n1_ n2_ n3_ n4_ n5_ n6_ n7_ n8_ n9_ n10_ n11_ n12_ n13_ n14_ n15_ n16_ n17_
            clear hb hbox hg
            refine hK.out _ _ ⟨(blk_cell BK414.out 0).trans rfl, (blk_cell BK414.out 1).trans rfl, (blk_cell BK414.out 2).trans rfl, (blk_cell BK414.out 3).trans rfl, HS4_⟩ (fun hHeld => ?_)
            clear hK K
            refine norm_ (a' := ?_) ?_ ?_
            rotate_left
            ·show Act.put _ (some 15) _ = _
             simp only [Act.put, List.setIfInBounds_toArray, List.set_cons_zero, List.set_cons_succ, i64_w, i32_w]
             rfl
            exact norm_ (by simp only [putAll, Act.put, List.setIfInBounds_toArray, List.set_cons_zero, List.set_cons_succ]) (hCont (gb439) _ ⟨hHeld, (by (with_reducible repeat (first | apply Kd.R_alloc | apply Kd.R_drewN | apply Kd.R_drew)); exact Kd.R_mono HO_415003.out (fun _ hk => ⟨hk.1.1, ⟨hk.1.2, hk.2⟩⟩)), (by (with_reducible repeat (first | apply Kd.R_alloc | apply Kd.R_drewN | apply Kd.R_drew)); exact HO_9.out), (by (with_reducible repeat (first | refine blk_drewN ?_ _ | refine blk_drew ?_ | refine blk_alloc ?_ _)); exact BK401.out), (by (with_reducible repeat (first | refine blk_drewN ?_ _ | refine blk_drew ?_ | refine blk_alloc ?_ _)); exact BK414.out), (by (with_reducible repeat (first | refine blk_drewN ?_ _ | refine blk_drew ?_ | refine blk_alloc ?_ _)); exact BK425.out), (by (with_reducible repeat (first | refine blk_drewN ?_ _ | refine blk_drew ?_ | refine blk_alloc ?_ _)); exact BK432.out), (by (with_reducible repeat (first | refine blk_drewN ?_ _ | refine blk_drew ?_ | refine blk_alloc ?_ _)); exact BK439.out), GW439.out, GE439.out, NB401_439.out, NB439_401.out, NB414_439.out, NB439_414.out, NB425_439.out, NB439_425.out, NB432_439.out, NB439_432.out, (by repeat (first | (with_reducible first | exact HB.out | apply below_alloc | apply pw_below_drewN | apply below_drew1 | refine below_set ?_ GE401.out | refine below_set ?_ GE414.out | refine below_set ?_ GE425.out | refine below_set ?_ GE432.out | refine below_set ?_ GE439.out) | exact HB.out))⟩)
           ·skip
            refine box_step ?hg (N := 15) ?hd (cs := #[.string (⟨#[]⟩ : ByteArray), .int .i64 0, .int .i64 0, .string (⟨#[]⟩ : ByteArray)]) (t := 31) ?hr ?_; (case hd => rfl); (case hg => rfl); (case hr => first | (go_simp; done) | (go_simp; rfl))
            intro gb439 hg w50 hbox hb
            have HS4_ := (hb.cell (World.block_lt_of_cell? _ _ (hHeld.2.2.2.2))).trans (hHeld.2.2.2.2)
            have n0_ := Aside0.mk (Kd.R_below (by (with_reducible repeat (first | apply Kd.R_alloc | apply Kd.R_drewN | apply Kd.R_drew)); exact HO_9.out) hb)
            have n1_ := Aside0.mk (Kd.R_below (Kd.R_elderB (by (with_reducible repeat (first | apply Kd.R_alloc | apply Kd.R_drewN | apply Kd.R_drew)); exact HO_415003.out) gb439 (Nat.le_of_eq hg.symm)) hb)
            have n2_ := Aside0.mk (blk_below (g := gb401) (o := .cells #[.int .i64 a0_0, .int .i64 a0_1, .int .i64 a0_2, .slice A0_3 l0_3.length c0_3] 43 (0, 0)) (by (with_reducible repeat (first | refine blk_drewN ?_ _ | refine blk_drew ?_ | refine blk_alloc ?_ _)); exact BK401.out) hb)
            have n3_ := Aside0.mk (blk_below (g := gb414) (o := .cells #[.int .i64 t407, .int .i64 t408, .int .i64 t409, .slice Ao17 t410.length co17] 43 (0, 0)) (by (with_reducible repeat (first | refine blk_drewN ?_ _ | refine blk_drew ?_ | refine blk_alloc ?_ _)); exact BK414.out) hb)
            have n4_ := Aside0.mk (blk_below (g := gb425) (o := .cells #[.string t420, .int .i64 t421, .int .i64 t422, .string t423] 31 (0, 0)) (by (with_reducible repeat (first | refine blk_drewN ?_ _ | refine blk_drew ?_ | refine blk_alloc ?_ _)); exact BK425.out) hb)
            have n5_ := Aside0.mk (blk_below (g := gb432) (o := .cells #[.string t427, .int .i64 t428, .int .i64 t429, .string t430] 31 (0, 0)) (by (with_reducible repeat (first | refine blk_drewN ?_ _ | refine blk_drew ?_ | refine blk_alloc ?_ _)); exact BK432.out) hb)
            have n6_ := Aside0.mk (below_step (by repeat (first | (with_reducible first | exact HB.out | apply below_alloc | apply pw_below_drewN | apply below_drew1 | refine below_set ?_ GE401.out | refine below_set ?_ GE414.out | refine below_set ?_ GE425.out | refine below_set ?_ GE432.out) | exact HB.out)) hb)
            have n7_ := Aside0.mk (hbox)
            have n8_ := Aside0.mk ((by rw [hg]; exact (below_size (by repeat (first | (with_reducible first | exact HB.out | apply below_alloc | apply pw_below_drewN | apply below_drew1 | refine below_set ?_ GE401.out | refine below_set ?_ GE414.out | refine below_set ?_ GE425.out | refine below_set ?_ GE432.out) | exact HB.out))) : w.heap.size ≤ gb439))
            have n9_ := Aside0.mk ((by rw [hg]; exact (below_size (by repeat (first | (with_reducible first | exact HB.out | apply below_alloc | apply pw_below_drewN | apply below_drew1 | refine below_set ?_ GE401.out | refine below_set ?_ GE414.out | refine below_set ?_ GE425.out | refine below_set ?_ GE432.out) | exact HB.out))) : w.heap.size ≤ gb439))
            have n10_ := Aside0.mk ((by rw [hg]; exact Nat.ne_of_lt (blk_lt (g := gb401) (o := .cells #[.int .i64 a0_0, .int .i64 a0_1, .int .i64 a0_2, .slice A0_3 l0_3.length c0_3] 43 (0, 0)) (by (with_reducible repeat (first | refine blk_drewN ?_ _ | refine blk_drew ?_ | refine blk_alloc ?_ _)); exact BK401.out)) : gb401 ≠ gb439))
            have n11_ := Aside0.mk ((by rw [hg]; exact Nat.ne_of_gt (blk_lt (g := gb401) (o := .cells #[.int .i64 a0_0, .int .i64 a0_1, .int .i64 a0_2, .slice A0_3 l0_3.length c0_3] 43 (0, 0)) (by (with_reducible repeat (first | refine blk_drewN ?_ _ | refine blk_drew ?_ | refine blk_alloc ?_ _)); exact BK401.out)) : gb439 ≠ gb401))
            have n12_ := Aside0.mk ((by rw [hg]; exact Nat.ne_of_lt (blk_lt (g := gb414) (o := .cells #[.int .i64 t407, .int .i64 t408, .int .i64 t409, .slice Ao17 t410.length co17] 43 (0, 0)) (by (with_reducible repeat (first | refine blk_drewN ?_ _ | refine blk_drew ?_ | refine blk_alloc ?_ _)); exact BK414.out)) : gb414 ≠ gb439))
            have n13_ := Aside0.mk ((by rw [hg]; exact Nat.ne_of_gt (blk_lt (g := gb414) (o := .cells #[.int .i64 t407, .int .i64 t408, .int .i64 t409, .slice Ao17 t410.length co17] 43 (0, 0)) (by (with_reducible repeat (first | refine blk_drewN ?_ _ | refine blk_drew ?_ | refine blk_alloc ?_ _)); exact BK414.out)) : gb439 ≠ gb414))
            have n14_ := Aside0.mk ((by rw [hg]; exact Nat.ne_of_lt (blk_lt (g := gb425) (o := .cells #[.string t420, .int .i64 t421, .int .i64 t422, .string t423] 31 (0, 0)) (by (with_reducible repeat (first | refine blk_drewN ?_ _ | refine blk_drew ?_ | refine blk_alloc ?_ _)); exact BK425.out)) : gb425 ≠ gb439))
            have n15_ := Aside0.mk ((by rw [hg]; exact Nat.ne_of_gt (blk_lt (g := gb425) (o := .cells #[.string t420, .int .i64 t421, .int .i64 t422, .string t423] 31 (0, 0)) (by (with_reducible repeat (first | refine blk_drewN ?_ _ | refine blk_drew ?_ | refine blk_alloc ?_ _)); exact BK425.out)) : gb439 ≠ gb425))
            have n16_ := Aside0.mk ((by rw [hg]; exact Nat.ne_of_lt (blk_lt (g := gb432) (o := .cells #[.string t427, .int .i64 t428, .int .i64 t429, .string t430] 31 (0, 0)) (by (with_reducible repeat (first | refine blk_drewN ?_ _ | refine blk_drew ?_ | refine blk_alloc ?_ _)); exact BK432.out)) : gb432 ≠ gb439))
            have n17_ := Aside0.mk ((by rw [hg]; exact Nat.ne_of_gt (blk_lt (g := gb432) (o := .cells #[.string t427, .int .i64 t428, .int .i64 t429, .string t430] 31 (0, 0)) (by (with_reducible repeat (first | refine blk_drewN ?_ _ | refine blk_drew ?_ | refine blk_alloc ?_ _)); exact BK432.out)) : gb439 ≠ gb432))
            clear HO_9
            clear HO_415003
            clear BK401
            clear BK414
            clear BK425
            clear BK432
            clear HB
            have HO_9 := n0_
            have HO_415003 := n1_
            have BK401 := n2_
            have BK414 := n3_
            have BK425 := n4_
            have BK432 := n5_
            have HB := n6_
            have BK439 := n7_
            have GW439 := n8_
            have GE439 := n9_
            have NB401_439 := n10_
            have NB439_401 := n11_
            have NB414_439 := n12_
            have NB439_414 := n13_
            have NB425_439 := n14_
            have NB439_425 := n15_
            have NB432_439 := n16_
            have NB439_432 := n17_
            clear n0_ n1_ n2_ n3_ n4_ n5_ n6_ n7_ n8_ n9_ n10_ n11_ n12_ n13_ n14_ n15_ n16_ n17_
            clear hb hbox hg
            refine hK.out _ _ ⟨(blk_cell BK414.out 0).trans rfl, (blk_cell BK414.out 1).trans rfl, (blk_cell BK414.out 2).trans rfl, (blk_cell BK414.out 3).trans rfl, HS4_⟩ (fun hHeld => ?_)
            clear hK K
            refine norm_ (a' := ?_) ?_ ?_
            rotate_left
            ·show Act.put _ (some 15) _ = _
             simp only [Act.put, List.setIfInBounds_toArray, List.set_cons_zero, List.set_cons_succ, i64_w, i32_w]
             rfl
            refine one_ (i := 5) (N := some 59) #[true, true, true, true, true, true, false, false, false, true, false, false] rfl rfl (one_of HT_.out (by kernel_rfl)) (by decide) (fun K hK => ?_)
            refine goes_ Tryd.func37 (by kernel_rfl) rfl #[.agg #[.int .i64 t407, .int .i64 t408, .int .i64 t409, .slice Ao17 t410.length co17], .string (rdOf ByteArray.empty y415 x10_1)] (by rfl) rfl rfl (by (try simp only [List.map_toArray, List.map_cons, List.map_nil]); first | done | rfl | (simp only [List.length_drop, List.length_take]; rfl)) ?_
            with_reducible refine (record_Get.calls k1 t407 t408 t409 _ _ t410 (rdOf ByteArray.empty y415 x10_1) t434 t435 t436 t437 t438 _ ?side1 ?side2 A24.out).mono ?_
            (case side1 => repeat (first | exact (Kd.R_reads' HO_415003.out).2.2 | (with_reducible refine Kd.C_alloc ?_ _) | (with_reducible refine Kd.C_drewN ?_ _) | (with_reducible refine Kd.C_drew ?_)))
            (case side2 => exact (Kd.R_reads' HO_415003.out).2.1)
            rintro e w51 ⟨rfl, hb⟩
            have HS4_ := (hb.cell (World.block_lt_of_cell? _ _ (hHeld.2.2.2.2))).trans (hHeld.2.2.2.2)
            refine ⟨_, rfl, ?_⟩
            have n0_ := Aside0.mk (Kd.R_below (by (with_reducible repeat (first | apply Kd.R_alloc | apply Kd.R_drewN | apply Kd.R_drew)); exact HO_9.out) hb)
            have n1_ := Aside0.mk (Kd.R_below (by (with_reducible repeat (first | apply Kd.R_alloc | apply Kd.R_drewN | apply Kd.R_drew)); exact HO_415003.out) hb)
            have n2_ := Aside0.mk (blk_below (g := gb401) (o := .cells #[.int .i64 a0_0, .int .i64 a0_1, .int .i64 a0_2, .slice A0_3 l0_3.length c0_3] 43 (0, 0)) (by (with_reducible repeat (first | refine blk_drewN ?_ _ | refine blk_drew ?_ | refine blk_alloc ?_ _)); exact BK401.out) hb)
            have n3_ := Aside0.mk (blk_below (g := gb414) (o := .cells #[.int .i64 t407, .int .i64 t408, .int .i64 t409, .slice Ao17 t410.length co17] 43 (0, 0)) (by (with_reducible repeat (first | refine blk_drewN ?_ _ | refine blk_drew ?_ | refine blk_alloc ?_ _)); exact BK414.out) hb)
            have n4_ := Aside0.mk (blk_below (g := gb425) (o := .cells #[.string t420, .int .i64 t421, .int .i64 t422, .string t423] 31 (0, 0)) (by (with_reducible repeat (first | refine blk_drewN ?_ _ | refine blk_drew ?_ | refine blk_alloc ?_ _)); exact BK425.out) hb)
            have n5_ := Aside0.mk (blk_below (g := gb432) (o := .cells #[.string t427, .int .i64 t428, .int .i64 t429, .string t430] 31 (0, 0)) (by (with_reducible repeat (first | refine blk_drewN ?_ _ | refine blk_drew ?_ | refine blk_alloc ?_ _)); exact BK432.out) hb)
            have n6_ := Aside0.mk (blk_below (g := gb439) (o := .cells #[.string (⟨#[]⟩ : ByteArray), .int .i64 0, .int .i64 0, .string (⟨#[]⟩ : ByteArray)] 31 (0, 0)) (by (with_reducible repeat (first | refine blk_drewN ?_ _ | refine blk_drew ?_ | refine blk_alloc ?_ _)); exact BK439.out) hb)
            have n7_ := Aside0.mk (below_step (by repeat (first | (with_reducible first | exact HB.out | apply below_alloc | apply pw_below_drewN | apply below_drew1 | refine below_set ?_ GE401.out | refine below_set ?_ GE414.out | refine below_set ?_ GE425.out | refine below_set ?_ GE432.out | refine below_set ?_ GE439.out) | exact HB.out)) hb)
            clear HO_9
            clear HO_415003
            clear BK401
            clear BK414
            clear BK425
            clear BK432
            clear BK439
            clear HB
            have HO_9 := n0_
            have HO_415003 := n1_
            have BK401 := n2_
            have BK414 := n3_
            have BK425 := n4_
            have BK432 := n5_
            have BK439 := n6_
            have HB := n7_
            clear n0_ n1_ n2_ n3_ n4_ n5_ n6_ n7_
            (try clear hb)
            (try clear hb2)
            (try clear hk)
            (try clear hi)
            refine hK.out _ _ ⟨(blk_cell BK414.out 0).trans rfl, (blk_cell BK414.out 1).trans rfl, (blk_cell BK414.out 2).trans rfl, (blk_cell BK414.out 3).trans rfl, HS4_⟩ (fun hHeld => ?_)
            clear hK K
            refine norm_ (a' := ?_) ?_ ?_
            rotate_left
            ·show Act.put _ (some 59) _ = _
             simp only [Act.put, List.setIfInBounds_toArray, List.set_cons_zero, List.set_cons_succ, i64_w, i32_w]
             rfl
            refine pure_ (i := 6) (N := some 53) (v := ?_) (a' := ?_) #[true, true, true, true, true, true, true, false, false, true, false, false] rfl rfl (any_of HT_.out (by kernel_rfl)) (fun _ _ _ h => h) (Or.inl ⟨by rfl, ?_⟩) ?_ ?_
            rotate_left
            ·intro w'
             go_simp
             with_reducible rfl
            rotate_left
            ·simp only [Act.put, List.setIfInBounds_toArray, List.set_cons_zero, List.set_cons_succ, i64_w, i32_w]
             rfl
            refine pure_ (i := 7) (N := some 60) (v := ?_) (a' := ?_) #[true, true, true, true, true, true, true, true, false, true, false, false] rfl rfl (any_of HT_.out (by kernel_rfl)) (fun _ _ _ h => h) (Or.inl ⟨by rfl, ?_⟩) ?_ ?_
            rotate_left
            ·intro w'
             go_simp
             with_reducible rfl
            rotate_left
            ·simp only [Act.put, List.setIfInBounds_toArray, List.set_cons_zero, List.set_cons_succ, i64_w, i32_w]
             rfl
            refine pure_ (i := 8) (N := some 61) (v := ?_) (a' := ?_) #[true, true, true, true, true, true, true, true, true, true, false, false] rfl rfl (any_of HT_.out (by kernel_rfl)) (fun _ _ _ h => h) (Or.inl ⟨by rfl, ?_⟩) ?_ ?_
            rotate_left
            ·intro w'
             go_simp
             with_reducible rfl
            rotate_left
            ·simp only [Act.put, List.setIfInBounds_toArray, List.set_cons_zero, List.set_cons_succ, i64_w, i32_w]
             rfl
            exact norm_ (by simp only [putAll, Act.put, List.setIfInBounds_toArray, List.set_cons_zero, List.set_cons_succ]) (hCont (gb439) _ ⟨hHeld, (by (with_reducible repeat (first | apply Kd.R_alloc | apply Kd.R_drewN | apply Kd.R_drew)); exact Kd.R_mono HO_415003.out (fun _ hk => ⟨hk.1.1, ⟨hk.1.2, hk.2⟩⟩)), (by (with_reducible repeat (first | apply Kd.R_alloc | apply Kd.R_drewN | apply Kd.R_drew)); exact HO_9.out), (by (with_reducible repeat (first | refine blk_drewN ?_ _ | refine blk_drew ?_ | refine blk_alloc ?_ _)); exact BK401.out), (by (with_reducible repeat (first | refine blk_drewN ?_ _ | refine blk_drew ?_ | refine blk_alloc ?_ _)); exact BK414.out), (by (with_reducible repeat (first | refine blk_drewN ?_ _ | refine blk_drew ?_ | refine blk_alloc ?_ _)); exact BK425.out), (by (with_reducible repeat (first | refine blk_drewN ?_ _ | refine blk_drew ?_ | refine blk_alloc ?_ _)); exact BK432.out), (by (with_reducible repeat (first | refine blk_drewN ?_ _ | refine blk_drew ?_ | refine blk_alloc ?_ _)); exact BK439.out), GW439.out, GE439.out, NB401_439.out, NB439_401.out, NB414_439.out, NB439_414.out, NB425_439.out, NB439_425.out, NB432_439.out, NB439_432.out, (by repeat (first | (with_reducible first | exact HB.out | apply below_alloc | apply pw_below_drewN | apply below_drew1 | refine below_set ?_ GE401.out | refine below_set ?_ GE414.out | refine below_set ?_ GE425.out | refine below_set ?_ GE432.out | refine below_set ?_ GE439.out) | exact HB.out))⟩)
          rintro gb439 w52 ⟨hS_, h0_, h1_, h2_, h3_, h4_, h5_, h6_, h7_, h8_, h9_, h10_, h11_, h12_, h13_, h14_, h15_, h16_, h17_⟩
          have n0_ : Aside0 (Kd.R k31 31 w52 w.heap.size (fun k_ => k_ ≠ gb425 ∧ k_ ≠ gb432 ∧ k_ ≠ gb439) (.slice Ao17 t410.length co17) t410) := ⟨h0_⟩
          have n1_ : Aside0 (Kd.R Kd.string 9 w52 w.heap.size (fun _ => True) (.slice (some ad419) y415.length co30) y415) := ⟨h1_⟩
          have n2_ : Aside0 (w52.heap[gb401]? = some (.cells #[.int .i64 a0_0, .int .i64 a0_1, .int .i64 a0_2, .slice A0_3 l0_3.length c0_3] 43 (0, 0))) := ⟨h2_⟩
          have n3_ : Aside0 (w52.heap[gb414]? = some (.cells #[.int .i64 t407, .int .i64 t408, .int .i64 t409, .slice Ao17 t410.length co17] 43 (0, 0))) := ⟨h3_⟩
          have n4_ : Aside0 (w52.heap[gb425]? = some (.cells #[.string t420, .int .i64 t421, .int .i64 t422, .string t423] 31 (0, 0))) := ⟨h4_⟩
          have n5_ : Aside0 (w52.heap[gb432]? = some (.cells #[.string t427, .int .i64 t428, .int .i64 t429, .string t430] 31 (0, 0))) := ⟨h5_⟩
          have n6_ : Aside0 (w52.heap[gb439]? = some (.cells #[.string (⟨#[]⟩ : ByteArray), .int .i64 0, .int .i64 0, .string (⟨#[]⟩ : ByteArray)] 31 (0, 0))) := ⟨h6_⟩
          have n7_ : Aside0 (w.heap.size ≤ gb439) := ⟨h7_⟩
          have n8_ : Aside0 (w.heap.size ≤ gb439) := ⟨h8_⟩
          have n9_ : Aside0 (gb401 ≠ gb439) := ⟨h9_⟩
          have n10_ : Aside0 (gb439 ≠ gb401) := ⟨h10_⟩
          have n11_ : Aside0 (gb414 ≠ gb439) := ⟨h11_⟩
          have n12_ : Aside0 (gb439 ≠ gb414) := ⟨h12_⟩
          have n13_ : Aside0 (gb425 ≠ gb439) := ⟨h13_⟩
          have n14_ : Aside0 (gb439 ≠ gb425) := ⟨h14_⟩
          have n15_ : Aside0 (gb432 ≠ gb439) := ⟨h15_⟩
          have n16_ : Aside0 (gb439 ≠ gb432) := ⟨h16_⟩
          have n17_ : Aside0 (Below w.heap.size w w52) := ⟨h17_⟩
          clear HO_9
          clear HO_415003
          clear BK401
          clear BK414
          clear BK425
          clear BK432
          clear HB
          clear h0_ h1_ h2_ h3_ h4_ h5_ h6_ h7_ h8_ h9_ h10_ h11_ h12_ h13_ h14_ h15_ h16_ h17_
          have HO_415003 := n0_
          have HO_9 := n1_
          have BK401 := n2_
          have BK414 := n3_
          have BK425 := n4_
          have BK432 := n5_
          have BK439 := n6_
          have GW439 := n7_
          have GE439 := n8_
          have NB401_439 := n9_
          have NB439_401 := n10_
          have NB414_439 := n11_
          have NB439_414 := n12_
          have NB425_439 := n13_
          have NB439_425 := n14_
          have NB432_439 := n15_
          have NB439_432 := n16_
          have HB := n17_
          clear n0_ n1_ n2_ n3_ n4_ n5_ n6_ n7_ n8_ n9_ n10_ n11_ n12_ n13_ n14_ n15_ n16_ n17_
          have hHeld : w52.cell? ⟨gb414, 0, none⟩ = some (.int .i64 t407) ∧ w52.cell? ⟨gb414, 1, none⟩ = some (.int .i64 t408) ∧ w52.cell? ⟨gb414, 2, none⟩ = some (.int .i64 t409) ∧ w52.cell? ⟨gb414, 3, none⟩ = some (.slice Ao17 t410.length co17) ∧ w52.cell? (ad419.add (x10_1).toNat) = some (.string (rdOf ByteArray.empty y415 x10_1)) := hS_
          refine norm_ (a' := ?_) ?_ ?_
          rotate_left
          ·simp only [putAll, Act.put, List.setIfInBounds_toArray, List.set_cons_zero, List.set_cons_succ]
           rfl
          refine one_ (i := 10) (N := none) #[true, true, true, true, true, true, true, true, true, true, true, false] rfl rfl (one_of HT_.out (by kernel_rfl)) (by decide) (fun K hK => ?_)
          have hs53 : w52.cell? ⟨gb439, 0, none⟩ = some (.string (⟨#[]⟩ : ByteArray)) := (blk_cell BK439.out 0).trans rfl
          have hfs53 := blk_frozen BK439.out 0
          have hns53_0 := NB401_439.out
          have hns53_1 := NB414_439.out
          have hns53_2 := NB425_439.out
          have hns53_3 := NB432_439.out
          have hms53_0 := NB439_401.out
          have hms53_1 := NB439_414.out
          have hms53_2 := NB439_425.out
          have hms53_3 := NB439_432.out
          have hs54 : w52.cell? ⟨gb439, 1, none⟩ = some (.int .i64 0) := (blk_cell BK439.out 1).trans rfl
          have hfs54 := blk_frozen BK439.out 1
          have hns54_0 := NB401_439.out
          have hns54_1 := NB414_439.out
          have hns54_2 := NB425_439.out
          have hns54_3 := NB432_439.out
          have hms54_0 := NB439_401.out
          have hms54_1 := NB439_414.out
          have hms54_2 := NB439_425.out
          have hms54_3 := NB439_432.out
          have hs55 : w52.cell? ⟨gb439, 2, none⟩ = some (.int .i64 0) := (blk_cell BK439.out 2).trans rfl
          have hfs55 := blk_frozen BK439.out 2
          have hns55_0 := NB401_439.out
          have hns55_1 := NB414_439.out
          have hns55_2 := NB425_439.out
          have hns55_3 := NB432_439.out
          have hms55_0 := NB439_401.out
          have hms55_1 := NB439_414.out
          have hms55_2 := NB439_425.out
          have hms55_3 := NB439_432.out
          have hs56 : w52.cell? ⟨gb439, 3, none⟩ = some (.string (⟨#[]⟩ : ByteArray)) := (blk_cell BK439.out 3).trans rfl
          have hfs56 := blk_frozen BK439.out 3
          have hns56_0 := NB401_439.out
          have hns56_1 := NB414_439.out
          have hns56_2 := NB425_439.out
          have hns56_3 := NB432_439.out
          have hms56_0 := NB439_401.out
          have hms56_1 := NB439_414.out
          have hms56_2 := NB439_425.out
          have hms56_3 := NB439_432.out
          refine skip_ (w1 := ?_) (by rfl) rfl ?_ ?_
          rotate_left
          ·go_simp
           rfl
          refine hK.out _ _ ⟨((cell_far (p := ⟨gb439, _, none⟩) NB414_439.out _).trans (((cell_far (p := ⟨gb439, _, none⟩) NB414_439.out _).trans (((cell_far (p := ⟨gb439, _, none⟩) NB414_439.out _).trans (((cell_far (p := ⟨gb439, _, none⟩) NB414_439.out _).trans (hHeld.1)))))))), ((cell_far (p := ⟨gb439, _, none⟩) NB414_439.out _).trans (((cell_far (p := ⟨gb439, _, none⟩) NB414_439.out _).trans (((cell_far (p := ⟨gb439, _, none⟩) NB414_439.out _).trans (((cell_far (p := ⟨gb439, _, none⟩) NB414_439.out _).trans (hHeld.2.1)))))))), ((cell_far (p := ⟨gb439, _, none⟩) NB414_439.out _).trans (((cell_far (p := ⟨gb439, _, none⟩) NB414_439.out _).trans (((cell_far (p := ⟨gb439, _, none⟩) NB414_439.out _).trans (((cell_far (p := ⟨gb439, _, none⟩) NB414_439.out _).trans (hHeld.2.2.1)))))))), ((cell_far (p := ⟨gb439, _, none⟩) NB414_439.out _).trans (((cell_far (p := ⟨gb439, _, none⟩) NB414_439.out _).trans (((cell_far (p := ⟨gb439, _, none⟩) NB414_439.out _).trans (((cell_far (p := ⟨gb439, _, none⟩) NB414_439.out _).trans (hHeld.2.2.2.1)))))))), ((cell_far (p := ⟨gb439, _, none⟩) (by first | exact Kd.own_blk (Kd.R_ne HO_9.out BK439.out (by decide)) | (rw [add_block]; exact Kd.own_blk (Kd.R_ne HO_9.out BK439.out (by decide))) | (show (Addr.add _ _).block ≠ _; rw [add_block]; exact Kd.own_blk (Kd.R_ne HO_9.out BK439.out (by decide))) | (dsimp only; exact Kd.own_blk (Kd.R_ne HO_9.out BK439.out (by decide)))) _).trans (((cell_far (p := ⟨gb439, _, none⟩) (by first | exact Kd.own_blk (Kd.R_ne HO_9.out BK439.out (by decide)) | (rw [add_block]; exact Kd.own_blk (Kd.R_ne HO_9.out BK439.out (by decide))) | (show (Addr.add _ _).block ≠ _; rw [add_block]; exact Kd.own_blk (Kd.R_ne HO_9.out BK439.out (by decide))) | (dsimp only; exact Kd.own_blk (Kd.R_ne HO_9.out BK439.out (by decide)))) _).trans (((cell_far (p := ⟨gb439, _, none⟩) (by first | exact Kd.own_blk (Kd.R_ne HO_9.out BK439.out (by decide)) | (rw [add_block]; exact Kd.own_blk (Kd.R_ne HO_9.out BK439.out (by decide))) | (show (Addr.add _ _).block ≠ _; rw [add_block]; exact Kd.own_blk (Kd.R_ne HO_9.out BK439.out (by decide))) | (dsimp only; exact Kd.own_blk (Kd.R_ne HO_9.out BK439.out (by decide)))) _).trans (((cell_far (p := ⟨gb439, _, none⟩) (by first | exact Kd.own_blk (Kd.R_ne HO_9.out BK439.out (by decide)) | (rw [add_block]; exact Kd.own_blk (Kd.R_ne HO_9.out BK439.out (by decide))) | (show (Addr.add _ _).block ≠ _; rw [add_block]; exact Kd.own_blk (Kd.R_ne HO_9.out BK439.out (by decide))) | (dsimp only; exact Kd.own_blk (Kd.R_ne HO_9.out BK439.out (by decide)))) _).trans (hHeld.2.2.2.2))))))))⟩ (fun hHeld => ?_)
          clear hK K
          refine pure_ (i := 11) (N := some 16) (v := ?_) (a' := ?_) #[true, true, true, true, true, true, true, true, true, true, true, true] rfl rfl (any_of HT_.out (by kernel_rfl)) (fun _ _ _ h => h) (Or.inl ⟨by rfl, ?_⟩) ?_ ?_
          rotate_left
          ·intro w'
           go_simp
           with_reducible rfl
          rotate_left
          ·simp only [Act.put, List.setIfInBounds_toArray, List.set_cons_zero, List.set_cons_succ, i64_w, i32_w]
           rfl
          refine done_ (done_of HT_.out (by kernel_rfl)) ?_
          try go_wp2
          have n0_ : Aside0 (Kd.R Kd.string 9 ((((w52.setCell ⟨gb439, 0, none⟩ (.string t434)).setCell ⟨gb439, 1, none⟩ (.int .i64 t435)).setCell ⟨gb439, 2, none⟩ (.int .i64 t436)).setCell ⟨gb439, 3, none⟩ (.string t437)) w.heap.size (fun _ => True) (.slice (some ad419) y415.length co30) y415) := ⟨by (with_reducible repeat (first | apply Kd.R_alloc | apply Kd.R_drewN | apply Kd.R_drew)); exact Kd.R_mono (Kd.R_far (p := ⟨gb439, 3, none⟩) (Kd.R_far (p := ⟨gb439, 2, none⟩) (Kd.R_far (p := ⟨gb439, 1, none⟩) (Kd.R_far (p := ⟨gb439, 0, none⟩) (Kd.R_types HO_9.out BK439.out (by decide)) (fun _ hk => hk.2) (.string t434)) (fun _ hk => hk.2) (.int .i64 t435)) (fun _ hk => hk.2) (.int .i64 t436)) (fun _ hk => hk.2) (.string t437)) (fun _ hk => trivial)⟩
          have n1_ : Aside0 (Kd.R k31 31 ((((w52.setCell ⟨gb439, 0, none⟩ (.string t434)).setCell ⟨gb439, 1, none⟩ (.int .i64 t435)).setCell ⟨gb439, 2, none⟩ (.int .i64 t436)).setCell ⟨gb439, 3, none⟩ (.string t437)) w.heap.size (fun k_ => k_ ≠ gb425 ∧ k_ ≠ gb432 ∧ k_ ≠ gb439) (.slice Ao17 t410.length co17) t410) := ⟨by (with_reducible repeat (first | apply Kd.R_alloc | apply Kd.R_drewN | apply Kd.R_drew)); exact Kd.R_mono (Kd.R_far (p := ⟨gb439, 3, none⟩) (Kd.R_far (p := ⟨gb439, 2, none⟩) (Kd.R_far (p := ⟨gb439, 1, none⟩) (Kd.R_far (p := ⟨gb439, 0, none⟩) (Kd.R_mono HO_415003.out (fun k_ hk => (⟨hk, hk.2.2⟩ : _ ∧ k_ ≠ gb439))) (fun _ hk => hk.2) (.string t434)) (fun _ hk => hk.2) (.int .i64 t435)) (fun _ hk => hk.2) (.int .i64 t436)) (fun _ hk => hk.2) (.string t437)) (fun _ hk => ⟨hk.1.1, ⟨hk.1.2.1, hk.1.2.2⟩⟩)⟩
          have n2_ : Aside0 (((((w52.setCell ⟨gb439, 0, none⟩ (.string t434)).setCell ⟨gb439, 1, none⟩ (.int .i64 t435)).setCell ⟨gb439, 2, none⟩ (.int .i64 t436)).setCell ⟨gb439, 3, none⟩ (.string t437)).heap[gb401]? = some (.cells #[.int .i64 a0_0, .int .i64 a0_1, .int .i64 a0_2, .slice A0_3 l0_3.length c0_3] 43 (0, 0))) := ⟨by (with_reducible repeat (first | refine blk_drewN ?_ _ | refine blk_drew ?_ | refine blk_alloc ?_ _)); refine blk_far ?_ NB401_439.out _; (with_reducible repeat (first | refine blk_drewN ?_ _ | refine blk_drew ?_ | refine blk_alloc ?_ _)); refine blk_far ?_ NB401_439.out _; (with_reducible repeat (first | refine blk_drewN ?_ _ | refine blk_drew ?_ | refine blk_alloc ?_ _)); refine blk_far ?_ NB401_439.out _; (with_reducible repeat (first | refine blk_drewN ?_ _ | refine blk_drew ?_ | refine blk_alloc ?_ _)); refine blk_far ?_ NB401_439.out _; (with_reducible repeat (first | refine blk_drewN ?_ _ | refine blk_drew ?_ | refine blk_alloc ?_ _)); exact BK401.out⟩
          have n3_ : Aside0 (((((w52.setCell ⟨gb439, 0, none⟩ (.string t434)).setCell ⟨gb439, 1, none⟩ (.int .i64 t435)).setCell ⟨gb439, 2, none⟩ (.int .i64 t436)).setCell ⟨gb439, 3, none⟩ (.string t437)).heap[gb414]? = some (.cells #[.int .i64 t407, .int .i64 t408, .int .i64 t409, .slice Ao17 t410.length co17] 43 (0, 0))) := ⟨by (with_reducible repeat (first | refine blk_drewN ?_ _ | refine blk_drew ?_ | refine blk_alloc ?_ _)); refine blk_far ?_ NB414_439.out _; (with_reducible repeat (first | refine blk_drewN ?_ _ | refine blk_drew ?_ | refine blk_alloc ?_ _)); refine blk_far ?_ NB414_439.out _; (with_reducible repeat (first | refine blk_drewN ?_ _ | refine blk_drew ?_ | refine blk_alloc ?_ _)); refine blk_far ?_ NB414_439.out _; (with_reducible repeat (first | refine blk_drewN ?_ _ | refine blk_drew ?_ | refine blk_alloc ?_ _)); refine blk_far ?_ NB414_439.out _; (with_reducible repeat (first | refine blk_drewN ?_ _ | refine blk_drew ?_ | refine blk_alloc ?_ _)); exact BK414.out⟩
          have n4_ : Aside0 (((((w52.setCell ⟨gb439, 0, none⟩ (.string t434)).setCell ⟨gb439, 1, none⟩ (.int .i64 t435)).setCell ⟨gb439, 2, none⟩ (.int .i64 t436)).setCell ⟨gb439, 3, none⟩ (.string t437)).heap[gb425]? = some (.cells #[.string t420, .int .i64 t421, .int .i64 t422, .string t423] 31 (0, 0))) := ⟨by (with_reducible repeat (first | refine blk_drewN ?_ _ | refine blk_drew ?_ | refine blk_alloc ?_ _)); refine blk_far ?_ NB425_439.out _; (with_reducible repeat (first | refine blk_drewN ?_ _ | refine blk_drew ?_ | refine blk_alloc ?_ _)); refine blk_far ?_ NB425_439.out _; (with_reducible repeat (first | refine blk_drewN ?_ _ | refine blk_drew ?_ | refine blk_alloc ?_ _)); refine blk_far ?_ NB425_439.out _; (with_reducible repeat (first | refine blk_drewN ?_ _ | refine blk_drew ?_ | refine blk_alloc ?_ _)); refine blk_far ?_ NB425_439.out _; (with_reducible repeat (first | refine blk_drewN ?_ _ | refine blk_drew ?_ | refine blk_alloc ?_ _)); exact BK425.out⟩
          have n5_ : Aside0 (((((w52.setCell ⟨gb439, 0, none⟩ (.string t434)).setCell ⟨gb439, 1, none⟩ (.int .i64 t435)).setCell ⟨gb439, 2, none⟩ (.int .i64 t436)).setCell ⟨gb439, 3, none⟩ (.string t437)).heap[gb432]? = some (.cells #[.string t427, .int .i64 t428, .int .i64 t429, .string t430] 31 (0, 0))) := ⟨by (with_reducible repeat (first | refine blk_drewN ?_ _ | refine blk_drew ?_ | refine blk_alloc ?_ _)); refine blk_far ?_ NB432_439.out _; (with_reducible repeat (first | refine blk_drewN ?_ _ | refine blk_drew ?_ | refine blk_alloc ?_ _)); refine blk_far ?_ NB432_439.out _; (with_reducible repeat (first | refine blk_drewN ?_ _ | refine blk_drew ?_ | refine blk_alloc ?_ _)); refine blk_far ?_ NB432_439.out _; (with_reducible repeat (first | refine blk_drewN ?_ _ | refine blk_drew ?_ | refine blk_alloc ?_ _)); refine blk_far ?_ NB432_439.out _; (with_reducible repeat (first | refine blk_drewN ?_ _ | refine blk_drew ?_ | refine blk_alloc ?_ _)); exact BK432.out⟩
          have n6_ : Aside0 (((((w52.setCell ⟨gb439, 0, none⟩ (.string t434)).setCell ⟨gb439, 1, none⟩ (.int .i64 t435)).setCell ⟨gb439, 2, none⟩ (.int .i64 t436)).setCell ⟨gb439, 3, none⟩ (.string t437)).heap[gb439]? = some (.cells #[.string t434, .int .i64 t435, .int .i64 t436, .string t437] 31 (0, 0))) := ⟨by (with_reducible repeat (first | refine blk_drewN ?_ _ | refine blk_drew ?_ | refine blk_alloc ?_ _)); refine blk_put (cs := #[.string t434, .int .i64 t435, .int .i64 t436, .string (⟨#[]⟩ : ByteArray)]) ?_ 3 _ rfl; (with_reducible repeat (first | refine blk_drewN ?_ _ | refine blk_drew ?_ | refine blk_alloc ?_ _)); refine blk_put (cs := #[.string t434, .int .i64 t435, .int .i64 0, .string (⟨#[]⟩ : ByteArray)]) ?_ 2 _ rfl; (with_reducible repeat (first | refine blk_drewN ?_ _ | refine blk_drew ?_ | refine blk_alloc ?_ _)); refine blk_put (cs := #[.string t434, .int .i64 0, .int .i64 0, .string (⟨#[]⟩ : ByteArray)]) ?_ 1 _ rfl; (with_reducible repeat (first | refine blk_drewN ?_ _ | refine blk_drew ?_ | refine blk_alloc ?_ _)); refine blk_put (cs := #[.string (⟨#[]⟩ : ByteArray), .int .i64 0, .int .i64 0, .string (⟨#[]⟩ : ByteArray)]) ?_ 0 _ rfl; (with_reducible repeat (first | refine blk_drewN ?_ _ | refine blk_drew ?_ | refine blk_alloc ?_ _)); exact BK439.out⟩
          have n7_ : Aside0 (Below w.heap.size w ((((w52.setCell ⟨gb439, 0, none⟩ (.string t434)).setCell ⟨gb439, 1, none⟩ (.int .i64 t435)).setCell ⟨gb439, 2, none⟩ (.int .i64 t436)).setCell ⟨gb439, 3, none⟩ (.string t437))) := ⟨by repeat (first | (with_reducible first | exact HB.out | apply below_alloc | apply pw_below_drewN | apply below_drew1 | refine below_set ?_ GE401.out | refine below_set ?_ GE414.out | refine below_set ?_ GE425.out | refine below_set ?_ GE432.out | refine below_set ?_ GE439.out) | exact HB.out)⟩
          (try clear HO_9)
          (try clear HO_415003)
          (try clear BK401)
          (try clear BK414)
          (try clear BK425)
          (try clear BK432)
          (try clear BK439)
          (try clear HB)
          generalize ((((w52.setCell ⟨gb439, 0, none⟩ (.string t434)).setCell ⟨gb439, 1, none⟩ (.int .i64 t435)).setCell ⟨gb439, 2, none⟩ (.int .i64 t436)).setCell ⟨gb439, 3, none⟩ (.string t437)) = w57 at n0_ n1_ n2_ n3_ n4_ n5_ n6_ n7_ ⊢
          have HO_9 := n0_
          have HO_415003 := n1_
          have BK401 := n2_
          have BK414 := n3_
          have BK425 := n4_
          have BK432 := n5_
          have BK439 := n6_
          have HB := n7_
          clear n0_ n1_ n2_ n3_ n4_ n5_ n6_ n7_
          have n0_ := Aside0.mk (Kd.R_drew HO_9.out)
          have n1_ := Aside0.mk (Kd.R_drew HO_415003.out)
          have n2_ := Aside0.mk (blk_drew BK401.out)
          have n3_ := Aside0.mk (blk_drew BK414.out)
          have n4_ := Aside0.mk (blk_drew BK425.out)
          have n5_ := Aside0.mk (blk_drew BK432.out)
          have n6_ := Aside0.mk (blk_drew BK439.out)
          have n7_ := Aside0.mk (below_drew1 HB.out)
          clear HO_9
          clear HO_415003
          clear BK401
          clear BK414
          clear BK425
          clear BK432
          clear BK439
          clear HB
          have HO_9 := n0_
          have HO_415003 := n1_
          have BK401 := n2_
          have BK414 := n3_
          have BK425 := n4_
          have BK432 := n5_
          have BK439 := n6_
          have HB := n7_
          clear n0_ n1_ n2_ n3_ n4_ n5_ n6_ n7_
          have p440 : 0 ≤ (x10_1 : Int) := of_decide_eq_true (by first | (with_reducible assumption) | assumption)
          have q440 : x10_1 < (y415.length : Int) := of_decide_eq_true (by first | (with_reducible assumption) | assumption)
          obtain ⟨ad440, e440, hx440_0⟩ := Kd.at_string (Kd.R_reads' HO_9.out).2.2 x10_1 p440 q440
          obtain rfl : ad419 = ad440 := (by injection e440)
          replace p440 := eq_true p440
          replace q440 := eq_true q440
          refine start_ (n := 12) (S := fun w' => w'.cell? ⟨gb414, 0, none⟩ = some (.int .i64 t407) ∧ w'.cell? ⟨gb414, 1, none⟩ = some (.int .i64 t408) ∧ w'.cell? ⟨gb414, 2, none⟩ = some (.int .i64 t409) ∧ w'.cell? ⟨gb414, 3, none⟩ = some (.slice Ao17 t410.length co17) ∧ w'.cell? (ad419.add (x10_1).toNat) = some (.string (rdOf ByteArray.empty y415 x10_1))) (ds := []) #[false, false, false, false, false, false, false, false, false, false, false, false] (by kernel_rfl) rfl rfl ⟨(blk_cell BK414.out 0).trans rfl, (blk_cell BK414.out 1).trans rfl, (blk_cell BK414.out 2).trans rfl, (blk_cell BK414.out 3).trans rfl, hx440_0⟩ (fun hHeld => ?_); refine with_tabW kauditlaw03_RecordGets.tab12 kauditlaw03_RecordGets.bits12 (fun HT_ HW_ => ?_)
          generalize w57.drew = w58 at HO_9 HO_415003 BK401 BK414 BK425 BK432 BK439 HB hx440_0 hHeld ⊢
          refine pure_ (i := 1) (N := some 64) (v := ?_) (a' := ?_) #[false, true, false, false, false, false, false, false, false, false, false, false] rfl rfl (any_of HT_.out (by kernel_rfl)) (fun _ _ _ h => h) (Or.inl ⟨by rfl, ?_⟩) ?_ ?_
          rotate_left
          ·intro w'
           go_simp
           with_reducible rfl
          rotate_left
          ·simp only [Act.put, List.setIfInBounds_toArray, List.set_cons_zero, List.set_cons_succ, i64_w, i32_w]
           rfl
          refine pure_ (i := 2) (N := some 65) (v := ?_) (a' := ?_) #[false, true, true, false, false, false, false, false, false, false, false, false] rfl rfl (any_of HT_.out (by kernel_rfl)) (fun _ _ _ h => h) (Or.inl ⟨by rfl, ?_⟩) ?_ ?_
          rotate_left
          ·intro w'
           go_simp
           with_reducible rfl
          rotate_left
          ·simp only [Act.put, List.setIfInBounds_toArray, List.set_cons_zero, List.set_cons_succ, i64_w, i32_w]
           rfl
          refine pure_ (i := 3) (N := some 66) (v := ?_) (a' := ?_) #[false, true, true, true, false, false, false, false, false, false, false, false] rfl rfl (any_of HT_.out (by kernel_rfl)) (fun _ _ _ h => h) (Or.inl ⟨by rfl, ?_⟩) ?_ ?_
          rotate_left
          ·intro w'
           go_simp
           with_reducible rfl
          rotate_left
          ·simp only [Act.put, List.setIfInBounds_toArray, List.set_cons_zero, List.set_cons_succ, i64_w, i32_w]
           rfl
          refine take_ (i := 0) (N := some 63) (v := ?_) (a' := ?_) #[true, true, true, true, false, false, false, false, false, false, false, false] rfl rfl (take_ofW HT_.out HW_.out (by kernel_rfl)) (fun _ _ _ h => h) (Or.inl ⟨by rfl, ?_⟩) hHeld ?_ ?_
          rotate_left
          ·rintro w' ⟨s0, s1, s2, s3, s4⟩
           go_simp
           with_reducible rfl
          rotate_left
          ·simp only [Act.put, List.setIfInBounds_toArray, List.set_cons_zero, List.set_cons_succ, i64_w, i32_w]
           rfl
          refine take_ (i := 4) (N := some 67) (v := ?_) (a' := ?_) #[true, true, true, true, true, false, false, false, false, false, false, false] rfl rfl (take_ofW HT_.out HW_.out (by kernel_rfl)) (fun _ _ _ h => h) (Or.inl ⟨by rfl, ?_⟩) hHeld ?_ ?_
          rotate_left
          ·rintro w' ⟨s0, s1, s2, s3, s4⟩
           go_simp
           with_reducible rfl
          rotate_left
          ·simp only [Act.put, List.setIfInBounds_toArray, List.set_cons_zero, List.set_cons_succ, i64_w, i32_w]
           rfl
          refine join_ (σ := Nat) 2 #[true, true, true, true, true, true, true, true, true, true, false, false] (fun s_ => [(68, .tuple #[.agg #[.string t441, .int .i64 t442, .int .i64 t443, .string t444], .bool t445]), (17, .pointer (some ⟨s_, 0, none⟩)), (62, .tuple #[.agg #[.string t441, .int .i64 t442, .int .i64 t443, .string t444], .bool t445]), (69, .agg #[.string t441, .int .i64 t442, .int .i64 t443, .string t444]), (70, .bool t445)]) (fun s_ w' => (w'.cell? ⟨gb414, 0, none⟩ = some (.int .i64 t407) ∧ w'.cell? ⟨gb414, 1, none⟩ = some (.int .i64 t408) ∧ w'.cell? ⟨gb414, 2, none⟩ = some (.int .i64 t409) ∧ w'.cell? ⟨gb414, 3, none⟩ = some (.slice Ao17 t410.length co17) ∧ w'.cell? (ad419.add (x10_1).toNat) = some (.string (rdOf ByteArray.empty y415 x10_1))) ∧ (Kd.R k31 31 w' w.heap.size (fun k_ => k_ ≠ gb425 ∧ k_ ≠ gb432 ∧ k_ ≠ gb439 ∧ k_ ≠ s_) (.slice Ao17 t410.length co17) t410) ∧ (Kd.R Kd.string 9 w' w.heap.size (fun _ => True) (.slice (some ad419) y415.length co30) y415) ∧ (w'.heap[gb401]? = some (.cells #[.int .i64 a0_0, .int .i64 a0_1, .int .i64 a0_2, .slice A0_3 l0_3.length c0_3] 43 (0, 0))) ∧ (w'.heap[gb414]? = some (.cells #[.int .i64 t407, .int .i64 t408, .int .i64 t409, .slice Ao17 t410.length co17] 43 (0, 0))) ∧ (w'.heap[gb425]? = some (.cells #[.string t420, .int .i64 t421, .int .i64 t422, .string t423] 31 (0, 0))) ∧ (w'.heap[gb432]? = some (.cells #[.string t427, .int .i64 t428, .int .i64 t429, .string t430] 31 (0, 0))) ∧ (w'.heap[gb439]? = some (.cells #[.string t434, .int .i64 t435, .int .i64 t436, .string t437] 31 (0, 0))) ∧ (w'.heap[s_]? = some (.cells #[.string (⟨#[]⟩ : ByteArray), .int .i64 0, .int .i64 0, .string (⟨#[]⟩ : ByteArray)] 31 (0, 0))) ∧ (w.heap.size ≤ s_) ∧ (w.heap.size ≤ s_) ∧ (gb401 ≠ s_) ∧ (s_ ≠ gb401) ∧ (gb414 ≠ s_) ∧ (s_ ≠ gb414) ∧ (gb425 ≠ s_) ∧ (s_ ≠ gb425) ∧ (gb432 ≠ s_) ∧ (s_ ≠ gb432) ∧ (gb439 ≠ s_) ∧ (s_ ≠ gb439) ∧ (Below w.heap.size w w')) ?_ ?_
          rotate_left
          ·intro hCont
           refine two_ (i := 5) (j := 9) (Ni := some 68) (Nj := some 17) #[true, true, true, true, true, true, false, false, false, false, false, false] #[true, true, true, true, true, false, false, false, false, true, false, false] rfl rfl rfl rfl (two_of HT_.out (by kernel_rfl)) (by decide) (by decide) (fun K hK => ?_) (fun K hK => ?_)
           ·skip
            refine goes_ Tryd.func38 (by kernel_rfl) rfl #[.agg #[.int .i64 t407, .int .i64 t408, .int .i64 t409, .slice Ao17 t410.length co17], .string (rdOf ByteArray.empty y415 x10_1)] (by rfl) rfl rfl (by (try simp only [List.map_toArray, List.map_cons, List.map_nil]); first | done | rfl | (simp only [List.length_drop, List.length_take]; rfl)) ?_
            with_reducible refine (kauditref03_Get.calls k1 t407 t408 t409 _ _ t410 (rdOf ByteArray.empty y415 x10_1) t441 t442 t443 t444 t445 _ ?side1 ?side2 A25.out).mono ?_
            (case side1 => repeat (first | exact (Kd.R_reads' HO_415003.out).2.2 | (with_reducible refine Kd.C_alloc ?_ _) | (with_reducible refine Kd.C_drewN ?_ _) | (with_reducible refine Kd.C_drew ?_)))
            (case side2 => exact (Kd.R_reads' HO_415003.out).2.1)
            rintro e w59 ⟨rfl, hb⟩
            have HS4_ := (hb.cell (World.block_lt_of_cell? _ _ (hHeld.2.2.2.2))).trans (hHeld.2.2.2.2)
            refine ⟨_, rfl, ?_⟩
            have n0_ := Aside0.mk (Kd.R_below (by (with_reducible repeat (first | apply Kd.R_alloc | apply Kd.R_drewN | apply Kd.R_drew)); exact HO_9.out) hb)
            have n1_ := Aside0.mk (Kd.R_below (by (with_reducible repeat (first | apply Kd.R_alloc | apply Kd.R_drewN | apply Kd.R_drew)); exact HO_415003.out) hb)
            have n2_ := Aside0.mk (blk_below (g := gb401) (o := .cells #[.int .i64 a0_0, .int .i64 a0_1, .int .i64 a0_2, .slice A0_3 l0_3.length c0_3] 43 (0, 0)) (by (with_reducible repeat (first | refine blk_drewN ?_ _ | refine blk_drew ?_ | refine blk_alloc ?_ _)); exact BK401.out) hb)
            have n3_ := Aside0.mk (blk_below (g := gb414) (o := .cells #[.int .i64 t407, .int .i64 t408, .int .i64 t409, .slice Ao17 t410.length co17] 43 (0, 0)) (by (with_reducible repeat (first | refine blk_drewN ?_ _ | refine blk_drew ?_ | refine blk_alloc ?_ _)); exact BK414.out) hb)
            have n4_ := Aside0.mk (blk_below (g := gb425) (o := .cells #[.string t420, .int .i64 t421, .int .i64 t422, .string t423] 31 (0, 0)) (by (with_reducible repeat (first | refine blk_drewN ?_ _ | refine blk_drew ?_ | refine blk_alloc ?_ _)); exact BK425.out) hb)
            have n5_ := Aside0.mk (blk_below (g := gb432) (o := .cells #[.string t427, .int .i64 t428, .int .i64 t429, .string t430] 31 (0, 0)) (by (with_reducible repeat (first | refine blk_drewN ?_ _ | refine blk_drew ?_ | refine blk_alloc ?_ _)); exact BK432.out) hb)
            have n6_ := Aside0.mk (blk_below (g := gb439) (o := .cells #[.string t434, .int .i64 t435, .int .i64 t436, .string t437] 31 (0, 0)) (by (with_reducible repeat (first | refine blk_drewN ?_ _ | refine blk_drew ?_ | refine blk_alloc ?_ _)); exact BK439.out) hb)
            have n7_ := Aside0.mk (below_step (by repeat (first | (with_reducible first | exact HB.out | apply below_alloc | apply pw_below_drewN | apply below_drew1 | refine below_set ?_ GE401.out | refine below_set ?_ GE414.out | refine below_set ?_ GE425.out | refine below_set ?_ GE432.out | refine below_set ?_ GE439.out) | exact HB.out)) hb)
            clear HO_9
            clear HO_415003
            clear BK401
            clear BK414
            clear BK425
            clear BK432
            clear BK439
            clear HB
            have HO_9 := n0_
            have HO_415003 := n1_
            have BK401 := n2_
            have BK414 := n3_
            have BK425 := n4_
            have BK432 := n5_
            have BK439 := n6_
            have HB := n7_
            clear n0_ n1_ n2_ n3_ n4_ n5_ n6_ n7_
            (try clear hb)
            (try clear hb2)
            (try clear hk)
            (try clear hi)
            refine hK.out _ _ ⟨(blk_cell BK414.out 0).trans rfl, (blk_cell BK414.out 1).trans rfl, (blk_cell BK414.out 2).trans rfl, (blk_cell BK414.out 3).trans rfl, HS4_⟩ (fun hHeld => ?_)
            clear hK K
            refine norm_ (a' := ?_) ?_ ?_
            rotate_left
            ·show Act.put _ (some 68) _ = _
             simp only [Act.put, List.setIfInBounds_toArray, List.set_cons_zero, List.set_cons_succ, i64_w, i32_w]
             rfl
            refine pure_ (i := 6) (N := some 62) (v := ?_) (a' := ?_) #[true, true, true, true, true, true, true, false, false, false, false, false] rfl rfl (any_of HT_.out (by kernel_rfl)) (fun _ _ _ h => h) (Or.inl ⟨by rfl, ?_⟩) ?_ ?_
            rotate_left
            ·intro w'
             go_simp
             with_reducible rfl
            rotate_left
            ·simp only [Act.put, List.setIfInBounds_toArray, List.set_cons_zero, List.set_cons_succ, i64_w, i32_w]
             rfl
            refine pure_ (i := 7) (N := some 69) (v := ?_) (a' := ?_) #[true, true, true, true, true, true, true, true, false, false, false, false] rfl rfl (any_of HT_.out (by kernel_rfl)) (fun _ _ _ h => h) (Or.inl ⟨by rfl, ?_⟩) ?_ ?_
            rotate_left
            ·intro w'
             go_simp
             with_reducible rfl
            rotate_left
            ·simp only [Act.put, List.setIfInBounds_toArray, List.set_cons_zero, List.set_cons_succ, i64_w, i32_w]
             rfl
            refine pure_ (i := 8) (N := some 70) (v := ?_) (a' := ?_) #[true, true, true, true, true, true, true, true, true, false, false, false] rfl rfl (any_of HT_.out (by kernel_rfl)) (fun _ _ _ h => h) (Or.inl ⟨by rfl, ?_⟩) ?_ ?_
            rotate_left
            ·intro w'
             go_simp
             with_reducible rfl
            rotate_left
            ·simp only [Act.put, List.setIfInBounds_toArray, List.set_cons_zero, List.set_cons_succ, i64_w, i32_w]
             rfl
            refine one_ (i := 9) (N := some 17) #[true, true, true, true, true, true, true, true, true, true, false, false] rfl rfl (one_of HT_.out (by kernel_rfl)) (by decide) (fun K hK => ?_)
            refine box_step ?hg (N := 17) ?hd (cs := #[.string (⟨#[]⟩ : ByteArray), .int .i64 0, .int .i64 0, .string (⟨#[]⟩ : ByteArray)]) (t := 31) ?hr ?_; (case hd => rfl); (case hg => rfl); (case hr => first | (go_simp; done) | (go_simp; rfl))
            intro gb446 hg w60 hbox hb
            have HS4_ := (hb.cell (World.block_lt_of_cell? _ _ (hHeld.2.2.2.2))).trans (hHeld.2.2.2.2)
            have n0_ := Aside0.mk (Kd.R_below (by (with_reducible repeat (first | apply Kd.R_alloc | apply Kd.R_drewN | apply Kd.R_drew)); exact HO_9.out) hb)
            have n1_ := Aside0.mk (Kd.R_below (Kd.R_elderB (by (with_reducible repeat (first | apply Kd.R_alloc | apply Kd.R_drewN | apply Kd.R_drew)); exact HO_415003.out) gb446 (Nat.le_of_eq hg.symm)) hb)
            have n2_ := Aside0.mk (blk_below (g := gb401) (o := .cells #[.int .i64 a0_0, .int .i64 a0_1, .int .i64 a0_2, .slice A0_3 l0_3.length c0_3] 43 (0, 0)) (by (with_reducible repeat (first | refine blk_drewN ?_ _ | refine blk_drew ?_ | refine blk_alloc ?_ _)); exact BK401.out) hb)
            have n3_ := Aside0.mk (blk_below (g := gb414) (o := .cells #[.int .i64 t407, .int .i64 t408, .int .i64 t409, .slice Ao17 t410.length co17] 43 (0, 0)) (by (with_reducible repeat (first | refine blk_drewN ?_ _ | refine blk_drew ?_ | refine blk_alloc ?_ _)); exact BK414.out) hb)
            have n4_ := Aside0.mk (blk_below (g := gb425) (o := .cells #[.string t420, .int .i64 t421, .int .i64 t422, .string t423] 31 (0, 0)) (by (with_reducible repeat (first | refine blk_drewN ?_ _ | refine blk_drew ?_ | refine blk_alloc ?_ _)); exact BK425.out) hb)
            have n5_ := Aside0.mk (blk_below (g := gb432) (o := .cells #[.string t427, .int .i64 t428, .int .i64 t429, .string t430] 31 (0, 0)) (by (with_reducible repeat (first | refine blk_drewN ?_ _ | refine blk_drew ?_ | refine blk_alloc ?_ _)); exact BK432.out) hb)
            have n6_ := Aside0.mk (blk_below (g := gb439) (o := .cells #[.string t434, .int .i64 t435, .int .i64 t436, .string t437] 31 (0, 0)) (by (with_reducible repeat (first | refine blk_drewN ?_ _ | refine blk_drew ?_ | refine blk_alloc ?_ _)); exact BK439.out) hb)
            have n7_ := Aside0.mk (below_step (by repeat (first | (with_reducible first | exact HB.out | apply below_alloc | apply pw_below_drewN | apply below_drew1 | refine below_set ?_ GE401.out | refine below_set ?_ GE414.out | refine below_set ?_ GE425.out | refine below_set ?_ GE432.out | refine below_set ?_ GE439.out) | exact HB.out)) hb)
            have n8_ := Aside0.mk (hbox)
            have n9_ := Aside0.mk ((by rw [hg]; exact (below_size (by repeat (first | (with_reducible first | exact HB.out | apply below_alloc | apply pw_below_drewN | apply below_drew1 | refine below_set ?_ GE401.out | refine below_set ?_ GE414.out | refine below_set ?_ GE425.out | refine below_set ?_ GE432.out | refine below_set ?_ GE439.out) | exact HB.out))) : w.heap.size ≤ gb446))
            have n10_ := Aside0.mk ((by rw [hg]; exact (below_size (by repeat (first | (with_reducible first | exact HB.out | apply below_alloc | apply pw_below_drewN | apply below_drew1 | refine below_set ?_ GE401.out | refine below_set ?_ GE414.out | refine below_set ?_ GE425.out | refine below_set ?_ GE432.out | refine below_set ?_ GE439.out) | exact HB.out))) : w.heap.size ≤ gb446))
            have n11_ := Aside0.mk ((by rw [hg]; exact Nat.ne_of_lt (blk_lt (g := gb401) (o := .cells #[.int .i64 a0_0, .int .i64 a0_1, .int .i64 a0_2, .slice A0_3 l0_3.length c0_3] 43 (0, 0)) (by (with_reducible repeat (first | refine blk_drewN ?_ _ | refine blk_drew ?_ | refine blk_alloc ?_ _)); exact BK401.out)) : gb401 ≠ gb446))
            have n12_ := Aside0.mk ((by rw [hg]; exact Nat.ne_of_gt (blk_lt (g := gb401) (o := .cells #[.int .i64 a0_0, .int .i64 a0_1, .int .i64 a0_2, .slice A0_3 l0_3.length c0_3] 43 (0, 0)) (by (with_reducible repeat (first | refine blk_drewN ?_ _ | refine blk_drew ?_ | refine blk_alloc ?_ _)); exact BK401.out)) : gb446 ≠ gb401))
            have n13_ := Aside0.mk ((by rw [hg]; exact Nat.ne_of_lt (blk_lt (g := gb414) (o := .cells #[.int .i64 t407, .int .i64 t408, .int .i64 t409, .slice Ao17 t410.length co17] 43 (0, 0)) (by (with_reducible repeat (first | refine blk_drewN ?_ _ | refine blk_drew ?_ | refine blk_alloc ?_ _)); exact BK414.out)) : gb414 ≠ gb446))
            have n14_ := Aside0.mk ((by rw [hg]; exact Nat.ne_of_gt (blk_lt (g := gb414) (o := .cells #[.int .i64 t407, .int .i64 t408, .int .i64 t409, .slice Ao17 t410.length co17] 43 (0, 0)) (by (with_reducible repeat (first | refine blk_drewN ?_ _ | refine blk_drew ?_ | refine blk_alloc ?_ _)); exact BK414.out)) : gb446 ≠ gb414))
            have n15_ := Aside0.mk ((by rw [hg]; exact Nat.ne_of_lt (blk_lt (g := gb425) (o := .cells #[.string t420, .int .i64 t421, .int .i64 t422, .string t423] 31 (0, 0)) (by (with_reducible repeat (first | refine blk_drewN ?_ _ | refine blk_drew ?_ | refine blk_alloc ?_ _)); exact BK425.out)) : gb425 ≠ gb446))
            have n16_ := Aside0.mk ((by rw [hg]; exact Nat.ne_of_gt (blk_lt (g := gb425) (o := .cells #[.string t420, .int .i64 t421, .int .i64 t422, .string t423] 31 (0, 0)) (by (with_reducible repeat (first | refine blk_drewN ?_ _ | refine blk_drew ?_ | refine blk_alloc ?_ _)); exact BK425.out)) : gb446 ≠ gb425))
            have n17_ := Aside0.mk ((by rw [hg]; exact Nat.ne_of_lt (blk_lt (g := gb432) (o := .cells #[.string t427, .int .i64 t428, .int .i64 t429, .string t430] 31 (0, 0)) (by (with_reducible repeat (first | refine blk_drewN ?_ _ | refine blk_drew ?_ | refine blk_alloc ?_ _)); exact BK432.out)) : gb432 ≠ gb446))
            have n18_ := Aside0.mk ((by rw [hg]; exact Nat.ne_of_gt (blk_lt (g := gb432) (o := .cells #[.string t427, .int .i64 t428, .int .i64 t429, .string t430] 31 (0, 0)) (by (with_reducible repeat (first | refine blk_drewN ?_ _ | refine blk_drew ?_ | refine blk_alloc ?_ _)); exact BK432.out)) : gb446 ≠ gb432))
            have n19_ := Aside0.mk ((by rw [hg]; exact Nat.ne_of_lt (blk_lt (g := gb439) (o := .cells #[.string t434, .int .i64 t435, .int .i64 t436, .string t437] 31 (0, 0)) (by (with_reducible repeat (first | refine blk_drewN ?_ _ | refine blk_drew ?_ | refine blk_alloc ?_ _)); exact BK439.out)) : gb439 ≠ gb446))
            have n20_ := Aside0.mk ((by rw [hg]; exact Nat.ne_of_gt (blk_lt (g := gb439) (o := .cells #[.string t434, .int .i64 t435, .int .i64 t436, .string t437] 31 (0, 0)) (by (with_reducible repeat (first | refine blk_drewN ?_ _ | refine blk_drew ?_ | refine blk_alloc ?_ _)); exact BK439.out)) : gb446 ≠ gb439))
            clear HO_9
            clear HO_415003
            clear BK401
            clear BK414
            clear BK425
            clear BK432
            clear BK439
            clear HB
            have HO_9 := n0_
            have HO_415003 := n1_
            have BK401 := n2_
            have BK414 := n3_
            have BK425 := n4_
            have BK432 := n5_
            have BK439 := n6_
            have HB := n7_
            have BK446 := n8_
            have GW446 := n9_
            have GE446 := n10_
            have NB401_446 := n11_
            have NB446_401 := n12_
            have NB414_446 := n13_
            have NB446_414 := n14_
            have NB425_446 := n15_
            have NB446_425 := n16_
            have NB432_446 := n17_
            have NB446_432 := n18_
            have NB439_446 := n19_
            have NB446_439 := n20_
            clear n0_ n1_ n2_ n3_ n4_ n5_ n6_ n7_ n8_ n9_ n10_ n11_ n12_ n13_ n14_ n15_ n16_ n17_ n18_ n19_ n20_
            clear hb hbox hg
            refine hK.out _ _ ⟨(blk_cell BK414.out 0).trans rfl, (blk_cell BK414.out 1).trans rfl, (blk_cell BK414.out 2).trans rfl, (blk_cell BK414.out 3).trans rfl, HS4_⟩ (fun hHeld => ?_)
            clear hK K
            refine norm_ (a' := ?_) ?_ ?_
            rotate_left
            ·show Act.put _ (some 17) _ = _
             simp only [Act.put, List.setIfInBounds_toArray, List.set_cons_zero, List.set_cons_succ, i64_w, i32_w]
             rfl
            exact norm_ (by simp only [putAll, Act.put, List.setIfInBounds_toArray, List.set_cons_zero, List.set_cons_succ]) (hCont (gb446) _ ⟨hHeld, (by (with_reducible repeat (first | apply Kd.R_alloc | apply Kd.R_drewN | apply Kd.R_drew)); exact Kd.R_mono HO_415003.out (fun _ hk => ⟨hk.1.1, ⟨hk.1.2.1, ⟨hk.1.2.2, hk.2⟩⟩⟩)), (by (with_reducible repeat (first | apply Kd.R_alloc | apply Kd.R_drewN | apply Kd.R_drew)); exact HO_9.out), (by (with_reducible repeat (first | refine blk_drewN ?_ _ | refine blk_drew ?_ | refine blk_alloc ?_ _)); exact BK401.out), (by (with_reducible repeat (first | refine blk_drewN ?_ _ | refine blk_drew ?_ | refine blk_alloc ?_ _)); exact BK414.out), (by (with_reducible repeat (first | refine blk_drewN ?_ _ | refine blk_drew ?_ | refine blk_alloc ?_ _)); exact BK425.out), (by (with_reducible repeat (first | refine blk_drewN ?_ _ | refine blk_drew ?_ | refine blk_alloc ?_ _)); exact BK432.out), (by (with_reducible repeat (first | refine blk_drewN ?_ _ | refine blk_drew ?_ | refine blk_alloc ?_ _)); exact BK439.out), (by (with_reducible repeat (first | refine blk_drewN ?_ _ | refine blk_drew ?_ | refine blk_alloc ?_ _)); exact BK446.out), GW446.out, GE446.out, NB401_446.out, NB446_401.out, NB414_446.out, NB446_414.out, NB425_446.out, NB446_425.out, NB432_446.out, NB446_432.out, NB439_446.out, NB446_439.out, (by repeat (first | (with_reducible first | exact HB.out | apply below_alloc | apply pw_below_drewN | apply below_drew1 | refine below_set ?_ GE401.out | refine below_set ?_ GE414.out | refine below_set ?_ GE425.out | refine below_set ?_ GE432.out | refine below_set ?_ GE439.out | refine below_set ?_ GE446.out) | exact HB.out))⟩)
           ·skip
            refine box_step ?hg (N := 17) ?hd (cs := #[.string (⟨#[]⟩ : ByteArray), .int .i64 0, .int .i64 0, .string (⟨#[]⟩ : ByteArray)]) (t := 31) ?hr ?_; (case hd => rfl); (case hg => rfl); (case hr => first | (go_simp; done) | (go_simp; rfl))
            intro gb446 hg w59 hbox hb
            have HS4_ := (hb.cell (World.block_lt_of_cell? _ _ (hHeld.2.2.2.2))).trans (hHeld.2.2.2.2)
            have n0_ := Aside0.mk (Kd.R_below (by (with_reducible repeat (first | apply Kd.R_alloc | apply Kd.R_drewN | apply Kd.R_drew)); exact HO_9.out) hb)
            have n1_ := Aside0.mk (Kd.R_below (Kd.R_elderB (by (with_reducible repeat (first | apply Kd.R_alloc | apply Kd.R_drewN | apply Kd.R_drew)); exact HO_415003.out) gb446 (Nat.le_of_eq hg.symm)) hb)
            have n2_ := Aside0.mk (blk_below (g := gb401) (o := .cells #[.int .i64 a0_0, .int .i64 a0_1, .int .i64 a0_2, .slice A0_3 l0_3.length c0_3] 43 (0, 0)) (by (with_reducible repeat (first | refine blk_drewN ?_ _ | refine blk_drew ?_ | refine blk_alloc ?_ _)); exact BK401.out) hb)
            have n3_ := Aside0.mk (blk_below (g := gb414) (o := .cells #[.int .i64 t407, .int .i64 t408, .int .i64 t409, .slice Ao17 t410.length co17] 43 (0, 0)) (by (with_reducible repeat (first | refine blk_drewN ?_ _ | refine blk_drew ?_ | refine blk_alloc ?_ _)); exact BK414.out) hb)
            have n4_ := Aside0.mk (blk_below (g := gb425) (o := .cells #[.string t420, .int .i64 t421, .int .i64 t422, .string t423] 31 (0, 0)) (by (with_reducible repeat (first | refine blk_drewN ?_ _ | refine blk_drew ?_ | refine blk_alloc ?_ _)); exact BK425.out) hb)
            have n5_ := Aside0.mk (blk_below (g := gb432) (o := .cells #[.string t427, .int .i64 t428, .int .i64 t429, .string t430] 31 (0, 0)) (by (with_reducible repeat (first | refine blk_drewN ?_ _ | refine blk_drew ?_ | refine blk_alloc ?_ _)); exact BK432.out) hb)
            have n6_ := Aside0.mk (blk_below (g := gb439) (o := .cells #[.string t434, .int .i64 t435, .int .i64 t436, .string t437] 31 (0, 0)) (by (with_reducible repeat (first | refine blk_drewN ?_ _ | refine blk_drew ?_ | refine blk_alloc ?_ _)); exact BK439.out) hb)
            have n7_ := Aside0.mk (below_step (by repeat (first | (with_reducible first | exact HB.out | apply below_alloc | apply pw_below_drewN | apply below_drew1 | refine below_set ?_ GE401.out | refine below_set ?_ GE414.out | refine below_set ?_ GE425.out | refine below_set ?_ GE432.out | refine below_set ?_ GE439.out) | exact HB.out)) hb)
            have n8_ := Aside0.mk (hbox)
            have n9_ := Aside0.mk ((by rw [hg]; exact (below_size (by repeat (first | (with_reducible first | exact HB.out | apply below_alloc | apply pw_below_drewN | apply below_drew1 | refine below_set ?_ GE401.out | refine below_set ?_ GE414.out | refine below_set ?_ GE425.out | refine below_set ?_ GE432.out | refine below_set ?_ GE439.out) | exact HB.out))) : w.heap.size ≤ gb446))
            have n10_ := Aside0.mk ((by rw [hg]; exact (below_size (by repeat (first | (with_reducible first | exact HB.out | apply below_alloc | apply pw_below_drewN | apply below_drew1 | refine below_set ?_ GE401.out | refine below_set ?_ GE414.out | refine below_set ?_ GE425.out | refine below_set ?_ GE432.out | refine below_set ?_ GE439.out) | exact HB.out))) : w.heap.size ≤ gb446))
            have n11_ := Aside0.mk ((by rw [hg]; exact Nat.ne_of_lt (blk_lt (g := gb401) (o := .cells #[.int .i64 a0_0, .int .i64 a0_1, .int .i64 a0_2, .slice A0_3 l0_3.length c0_3] 43 (0, 0)) (by (with_reducible repeat (first | refine blk_drewN ?_ _ | refine blk_drew ?_ | refine blk_alloc ?_ _)); exact BK401.out)) : gb401 ≠ gb446))
            have n12_ := Aside0.mk ((by rw [hg]; exact Nat.ne_of_gt (blk_lt (g := gb401) (o := .cells #[.int .i64 a0_0, .int .i64 a0_1, .int .i64 a0_2, .slice A0_3 l0_3.length c0_3] 43 (0, 0)) (by (with_reducible repeat (first | refine blk_drewN ?_ _ | refine blk_drew ?_ | refine blk_alloc ?_ _)); exact BK401.out)) : gb446 ≠ gb401))
            have n13_ := Aside0.mk ((by rw [hg]; exact Nat.ne_of_lt (blk_lt (g := gb414) (o := .cells #[.int .i64 t407, .int .i64 t408, .int .i64 t409, .slice Ao17 t410.length co17] 43 (0, 0)) (by (with_reducible repeat (first | refine blk_drewN ?_ _ | refine blk_drew ?_ | refine blk_alloc ?_ _)); exact BK414.out)) : gb414 ≠ gb446))
            have n14_ := Aside0.mk ((by rw [hg]; exact Nat.ne_of_gt (blk_lt (g := gb414) (o := .cells #[.int .i64 t407, .int .i64 t408, .int .i64 t409, .slice Ao17 t410.length co17] 43 (0, 0)) (by (with_reducible repeat (first | refine blk_drewN ?_ _ | refine blk_drew ?_ | refine blk_alloc ?_ _)); exact BK414.out)) : gb446 ≠ gb414))
            have n15_ := Aside0.mk ((by rw [hg]; exact Nat.ne_of_lt (blk_lt (g := gb425) (o := .cells #[.string t420, .int .i64 t421, .int .i64 t422, .string t423] 31 (0, 0)) (by (with_reducible repeat (first | refine blk_drewN ?_ _ | refine blk_drew ?_ | refine blk_alloc ?_ _)); exact BK425.out)) : gb425 ≠ gb446))
            have n16_ := Aside0.mk ((by rw [hg]; exact Nat.ne_of_gt (blk_lt (g := gb425) (o := .cells #[.string t420, .int .i64 t421, .int .i64 t422, .string t423] 31 (0, 0)) (by (with_reducible repeat (first | refine blk_drewN ?_ _ | refine blk_drew ?_ | refine blk_alloc ?_ _)); exact BK425.out)) : gb446 ≠ gb425))
            have n17_ := Aside0.mk ((by rw [hg]; exact Nat.ne_of_lt (blk_lt (g := gb432) (o := .cells #[.string t427, .int .i64 t428, .int .i64 t429, .string t430] 31 (0, 0)) (by (with_reducible repeat (first | refine blk_drewN ?_ _ | refine blk_drew ?_ | refine blk_alloc ?_ _)); exact BK432.out)) : gb432 ≠ gb446))
            have n18_ := Aside0.mk ((by rw [hg]; exact Nat.ne_of_gt (blk_lt (g := gb432) (o := .cells #[.string t427, .int .i64 t428, .int .i64 t429, .string t430] 31 (0, 0)) (by (with_reducible repeat (first | refine blk_drewN ?_ _ | refine blk_drew ?_ | refine blk_alloc ?_ _)); exact BK432.out)) : gb446 ≠ gb432))
            have n19_ := Aside0.mk ((by rw [hg]; exact Nat.ne_of_lt (blk_lt (g := gb439) (o := .cells #[.string t434, .int .i64 t435, .int .i64 t436, .string t437] 31 (0, 0)) (by (with_reducible repeat (first | refine blk_drewN ?_ _ | refine blk_drew ?_ | refine blk_alloc ?_ _)); exact BK439.out)) : gb439 ≠ gb446))
            have n20_ := Aside0.mk ((by rw [hg]; exact Nat.ne_of_gt (blk_lt (g := gb439) (o := .cells #[.string t434, .int .i64 t435, .int .i64 t436, .string t437] 31 (0, 0)) (by (with_reducible repeat (first | refine blk_drewN ?_ _ | refine blk_drew ?_ | refine blk_alloc ?_ _)); exact BK439.out)) : gb446 ≠ gb439))
            clear HO_9
            clear HO_415003
            clear BK401
            clear BK414
            clear BK425
            clear BK432
            clear BK439
            clear HB
            have HO_9 := n0_
            have HO_415003 := n1_
            have BK401 := n2_
            have BK414 := n3_
            have BK425 := n4_
            have BK432 := n5_
            have BK439 := n6_
            have HB := n7_
            have BK446 := n8_
            have GW446 := n9_
            have GE446 := n10_
            have NB401_446 := n11_
            have NB446_401 := n12_
            have NB414_446 := n13_
            have NB446_414 := n14_
            have NB425_446 := n15_
            have NB446_425 := n16_
            have NB432_446 := n17_
            have NB446_432 := n18_
            have NB439_446 := n19_
            have NB446_439 := n20_
            clear n0_ n1_ n2_ n3_ n4_ n5_ n6_ n7_ n8_ n9_ n10_ n11_ n12_ n13_ n14_ n15_ n16_ n17_ n18_ n19_ n20_
            clear hb hbox hg
            refine hK.out _ _ ⟨(blk_cell BK414.out 0).trans rfl, (blk_cell BK414.out 1).trans rfl, (blk_cell BK414.out 2).trans rfl, (blk_cell BK414.out 3).trans rfl, HS4_⟩ (fun hHeld => ?_)
            clear hK K
            refine norm_ (a' := ?_) ?_ ?_
            rotate_left
            ·show Act.put _ (some 17) _ = _
             simp only [Act.put, List.setIfInBounds_toArray, List.set_cons_zero, List.set_cons_succ, i64_w, i32_w]
             rfl
            refine one_ (i := 5) (N := some 68) #[true, true, true, true, true, true, false, false, false, true, false, false] rfl rfl (one_of HT_.out (by kernel_rfl)) (by decide) (fun K hK => ?_)
            refine goes_ Tryd.func38 (by kernel_rfl) rfl #[.agg #[.int .i64 t407, .int .i64 t408, .int .i64 t409, .slice Ao17 t410.length co17], .string (rdOf ByteArray.empty y415 x10_1)] (by rfl) rfl rfl (by (try simp only [List.map_toArray, List.map_cons, List.map_nil]); first | done | rfl | (simp only [List.length_drop, List.length_take]; rfl)) ?_
            with_reducible refine (kauditref03_Get.calls k1 t407 t408 t409 _ _ t410 (rdOf ByteArray.empty y415 x10_1) t441 t442 t443 t444 t445 _ ?side1 ?side2 A25.out).mono ?_
            (case side1 => repeat (first | exact (Kd.R_reads' HO_415003.out).2.2 | (with_reducible refine Kd.C_alloc ?_ _) | (with_reducible refine Kd.C_drewN ?_ _) | (with_reducible refine Kd.C_drew ?_)))
            (case side2 => exact (Kd.R_reads' HO_415003.out).2.1)
            rintro e w60 ⟨rfl, hb⟩
            have HS4_ := (hb.cell (World.block_lt_of_cell? _ _ (hHeld.2.2.2.2))).trans (hHeld.2.2.2.2)
            refine ⟨_, rfl, ?_⟩
            have n0_ := Aside0.mk (Kd.R_below (by (with_reducible repeat (first | apply Kd.R_alloc | apply Kd.R_drewN | apply Kd.R_drew)); exact HO_9.out) hb)
            have n1_ := Aside0.mk (Kd.R_below (by (with_reducible repeat (first | apply Kd.R_alloc | apply Kd.R_drewN | apply Kd.R_drew)); exact HO_415003.out) hb)
            have n2_ := Aside0.mk (blk_below (g := gb401) (o := .cells #[.int .i64 a0_0, .int .i64 a0_1, .int .i64 a0_2, .slice A0_3 l0_3.length c0_3] 43 (0, 0)) (by (with_reducible repeat (first | refine blk_drewN ?_ _ | refine blk_drew ?_ | refine blk_alloc ?_ _)); exact BK401.out) hb)
            have n3_ := Aside0.mk (blk_below (g := gb414) (o := .cells #[.int .i64 t407, .int .i64 t408, .int .i64 t409, .slice Ao17 t410.length co17] 43 (0, 0)) (by (with_reducible repeat (first | refine blk_drewN ?_ _ | refine blk_drew ?_ | refine blk_alloc ?_ _)); exact BK414.out) hb)
            have n4_ := Aside0.mk (blk_below (g := gb425) (o := .cells #[.string t420, .int .i64 t421, .int .i64 t422, .string t423] 31 (0, 0)) (by (with_reducible repeat (first | refine blk_drewN ?_ _ | refine blk_drew ?_ | refine blk_alloc ?_ _)); exact BK425.out) hb)
            have n5_ := Aside0.mk (blk_below (g := gb432) (o := .cells #[.string t427, .int .i64 t428, .int .i64 t429, .string t430] 31 (0, 0)) (by (with_reducible repeat (first | refine blk_drewN ?_ _ | refine blk_drew ?_ | refine blk_alloc ?_ _)); exact BK432.out) hb)
            have n6_ := Aside0.mk (blk_below (g := gb439) (o := .cells #[.string t434, .int .i64 t435, .int .i64 t436, .string t437] 31 (0, 0)) (by (with_reducible repeat (first | refine blk_drewN ?_ _ | refine blk_drew ?_ | refine blk_alloc ?_ _)); exact BK439.out) hb)
            have n7_ := Aside0.mk (blk_below (g := gb446) (o := .cells #[.string (⟨#[]⟩ : ByteArray), .int .i64 0, .int .i64 0, .string (⟨#[]⟩ : ByteArray)] 31 (0, 0)) (by (with_reducible repeat (first | refine blk_drewN ?_ _ | refine blk_drew ?_ | refine blk_alloc ?_ _)); exact BK446.out) hb)
            have n8_ := Aside0.mk (below_step (by repeat (first | (with_reducible first | exact HB.out | apply below_alloc | apply pw_below_drewN | apply below_drew1 | refine below_set ?_ GE401.out | refine below_set ?_ GE414.out | refine below_set ?_ GE425.out | refine below_set ?_ GE432.out | refine below_set ?_ GE439.out | refine below_set ?_ GE446.out) | exact HB.out)) hb)
            clear HO_9
            clear HO_415003
            clear BK401
            clear BK414
            clear BK425
            clear BK432
            clear BK439
            clear BK446
            clear HB
            have HO_9 := n0_
            have HO_415003 := n1_
            have BK401 := n2_
            have BK414 := n3_
            have BK425 := n4_
            have BK432 := n5_
            have BK439 := n6_
            have BK446 := n7_
            have HB := n8_
            clear n0_ n1_ n2_ n3_ n4_ n5_ n6_ n7_ n8_
            (try clear hb)
            (try clear hb2)
            (try clear hk)
            (try clear hi)
            refine hK.out _ _ ⟨(blk_cell BK414.out 0).trans rfl, (blk_cell BK414.out 1).trans rfl, (blk_cell BK414.out 2).trans rfl, (blk_cell BK414.out 3).trans rfl, HS4_⟩ (fun hHeld => ?_)
            clear hK K
            refine norm_ (a' := ?_) ?_ ?_
            rotate_left
            ·show Act.put _ (some 68) _ = _
             simp only [Act.put, List.setIfInBounds_toArray, List.set_cons_zero, List.set_cons_succ, i64_w, i32_w]
             rfl
            refine pure_ (i := 6) (N := some 62) (v := ?_) (a' := ?_) #[true, true, true, true, true, true, true, false, false, true, false, false] rfl rfl (any_of HT_.out (by kernel_rfl)) (fun _ _ _ h => h) (Or.inl ⟨by rfl, ?_⟩) ?_ ?_
            rotate_left
            ·intro w'
             go_simp
             with_reducible rfl
            rotate_left
            ·simp only [Act.put, List.setIfInBounds_toArray, List.set_cons_zero, List.set_cons_succ, i64_w, i32_w]
             rfl
            refine pure_ (i := 7) (N := some 69) (v := ?_) (a' := ?_) #[true, true, true, true, true, true, true, true, false, true, false, false] rfl rfl (any_of HT_.out (by kernel_rfl)) (fun _ _ _ h => h) (Or.inl ⟨by rfl, ?_⟩) ?_ ?_
            rotate_left
            ·intro w'
             go_simp
             with_reducible rfl
            rotate_left
            ·simp only [Act.put, List.setIfInBounds_toArray, List.set_cons_zero, List.set_cons_succ, i64_w, i32_w]
             rfl
            refine pure_ (i := 8) (N := some 70) (v := ?_) (a' := ?_) #[true, true, true, true, true, true, true, true, true, true, false, false] rfl rfl (any_of HT_.out (by kernel_rfl)) (fun _ _ _ h => h) (Or.inl ⟨by rfl, ?_⟩) ?_ ?_
            rotate_left
            ·intro w'
             go_simp
             with_reducible rfl
            rotate_left
            ·simp only [Act.put, List.setIfInBounds_toArray, List.set_cons_zero, List.set_cons_succ, i64_w, i32_w]
             rfl
            exact norm_ (by simp only [putAll, Act.put, List.setIfInBounds_toArray, List.set_cons_zero, List.set_cons_succ]) (hCont (gb446) _ ⟨hHeld, (by (with_reducible repeat (first | apply Kd.R_alloc | apply Kd.R_drewN | apply Kd.R_drew)); exact Kd.R_mono HO_415003.out (fun _ hk => ⟨hk.1.1, ⟨hk.1.2.1, ⟨hk.1.2.2, hk.2⟩⟩⟩)), (by (with_reducible repeat (first | apply Kd.R_alloc | apply Kd.R_drewN | apply Kd.R_drew)); exact HO_9.out), (by (with_reducible repeat (first | refine blk_drewN ?_ _ | refine blk_drew ?_ | refine blk_alloc ?_ _)); exact BK401.out), (by (with_reducible repeat (first | refine blk_drewN ?_ _ | refine blk_drew ?_ | refine blk_alloc ?_ _)); exact BK414.out), (by (with_reducible repeat (first | refine blk_drewN ?_ _ | refine blk_drew ?_ | refine blk_alloc ?_ _)); exact BK425.out), (by (with_reducible repeat (first | refine blk_drewN ?_ _ | refine blk_drew ?_ | refine blk_alloc ?_ _)); exact BK432.out), (by (with_reducible repeat (first | refine blk_drewN ?_ _ | refine blk_drew ?_ | refine blk_alloc ?_ _)); exact BK439.out), (by (with_reducible repeat (first | refine blk_drewN ?_ _ | refine blk_drew ?_ | refine blk_alloc ?_ _)); exact BK446.out), GW446.out, GE446.out, NB401_446.out, NB446_401.out, NB414_446.out, NB446_414.out, NB425_446.out, NB446_425.out, NB432_446.out, NB446_432.out, NB439_446.out, NB446_439.out, (by repeat (first | (with_reducible first | exact HB.out | apply below_alloc | apply pw_below_drewN | apply below_drew1 | refine below_set ?_ GE401.out | refine below_set ?_ GE414.out | refine below_set ?_ GE425.out | refine below_set ?_ GE432.out | refine below_set ?_ GE439.out | refine below_set ?_ GE446.out) | exact HB.out))⟩)
          rintro gb446 w61 ⟨hS_, h0_, h1_, h2_, h3_, h4_, h5_, h6_, h7_, h8_, h9_, h10_, h11_, h12_, h13_, h14_, h15_, h16_, h17_, h18_, h19_, h20_⟩
          have n0_ : Aside0 (Kd.R k31 31 w61 w.heap.size (fun k_ => k_ ≠ gb425 ∧ k_ ≠ gb432 ∧ k_ ≠ gb439 ∧ k_ ≠ gb446) (.slice Ao17 t410.length co17) t410) := ⟨h0_⟩
          have n1_ : Aside0 (Kd.R Kd.string 9 w61 w.heap.size (fun _ => True) (.slice (some ad419) y415.length co30) y415) := ⟨h1_⟩
          have n2_ : Aside0 (w61.heap[gb401]? = some (.cells #[.int .i64 a0_0, .int .i64 a0_1, .int .i64 a0_2, .slice A0_3 l0_3.length c0_3] 43 (0, 0))) := ⟨h2_⟩
          have n3_ : Aside0 (w61.heap[gb414]? = some (.cells #[.int .i64 t407, .int .i64 t408, .int .i64 t409, .slice Ao17 t410.length co17] 43 (0, 0))) := ⟨h3_⟩
          have n4_ : Aside0 (w61.heap[gb425]? = some (.cells #[.string t420, .int .i64 t421, .int .i64 t422, .string t423] 31 (0, 0))) := ⟨h4_⟩
          have n5_ : Aside0 (w61.heap[gb432]? = some (.cells #[.string t427, .int .i64 t428, .int .i64 t429, .string t430] 31 (0, 0))) := ⟨h5_⟩
          have n6_ : Aside0 (w61.heap[gb439]? = some (.cells #[.string t434, .int .i64 t435, .int .i64 t436, .string t437] 31 (0, 0))) := ⟨h6_⟩
          have n7_ : Aside0 (w61.heap[gb446]? = some (.cells #[.string (⟨#[]⟩ : ByteArray), .int .i64 0, .int .i64 0, .string (⟨#[]⟩ : ByteArray)] 31 (0, 0))) := ⟨h7_⟩
          have n8_ : Aside0 (w.heap.size ≤ gb446) := ⟨h8_⟩
          have n9_ : Aside0 (w.heap.size ≤ gb446) := ⟨h9_⟩
          have n10_ : Aside0 (gb401 ≠ gb446) := ⟨h10_⟩
          have n11_ : Aside0 (gb446 ≠ gb401) := ⟨h11_⟩
          have n12_ : Aside0 (gb414 ≠ gb446) := ⟨h12_⟩
          have n13_ : Aside0 (gb446 ≠ gb414) := ⟨h13_⟩
          have n14_ : Aside0 (gb425 ≠ gb446) := ⟨h14_⟩
          have n15_ : Aside0 (gb446 ≠ gb425) := ⟨h15_⟩
          have n16_ : Aside0 (gb432 ≠ gb446) := ⟨h16_⟩
          have n17_ : Aside0 (gb446 ≠ gb432) := ⟨h17_⟩
          have n18_ : Aside0 (gb439 ≠ gb446) := ⟨h18_⟩
          have n19_ : Aside0 (gb446 ≠ gb439) := ⟨h19_⟩
          have n20_ : Aside0 (Below w.heap.size w w61) := ⟨h20_⟩
          clear HO_9
          clear HO_415003
          clear BK401
          clear BK414
          clear BK425
          clear BK432
          clear BK439
          clear HB
          clear h0_ h1_ h2_ h3_ h4_ h5_ h6_ h7_ h8_ h9_ h10_ h11_ h12_ h13_ h14_ h15_ h16_ h17_ h18_ h19_ h20_
          have HO_415003 := n0_
          have HO_9 := n1_
          have BK401 := n2_
          have BK414 := n3_
          have BK425 := n4_
          have BK432 := n5_
          have BK439 := n6_
          have BK446 := n7_
          have GW446 := n8_
          have GE446 := n9_
          have NB401_446 := n10_
          have NB446_401 := n11_
          have NB414_446 := n12_
          have NB446_414 := n13_
          have NB425_446 := n14_
          have NB446_425 := n15_
          have NB432_446 := n16_
          have NB446_432 := n17_
          have NB439_446 := n18_
          have NB446_439 := n19_
          have HB := n20_
          clear n0_ n1_ n2_ n3_ n4_ n5_ n6_ n7_ n8_ n9_ n10_ n11_ n12_ n13_ n14_ n15_ n16_ n17_ n18_ n19_ n20_
          have hHeld : w61.cell? ⟨gb414, 0, none⟩ = some (.int .i64 t407) ∧ w61.cell? ⟨gb414, 1, none⟩ = some (.int .i64 t408) ∧ w61.cell? ⟨gb414, 2, none⟩ = some (.int .i64 t409) ∧ w61.cell? ⟨gb414, 3, none⟩ = some (.slice Ao17 t410.length co17) ∧ w61.cell? (ad419.add (x10_1).toNat) = some (.string (rdOf ByteArray.empty y415 x10_1)) := hS_
          refine norm_ (a' := ?_) ?_ ?_
          rotate_left
          ·simp only [putAll, Act.put, List.setIfInBounds_toArray, List.set_cons_zero, List.set_cons_succ]
           rfl
          refine one_ (i := 10) (N := none) #[true, true, true, true, true, true, true, true, true, true, true, false] rfl rfl (one_of HT_.out (by kernel_rfl)) (by decide) (fun K hK => ?_)
          have hs62 : w61.cell? ⟨gb446, 0, none⟩ = some (.string (⟨#[]⟩ : ByteArray)) := (blk_cell BK446.out 0).trans rfl
          have hfs62 := blk_frozen BK446.out 0
          have hns62_0 := NB401_446.out
          have hns62_1 := NB414_446.out
          have hns62_2 := NB425_446.out
          have hns62_3 := NB432_446.out
          have hns62_4 := NB439_446.out
          have hms62_0 := NB446_401.out
          have hms62_1 := NB446_414.out
          have hms62_2 := NB446_425.out
          have hms62_3 := NB446_432.out
          have hms62_4 := NB446_439.out
          have hs63 : w61.cell? ⟨gb446, 1, none⟩ = some (.int .i64 0) := (blk_cell BK446.out 1).trans rfl
          have hfs63 := blk_frozen BK446.out 1
          have hns63_0 := NB401_446.out
          have hns63_1 := NB414_446.out
          have hns63_2 := NB425_446.out
          have hns63_3 := NB432_446.out
          have hns63_4 := NB439_446.out
          have hms63_0 := NB446_401.out
          have hms63_1 := NB446_414.out
          have hms63_2 := NB446_425.out
          have hms63_3 := NB446_432.out
          have hms63_4 := NB446_439.out
          have hs64 : w61.cell? ⟨gb446, 2, none⟩ = some (.int .i64 0) := (blk_cell BK446.out 2).trans rfl
          have hfs64 := blk_frozen BK446.out 2
          have hns64_0 := NB401_446.out
          have hns64_1 := NB414_446.out
          have hns64_2 := NB425_446.out
          have hns64_3 := NB432_446.out
          have hns64_4 := NB439_446.out
          have hms64_0 := NB446_401.out
          have hms64_1 := NB446_414.out
          have hms64_2 := NB446_425.out
          have hms64_3 := NB446_432.out
          have hms64_4 := NB446_439.out
          have hs65 : w61.cell? ⟨gb446, 3, none⟩ = some (.string (⟨#[]⟩ : ByteArray)) := (blk_cell BK446.out 3).trans rfl
          have hfs65 := blk_frozen BK446.out 3
          have hns65_0 := NB401_446.out
          have hns65_1 := NB414_446.out
          have hns65_2 := NB425_446.out
          have hns65_3 := NB432_446.out
          have hns65_4 := NB439_446.out
          have hms65_0 := NB446_401.out
          have hms65_1 := NB446_414.out
          have hms65_2 := NB446_425.out
          have hms65_3 := NB446_432.out
          have hms65_4 := NB446_439.out
          refine skip_ (w1 := ?_) (by rfl) rfl ?_ ?_
          rotate_left
          ·go_simp
           rfl
          refine hK.out _ _ ⟨((cell_far (p := ⟨gb446, _, none⟩) NB414_446.out _).trans (((cell_far (p := ⟨gb446, _, none⟩) NB414_446.out _).trans (((cell_far (p := ⟨gb446, _, none⟩) NB414_446.out _).trans (((cell_far (p := ⟨gb446, _, none⟩) NB414_446.out _).trans (hHeld.1)))))))), ((cell_far (p := ⟨gb446, _, none⟩) NB414_446.out _).trans (((cell_far (p := ⟨gb446, _, none⟩) NB414_446.out _).trans (((cell_far (p := ⟨gb446, _, none⟩) NB414_446.out _).trans (((cell_far (p := ⟨gb446, _, none⟩) NB414_446.out _).trans (hHeld.2.1)))))))), ((cell_far (p := ⟨gb446, _, none⟩) NB414_446.out _).trans (((cell_far (p := ⟨gb446, _, none⟩) NB414_446.out _).trans (((cell_far (p := ⟨gb446, _, none⟩) NB414_446.out _).trans (((cell_far (p := ⟨gb446, _, none⟩) NB414_446.out _).trans (hHeld.2.2.1)))))))), ((cell_far (p := ⟨gb446, _, none⟩) NB414_446.out _).trans (((cell_far (p := ⟨gb446, _, none⟩) NB414_446.out _).trans (((cell_far (p := ⟨gb446, _, none⟩) NB414_446.out _).trans (((cell_far (p := ⟨gb446, _, none⟩) NB414_446.out _).trans (hHeld.2.2.2.1)))))))), ((cell_far (p := ⟨gb446, _, none⟩) (by first | exact Kd.own_blk (Kd.R_ne HO_9.out BK446.out (by decide)) | (rw [add_block]; exact Kd.own_blk (Kd.R_ne HO_9.out BK446.out (by decide))) | (show (Addr.add _ _).block ≠ _; rw [add_block]; exact Kd.own_blk (Kd.R_ne HO_9.out BK446.out (by decide))) | (dsimp only; exact Kd.own_blk (Kd.R_ne HO_9.out BK446.out (by decide)))) _).trans (((cell_far (p := ⟨gb446, _, none⟩) (by first | exact Kd.own_blk (Kd.R_ne HO_9.out BK446.out (by decide)) | (rw [add_block]; exact Kd.own_blk (Kd.R_ne HO_9.out BK446.out (by decide))) | (show (Addr.add _ _).block ≠ _; rw [add_block]; exact Kd.own_blk (Kd.R_ne HO_9.out BK446.out (by decide))) | (dsimp only; exact Kd.own_blk (Kd.R_ne HO_9.out BK446.out (by decide)))) _).trans (((cell_far (p := ⟨gb446, _, none⟩) (by first | exact Kd.own_blk (Kd.R_ne HO_9.out BK446.out (by decide)) | (rw [add_block]; exact Kd.own_blk (Kd.R_ne HO_9.out BK446.out (by decide))) | (show (Addr.add _ _).block ≠ _; rw [add_block]; exact Kd.own_blk (Kd.R_ne HO_9.out BK446.out (by decide))) | (dsimp only; exact Kd.own_blk (Kd.R_ne HO_9.out BK446.out (by decide)))) _).trans (((cell_far (p := ⟨gb446, _, none⟩) (by first | exact Kd.own_blk (Kd.R_ne HO_9.out BK446.out (by decide)) | (rw [add_block]; exact Kd.own_blk (Kd.R_ne HO_9.out BK446.out (by decide))) | (show (Addr.add _ _).block ≠ _; rw [add_block]; exact Kd.own_blk (Kd.R_ne HO_9.out BK446.out (by decide))) | (dsimp only; exact Kd.own_blk (Kd.R_ne HO_9.out BK446.out (by decide)))) _).trans (hHeld.2.2.2.2))))))))⟩ (fun hHeld => ?_)
          clear hK K
          refine pure_ (i := 11) (N := some 18) (v := ?_) (a' := ?_) #[true, true, true, true, true, true, true, true, true, true, true, true] rfl rfl (any_of HT_.out (by kernel_rfl)) (fun _ _ _ h => h) (Or.inl ⟨by rfl, ?_⟩) ?_ ?_
          rotate_left
          ·intro w'
           go_simp
           with_reducible rfl
          rotate_left
          ·simp only [Act.put, List.setIfInBounds_toArray, List.set_cons_zero, List.set_cons_succ, i64_w, i32_w]
           rfl
          refine done_ (done_of HT_.out (by kernel_rfl)) ?_
          have hnb66 := NB425_401.out
          have hnc66 := NB401_425.out
          have hnb67 := NB425_414.out
          have hnc67 := NB414_425.out
          have hnb68 := NB425_432.out
          have hnc68 := NB432_425.out
          have hnb69 := NB425_439.out
          have hnc69 := NB439_425.out
          have hnb70 := NB425_446.out
          have hnc70 := NB446_425.out
          have hcz71_0 : w61.cell? ⟨gb425, 0, none⟩ = some (.string t420) := (blk_cell BK425.out 0).trans rfl
          have hcz71_1 : w61.cell? ⟨gb425, 1, none⟩ = some (.int .i64 t421) := (blk_cell BK425.out 1).trans rfl
          have hcz71_2 : w61.cell? ⟨gb425, 2, none⟩ = some (.int .i64 t422) := (blk_cell BK425.out 2).trans rfl
          have hcz71_3 : w61.cell? ⟨gb425, 3, none⟩ = some (.string t423) := (blk_cell BK425.out 3).trans rfl
          have hfz71_0 := blk_frozen BK425.out 0
          have hfz71_1 := blk_frozen BK425.out 1
          have hfz71_2 := blk_frozen BK425.out 2
          have hfz71_3 := blk_frozen BK425.out 3
          have hnb72 := NB432_401.out
          have hnc72 := NB401_432.out
          have hnb73 := NB432_414.out
          have hnc73 := NB414_432.out
          have hnb74 := NB432_439.out
          have hnc74 := NB439_432.out
          have hnb75 := NB432_446.out
          have hnc75 := NB446_432.out
          have hcz76_0 : w61.cell? ⟨gb432, 0, none⟩ = some (.string t427) := (blk_cell BK432.out 0).trans rfl
          have hcz76_1 : w61.cell? ⟨gb432, 1, none⟩ = some (.int .i64 t428) := (blk_cell BK432.out 1).trans rfl
          have hcz76_2 : w61.cell? ⟨gb432, 2, none⟩ = some (.int .i64 t429) := (blk_cell BK432.out 2).trans rfl
          have hcz76_3 : w61.cell? ⟨gb432, 3, none⟩ = some (.string t430) := (blk_cell BK432.out 3).trans rfl
          have hfz76_0 := blk_frozen BK432.out 0
          have hfz76_1 := blk_frozen BK432.out 1
          have hfz76_2 := blk_frozen BK432.out 2
          have hfz76_3 := blk_frozen BK432.out 3
          have hnb77 := NB439_401.out
          have hnc77 := NB401_439.out
          have hnb78 := NB439_414.out
          have hnc78 := NB414_439.out
          have hnb79 := NB439_446.out
          have hnc79 := NB446_439.out
          have hcz80_0 : w61.cell? ⟨gb439, 0, none⟩ = some (.string t434) := (blk_cell BK439.out 0).trans rfl
          have hcz80_1 : w61.cell? ⟨gb439, 1, none⟩ = some (.int .i64 t435) := (blk_cell BK439.out 1).trans rfl
          have hcz80_2 : w61.cell? ⟨gb439, 2, none⟩ = some (.int .i64 t436) := (blk_cell BK439.out 2).trans rfl
          have hcz80_3 : w61.cell? ⟨gb439, 3, none⟩ = some (.string t437) := (blk_cell BK439.out 3).trans rfl
          have hfz80_0 := blk_frozen BK439.out 0
          have hfz80_1 := blk_frozen BK439.out 1
          have hfz80_2 := blk_frozen BK439.out 2
          have hfz80_3 := blk_frozen BK439.out 3
          have hnb81 := NB446_401.out
          have hnc81 := NB401_446.out
          have hnb82 := NB446_414.out
          have hnc82 := NB414_446.out
          have hcz83_0 : w61.cell? ⟨gb446, 0, none⟩ = some (.string (⟨#[]⟩ : ByteArray)) := (blk_cell BK446.out 0).trans rfl
          have hcz83_1 : w61.cell? ⟨gb446, 1, none⟩ = some (.int .i64 0) := (blk_cell BK446.out 1).trans rfl
          have hcz83_2 : w61.cell? ⟨gb446, 2, none⟩ = some (.int .i64 0) := (blk_cell BK446.out 2).trans rfl
          have hcz83_3 : w61.cell? ⟨gb446, 3, none⟩ = some (.string (⟨#[]⟩ : ByteArray)) := (blk_cell BK446.out 3).trans rfl
          have hfz83_0 := blk_frozen BK446.out 0
          have hfz83_1 := blk_frozen BK446.out 1
          have hfz83_2 := blk_frozen BK446.out 2
          have hfz83_3 := blk_frozen BK446.out 3
          try go_wp2
          go_roundg k1
          case measure => have := HK1.out; omega
          case rel => exact ⟨(wrap64 (x10_1 + 1)), (by first | rfl | (simp; done) | (simp [*]; done)), H', ⟨by have := HK1.out; omega⟩, ⟨by (with_reducible repeat (first | apply Kd.R_alloc | apply Kd.R_drewN | apply Kd.R_drew)); exact Kd.R_mono (Kd.R_far (p := ⟨gb446, 3, none⟩) (Kd.R_far (p := ⟨gb446, 2, none⟩) (Kd.R_far (p := ⟨gb446, 1, none⟩) (Kd.R_far (p := ⟨gb446, 0, none⟩) (Kd.R_types HO_9.out BK446.out (by decide)) (fun _ hk => hk.2) (.string t441)) (fun _ hk => hk.2) (.int .i64 t442)) (fun _ hk => hk.2) (.int .i64 t443)) (fun _ hk => hk.2) (.string t444)) (fun _ hk => trivial)⟩, ⟨by (with_reducible repeat (first | apply Kd.R_alloc | apply Kd.R_drewN | apply Kd.R_drew)); exact Kd.R_mono (Kd.R_far (p := ⟨gb446, 3, none⟩) (Kd.R_far (p := ⟨gb446, 2, none⟩) (Kd.R_far (p := ⟨gb446, 1, none⟩) (Kd.R_far (p := ⟨gb446, 0, none⟩) (Kd.R_mono HO_415003.out (fun k_ hk => (⟨hk, hk.2.2.2⟩ : _ ∧ k_ ≠ gb446))) (fun _ hk => hk.2) (.string t441)) (fun _ hk => hk.2) (.int .i64 t442)) (fun _ hk => hk.2) (.int .i64 t443)) (fun _ hk => hk.2) (.string t444)) (fun _ hk => trivial)⟩, ⟨by (with_reducible repeat (first | refine blk_drewN ?_ _ | refine blk_drew ?_ | refine blk_alloc ?_ _)); refine blk_far ?_ NB401_446.out _; (with_reducible repeat (first | refine blk_drewN ?_ _ | refine blk_drew ?_ | refine blk_alloc ?_ _)); refine blk_far ?_ NB401_446.out _; (with_reducible repeat (first | refine blk_drewN ?_ _ | refine blk_drew ?_ | refine blk_alloc ?_ _)); refine blk_far ?_ NB401_446.out _; (with_reducible repeat (first | refine blk_drewN ?_ _ | refine blk_drew ?_ | refine blk_alloc ?_ _)); refine blk_far ?_ NB401_446.out _; (with_reducible repeat (first | refine blk_drewN ?_ _ | refine blk_drew ?_ | refine blk_alloc ?_ _)); exact BK401.out⟩, ⟨by (with_reducible repeat (first | refine blk_drewN ?_ _ | refine blk_drew ?_ | refine blk_alloc ?_ _)); refine blk_far ?_ NB414_446.out _; (with_reducible repeat (first | refine blk_drewN ?_ _ | refine blk_drew ?_ | refine blk_alloc ?_ _)); refine blk_far ?_ NB414_446.out _; (with_reducible repeat (first | refine blk_drewN ?_ _ | refine blk_drew ?_ | refine blk_alloc ?_ _)); refine blk_far ?_ NB414_446.out _; (with_reducible repeat (first | refine blk_drewN ?_ _ | refine blk_drew ?_ | refine blk_alloc ?_ _)); refine blk_far ?_ NB414_446.out _; (with_reducible repeat (first | refine blk_drewN ?_ _ | refine blk_drew ?_ | refine blk_alloc ?_ _)); exact BK414.out⟩, ⟨by repeat (first | (with_reducible first | exact HB.out | apply below_alloc | apply pw_below_drewN | apply below_drew1 | refine below_set ?_ GE401.out | refine below_set ?_ GE414.out | refine below_set ?_ GE425.out | refine below_set ?_ GE432.out | refine below_set ?_ GE439.out | refine below_set ?_ GE446.out) | exact HB.out)⟩⟩
     ·rw [if_neg c21] at H
      exact absurd H (by simp)
    ·rw [if_neg c20] at H
     have c20b0 : decide (x10_1 < (y415.length : Int)) = false := decide_eq_false c20
     clear c20
     replace H := Option.bind_eq_some_iff.mp H
     obtain ⟨t418, A840, H⟩ := H
     replace H : (some t418) = some r := H
     have A84 := Aside0.mk A840
     clear A840
     obtain rfl := Option.some.inj H
     obtain ⟨Ao85, co85, eo85⟩ := Kd.R_slice HO_9.out
     subst eo85
     go_wp2_with (first | ((with_reducible refine gate_callee (f := 32) rfl ?_); refine goesL_ (some 89) rfl rfl Tryd.func32 (by kernel_rfl) rfl #[] rfl (by (try simp only [List.map_toArray, List.map_cons, List.map_nil]); first | done | rfl | (simp only [List.length_drop, List.length_take]; rfl)) ?_; (with_reducible refine (kauditlaw03_awake.calls  t418 _ ?side1 A84.out).mono ?_); (case side1 => exact GT.below (by decide) HG.out (by repeat (first | (with_reducible first | exact HB.out | apply below_alloc | apply pw_below_drewN | apply below_drew1 | refine below_set ?_ GE401.out | refine below_set ?_ GE414.out) | exact HB.out))); rintro e w86 ⟨rfl, hb⟩; refine ⟨_, rfl, ?_⟩; have n0_ := Aside0.mk (Kd.R_below (by (with_reducible repeat (first | apply Kd.R_alloc | apply Kd.R_drewN | apply Kd.R_drew)); exact HO_9.out) hb); have n1_ := Aside0.mk (Kd.R_below (by (with_reducible repeat (first | apply Kd.R_alloc | apply Kd.R_drewN | apply Kd.R_drew)); exact HO_415003.out) hb); have n2_ := Aside0.mk (blk_below (g := gb401) (o := .cells #[.int .i64 a0_0, .int .i64 a0_1, .int .i64 a0_2, .slice A0_3 l0_3.length c0_3] 43 (0, 0)) (by (with_reducible repeat (first | refine blk_drewN ?_ _ | refine blk_drew ?_ | refine blk_alloc ?_ _)); exact BK401.out) hb); have n3_ := Aside0.mk (blk_below (g := gb414) (o := .cells #[.int .i64 t407, .int .i64 t408, .int .i64 t409, .slice Ao17 t410.length co17] 43 (0, 0)) (by (with_reducible repeat (first | refine blk_drewN ?_ _ | refine blk_drew ?_ | refine blk_alloc ?_ _)); exact BK414.out) hb); have n4_ := Aside0.mk (below_step (by repeat (first | (with_reducible first | exact HB.out | apply below_alloc | apply pw_below_drewN | apply below_drew1 | refine below_set ?_ GE401.out | refine below_set ?_ GE414.out) | exact HB.out)) hb); clear HO_9; clear HO_415003; clear BK401; clear BK414; clear HB; have HO_9 := n0_; have HO_415003 := n1_; have BK401 := n2_; have BK414 := n3_; have HB := n4_; clear n0_ n1_ n2_ n3_ n4_; (try clear hb); (try clear hb2); (try clear hk); (try clear hi)))
     go_ret
     exact ⟨by first | rfl | (simp [errW_none, errW_some] <;> rfl) | (simp [*, errW_none, errW_some] <;> rfl), by repeat (first | (with_reducible first | exact HB.out | apply below_alloc | apply pw_below_drewN | apply below_drew1 | refine below_set ?_ GE401.out | refine below_set ?_ GE414.out) | exact HB.out)⟩
 ·replace c5 := Bool.eq_false_iff.mpr c5
  subst c5
  have H1 : ((kauditlaw03_awake.f).bind fun t403 => (some t403)) = some r := by rw [if_neg (show ¬ (false = true) by decide)] at H; exact H
  clear H
  have H := H1
  clear H1
  replace H := Option.bind_eq_some_iff.mp H
  obtain ⟨t403, A870, H⟩ := H
  replace H : (some t403) = some r := H
  have A87 := Aside0.mk A870
  clear A870
  obtain rfl := Option.some.inj H
  go_enter Tryd.func10, Tryd.ntmps10
  go_wp2_with (first | ((with_reducible refine gate_dst (N := 3) rfl ?_); refine box_event ?hg (N := 3) ?hd (cs := #[.int .i64 a0_0, .int .i64 a0_1, .int .i64 a0_2, .slice A0_3 l0_3.length c0_3]) (t := 43) ?hr ?_; (case hd => rfl); (case hg => rfl); (case hr => first | (go_simp; done) | (go_simp; rfl)); intro gb401 hg w88 hbox hb; have n0_ := Aside0.mk (below_step (by repeat (first | (with_reducible first | exact HB.out | apply below_alloc | apply pw_below_drewN | apply below_drew1) | exact HB.out)) hb); have n1_ := Aside0.mk (hbox); have n2_ := Aside0.mk ((by rw [hg]; exact (below_size (by repeat (first | (with_reducible first | exact HB.out | apply below_alloc | apply pw_below_drewN | apply below_drew1) | exact HB.out))) : w.heap.size ≤ gb401)); have n3_ := Aside0.mk ((by rw [hg]; exact (below_size (by repeat (first | (with_reducible first | exact HB.out | apply below_alloc | apply pw_below_drewN | apply below_drew1) | exact HB.out))) : w.heap.size ≤ gb401)); clear HB; have HB := n0_; have BK401 := n1_; have GW401 := n2_; have GE401 := n3_; clear n0_ n1_ n2_ n3_; clear hb hbox hg; have hcz89_0 : w88.cell? ⟨gb401, 0, none⟩ = some (.int .i64 a0_0) := (blk_cell BK401.out 0).trans rfl; have hcz89_1 : w88.cell? ⟨gb401, 1, none⟩ = some (.int .i64 a0_1) := (blk_cell BK401.out 1).trans rfl; have hcz89_2 : w88.cell? ⟨gb401, 2, none⟩ = some (.int .i64 a0_2) := (blk_cell BK401.out 2).trans rfl; have hcz89_3 : w88.cell? ⟨gb401, 3, none⟩ = some (.slice A0_3 l0_3.length c0_3) := (blk_cell BK401.out 3).trans rfl; have hfz89_0 := blk_frozen BK401.out 0; have hfz89_1 := blk_frozen BK401.out 1; have hfz89_2 := blk_frozen BK401.out 2; have hfz89_3 := blk_frozen BK401.out 3) | ((with_reducible refine gate_callee (f := 31) rfl ?_); refine goesL_ (some 20) rfl rfl Tryd.func31 (by kernel_rfl) rfl #[.agg #[.int .i64 a0_0, .int .i64 a0_1, .int .i64 a0_2, .slice A0_3 l0_3.length c0_3]] rfl (by (try simp only [List.map_toArray, List.map_cons, List.map_nil]); first | done | rfl | (simp only [List.length_drop, List.length_take]; rfl)) ?_; (with_reducible refine (kauditlaw03_light.calls k a0_0 a0_1 a0_2 _ _ l0_3 false _ ?side1 ?side2 A4.out).mono ?_); (case side1 => repeat (first | exact (Kd.C_below HR0_3.out HB.out) | (with_reducible refine Kd.C_alloc ?_ _) | (with_reducible refine Kd.C_drewN ?_ _) | (with_reducible refine Kd.C_drew ?_))); (case side2 => exact HC0_3.out); rintro e w90 ⟨rfl, hb⟩; refine ⟨_, rfl, ?_⟩; have n0_ := Aside0.mk (blk_below (g := gb401) (o := .cells #[.int .i64 a0_0, .int .i64 a0_1, .int .i64 a0_2, .slice A0_3 l0_3.length c0_3] 43 (0, 0)) (by (with_reducible repeat (first | refine blk_drewN ?_ _ | refine blk_drew ?_ | refine blk_alloc ?_ _)); exact BK401.out) hb); have n1_ := Aside0.mk (below_step (by repeat (first | (with_reducible first | exact HB.out | apply below_alloc | apply pw_below_drewN | apply below_drew1 | refine below_set ?_ GE401.out) | exact HB.out)) hb); clear BK401; clear HB; have BK401 := n0_; have HB := n1_; clear n0_ n1_; (try clear hb); (try clear hb2); (try clear hk); (try clear hi)) | ((with_reducible refine gate_callee (f := 32) rfl ?_); refine goesL_ (some 22) rfl rfl Tryd.func32 (by kernel_rfl) rfl #[] rfl (by (try simp only [List.map_toArray, List.map_cons, List.map_nil]); first | done | rfl | (simp only [List.length_drop, List.length_take]; rfl)) ?_; (with_reducible refine (kauditlaw03_awake.calls  t403 _ ?side1 A87.out).mono ?_); (case side1 => exact GT.below (by decide) HG.out (by repeat (first | (with_reducible first | exact HB.out | apply below_alloc | apply pw_below_drewN | apply below_drew1 | refine below_set ?_ GE401.out) | exact HB.out))); rintro e w91 ⟨rfl, hb⟩; refine ⟨_, rfl, ?_⟩; have n0_ := Aside0.mk (blk_below (g := gb401) (o := .cells #[.int .i64 a0_0, .int .i64 a0_1, .int .i64 a0_2, .slice A0_3 l0_3.length c0_3] 43 (0, 0)) (by (with_reducible repeat (first | refine blk_drewN ?_ _ | refine blk_drew ?_ | refine blk_alloc ?_ _)); exact BK401.out) hb); have n1_ := Aside0.mk (below_step (by repeat (first | (with_reducible first | exact HB.out | apply below_alloc | apply pw_below_drewN | apply below_drew1 | refine below_set ?_ GE401.out) | exact HB.out)) hb); clear BK401; clear HB; have BK401 := n0_; have HB := n1_; clear n0_ n1_; (try clear hb); (try clear hb2); (try clear hk); (try clear hi)))
  go_ret
  exact ⟨by first | rfl | (simp [errW_none, errW_some] <;> rfl) | (simp [*, errW_none, errW_some] <;> rfl), by repeat (first | (with_reducible first | exact HB.out | apply below_alloc | apply pw_below_drewN | apply below_drew1 | refine below_set ?_ GE401.out) | exact HB.out)⟩
end Go.Proofs.YtkfddpbmclbdhaaDoor.PA
