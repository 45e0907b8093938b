/- Contracts of functions of the program: written by pr2.py (ours, round the print of the kit) out of the translation; conditions: each contract names its own. -/
import Derived.Test.YtkfddpbmclbdhaaDoorZ9PAx0
import Derived.Test.YtkfddpbmclbdhaaDoorZ9PAx10
import Derived.Test.YtkfddpbmclbdhaaDoorZ9PAx11
import Derived.Test.YtkfddpbmclbdhaaDoorZ9PAx15
import Derived.Test.YtkfddpbmclbdhaaDoorZ9GT
import Derived.Test.YtkfddpbmclbdhaaDoorZ9EForm
namespace Go.Proofs.YtkfddpbmclbdhaaDoor.PA
open Go.RowKit Go.Proofs.YtkfddpbmclbdhaaDoorW.PrintWords Go.Proofs.YtkfddpbmclbdhaaDoorW.PrintLast Go.Proofs.YtkfddpbmclbdhaaDoorW.PrintMore
attribute [local go_sem] max2_int min2_int max_two min_two max_three min_three max_four min_four   -- for this text's walks alone
set_option linter.unusedVariables false
set_option linter.unusedSimpArgs false
/-! ### kauditlaw03_RecordDiffer: function 9 -/
def kauditlaw03_RecordDiffer.j0 : Nat → Int → Int → Int → List (S31) → Int → Int → Int → List (S31) → Option (Bool)
 | 0, _, _, _, _, _, _, _, _ => none
 | k + 1, x362000, x362001, x362002, x362003, x363000, x363001, x363002, x363003 => (record_Format.f x362000 x362001 x362002 x362003).bind fun bt385 => ((record_Format.f x363000 x363001 x363002 x363003).bind fun bt387 => (if bt385.2 = 0 then (if bt387.2 = 0 then ((kauditref03_Same.f k x362000 x362001 x362002 x362003 x363000 x363001 x363002 x363003).bind fun t389 => (if ((bt385.1.toList == bt387.1.toList) == t389) = true then ((kauditlaw03_awake.f).bind fun t390 => (some t390)) else (some false))) else ((kauditlaw03_awake.f).bind fun t391 => (some t391))) else ((kauditlaw03_awake.f).bind fun t392 => (some t392))))
def kauditlaw03_RecordDiffer.f (k : Nat) (l0 : List Int) : Option (Bool) := (kauditmake_New.f l0).bind fun bt351 => ((kauditmake_Src_Record.f k bt351.1 bt351.2).bind fun bt354 => ((kauditmake_Src_N.f bt351.1 bt354.2.2.2.2 4).bind fun bt363 => (if bt363.1 = 0 then ((kauditmake_Src_Record.f k bt351.1 bt363.2).bind fun bt365 => (kauditlaw03_RecordDiffer.j0 k bt354.1 bt354.2.1 bt354.2.2.1 bt354.2.2.2.1 bt365.1 bt365.2.1 bt365.2.2.1 bt365.2.2.2.1)) else (if bt363.1 = 1 then ((kauditmake_Src_N.f bt351.1 bt363.2 2).bind fun bt372 => (kauditlaw03_RecordDiffer.j0 k bt354.1 bt354.2.1 bt354.2.2.1 bt354.2.2.2.1 bt354.1 (wrap64 (bt354.2.1 + bt372.1)) bt354.2.2.1 bt354.2.2.2.1)) else (if bt363.1 = 2 then (if ([] : List (S31)).length + bt354.2.2.2.1.length < 2932031007402 then ((some (([] : List (S31)) ++ bt354.2.2.2.1 : List (S31))).bind fun y374 => ((kauditmake_Src_Pair.f k bt351.1 bt363.2).bind fun bt377 => (if y374.length < 2932031007402 then (kauditlaw03_RecordDiffer.j0 k bt354.1 bt354.2.1 bt354.2.2.1 bt354.2.2.2.1 bt354.1 bt354.2.1 bt354.2.2.1 (y374 ++ [(⟨bt377.1, bt377.2.1, bt377.2.2.1, bt377.2.2.2.1⟩ : S31)])) else (none)))) else (none)) else (kauditlaw03_RecordDiffer.j0 k bt354.1 bt354.2.1 bt354.2.2.1 bt354.2.2.2.1 bt354.1 bt354.2.1 bt354.2.2.1 bt354.2.2.2.1))))))
theorem kauditlaw03_RecordDiffer.mono_l : ∀ k, (∀ y0 y1 y2 y3 y4 y5 y6 y7, LeO (kauditlaw03_RecordDiffer.j0 k y0 y1 y2 y3 y4 y5 y6 y7) (kauditlaw03_RecordDiffer.j0 (k + 1) y0 y1 y2 y3 y4 y5 y6 y7))
 | 0 => fun _ _ _ _ _ _ _ _ r h => by simp [kauditlaw03_RecordDiffer.j0] at h
 | k + 1 => by
  have ih0 := kauditlaw03_RecordDiffer.mono_l k
  ·intro y0 y1 y2 y3 y4 y5 y6 y7
   unfold kauditlaw03_RecordDiffer.j0
   repeat' first
   | (with_reducible exact ih0 _ _ _ _ _ _ _ _)
   | (with_reducible exact kauditmake_Src_Pair.mono _ _ _)
   | (with_reducible exact kauditmake_Src_Record.mono _ _ _)
   | (with_reducible exact kauditref03_Same.mono _ _ _ _ _ _ _ _ _)
   | (with_reducible exact LeO.refl _)
   | (with_reducible exact LeO.none _)
   | (with_reducible refine LeO.ite ?_ ?_)
   | (with_reducible refine LeO.bind ?_ (fun _ => ?_))
   | exact ih0 _ _ _ _ _ _ _ _
   | exact kauditmake_Src_Pair.mono _ _ _
   | exact kauditmake_Src_Record.mono _ _ _
   | exact kauditref03_Same.mono _ _ _ _ _ _ _ _ _
   | exact LeO.none _
   | refine LeO.ite ?_ ?_
   | refine LeO.bind ?_ (fun _ => ?_)
theorem kauditlaw03_RecordDiffer.mono : ∀ a0 k, LeO (kauditlaw03_RecordDiffer.f k a0) (kauditlaw03_RecordDiffer.f (k + 1) a0) := by
 intro a0 k
 have ih0 := kauditlaw03_RecordDiffer.mono_l k
 unfold kauditlaw03_RecordDiffer.f
 repeat' first
   | (with_reducible exact ih0 _ _ _ _ _ _ _ _)
   | (with_reducible exact kauditmake_Src_Pair.mono _ _ _)
   | (with_reducible exact kauditmake_Src_Record.mono _ _ _)
   | (with_reducible exact kauditref03_Same.mono _ _ _ _ _ _ _ _ _)
   | (with_reducible exact LeO.refl _)
   | (with_reducible exact LeO.none _)
   | (with_reducible refine LeO.ite ?_ ?_)
   | (with_reducible refine LeO.bind ?_ (fun _ => ?_))
   | exact ih0 _ _ _ _ _ _ _ _
   | exact kauditmake_Src_Pair.mono _ _ _
   | exact kauditmake_Src_Record.mono _ _ _
   | exact kauditref03_Same.mono _ _ _ _ _ _ _ _ _
   | exact LeO.none _
   | refine LeO.ite ?_ ?_
   | refine LeO.bind ?_ (fun _ => ?_)
/-! ### record_Get: function 37 -/
def record_Get.l0 : Nat → ByteArray → List (S31) → Int → Int → Option (ByteArray × Int × Int × ByteArray × Bool)
 | 0, _, _, _, _ => none
 | k + 1, x1, x9, x10, x11 => if x11 < x10 then (if 0 ≤ x11 then (if x11 < (x9.length : Int) then (if ((rd_T31 x9 x11).f0).toList = x1.toList then (some ((rd_T31 x9 x11).f0, (rd_T31 x9 x11).f1, (rd_T31 x9 x11).f2, (rd_T31 x9 x11).f3, true)) else (record_Get.l0 k x1 x9 x10 (wrap64 (x11 + 1)))) else (none)) else (none)) else (some ((⟨#[]⟩ : ByteArray), 0, 0, (⟨#[]⟩ : ByteArray), false))
def record_Get.f (k : Nat) (a0_0 : Int) (a0_1 : Int) (a0_2 : Int) (l0_3 : List (S31)) (a1 : ByteArray) : Option (ByteArray × Int × Int × ByteArray × Bool) := record_Get.l0 k a1 l0_3 (l0_3.length : Int) 0
theorem record_Get.mono_l : ∀ k, (∀ y0 y1 y2 y3, LeO (record_Get.l0 k y0 y1 y2 y3) (record_Get.l0 (k + 1) y0 y1 y2 y3))
 | 0 => fun _ _ _ _ r h => by simp [record_Get.l0] at h
 | k + 1 => by
  have ih0 := record_Get.mono_l k
  ·intro y0 y1 y2 y3
   unfold record_Get.l0
   repeat' first
   | (with_reducible exact ih0 _ _ _ _)
   | (with_reducible exact LeO.refl _)
   | (with_reducible exact LeO.none _)
   | (with_reducible refine LeO.ite ?_ ?_)
   | (with_reducible refine LeO.bind ?_ (fun _ => ?_))
   | exact ih0 _ _ _ _
   | exact LeO.none _
   | refine LeO.ite ?_ ?_
   | refine LeO.bind ?_ (fun _ => ?_)
theorem record_Get.mono : ∀ a0 a1 a2 a3 a4 k, LeO (record_Get.f k a0 a1 a2 a3 a4) (record_Get.f (k + 1) a0 a1 a2 a3 a4) := by
 intro a0 a1 a2 a3 a4 k
 have ih0 := record_Get.mono_l k
 unfold record_Get.f
 repeat' first
   | (with_reducible exact ih0 _ _ _ _)
   | (with_reducible exact LeO.refl _)
   | (with_reducible exact LeO.none _)
   | (with_reducible refine LeO.ite ?_ ?_)
   | (with_reducible refine LeO.bind ?_ (fun _ => ?_))
   | exact ih0 _ _ _ _
   | exact LeO.none _
   | refine LeO.ite ?_ ?_
   | refine LeO.bind ?_ (fun _ => ?_)
set_option maxHeartbeats 8000000 in
set_option maxRecDepth 100000 in
theorem record_Get.calls (k : Nat) (a0_0 : Int) (a0_1 : Int) (a0_2 : Int) (A0_3 : Option Addr) (c0_3 : Nat) (l0_3 : List (S31)) (a1 : ByteArray) (r1 : ByteArray) (r2 : Int) (r3 : Int) (r4 : ByteArray) (r5 : Bool) (w : World) (hr0_3 : Kd.C k31 w A0_3 l0_3.length l0_3) (hc0_3 : l0_3.length ≤ c0_3) (h : record_Get.f k a0_0 a0_1 a0_2 l0_3 a1 = some (r1, r2, r3, r4, r5)) :
  Calls Tryd.prog 37 #[.agg #[.int .i64 a0_0, .int .i64 a0_1, .int .i64 a0_2, .slice A0_3 l0_3.length c0_3], .string a1] w fun e w' => e = .returned (.tuple #[.agg #[.string r1, .int .i64 r2, .int .i64 r3, .string r4], .bool r5]) ∧ Below w.heap.size w w' := by
 have hu43 := Tryd.underlying43
 have hu31 := Tryd.underlying31
 have HR0_3 := Aside0.mk hr0_3
 have HC0_3 := Aside0.mk hc0_3
 clear hr0_3 hc0_3
 have HB := Aside0.mk (Below.refl w.heap.size w)
 have H : (record_Get.l0 k a1 l0_3 (l0_3.length : Int) 0) = some (r1, r2, r3, r4, r5) := h
 clear h
 have H' := Aside0.mk H
 clear H
 go_enter Tryd.func37, Tryd.ntmps37
 go_wp2_with (first | ((with_reducible refine gate_dst (N := 2) rfl ?_); refine box_event ?hg (N := 2) ?hd (cs := #[.int .i64 a0_0, .int .i64 a0_1, .int .i64 a0_2, .slice A0_3 l0_3.length c0_3]) (t := 43) ?hr ?_; (case hd => rfl); (case hg => rfl); (case hr => first | (go_simp; done) | (go_simp; rfl)); intro gb393 hg w3 hbox hb; have n0_ := Aside0.mk (below_step (by repeat (first | (with_reducible first | exact HB.out | apply below_alloc | apply pw_below_drewN | apply below_drew1) | exact HB.out)) hb); have n1_ := Aside0.mk (hbox); have n2_ := Aside0.mk ((by rw [hg]; exact (below_size (by repeat (first | (with_reducible first | exact HB.out | apply below_alloc | apply pw_below_drewN | apply below_drew1) | exact HB.out))) : w.heap.size ≤ gb393)); have n3_ := Aside0.mk ((by rw [hg]; exact (below_size (by repeat (first | (with_reducible first | exact HB.out | apply below_alloc | apply pw_below_drewN | apply below_drew1) | exact HB.out))) : w.heap.size ≤ gb393)); clear HB; have HB := n0_; have BK393 := n1_; have GW393 := n2_; have GE393 := n3_; clear n0_ n1_ n2_ n3_; clear hb hbox hg) | ((with_reducible refine gate_dst (N := 4) rfl ?_); refine box_event ?hg (N := 4) ?hd (cs := #[.string (⟨#[]⟩ : ByteArray), .int .i64 0, .int .i64 0, .string (⟨#[]⟩ : ByteArray)]) (t := 31) ?hr ?_; (case hd => rfl); (case hg => rfl); (case hr => first | (go_simp; done) | (go_simp; rfl)); intro gb394 hg w4 hbox hb; have n0_ := Aside0.mk (blk_below (g := gb393) (o := .cells #[.int .i64 a0_0, .int .i64 a0_1, .int .i64 a0_2, .slice A0_3 l0_3.length c0_3] 43 (0, 0)) (by (with_reducible repeat (first | refine blk_drewN ?_ _ | refine blk_drew ?_ | refine blk_alloc ?_ _)); exact BK393.out) hb); have n1_ := Aside0.mk (below_step (by repeat (first | (with_reducible first | exact HB.out | apply below_alloc | apply pw_below_drewN | apply below_drew1 | refine below_set ?_ GE393.out) | exact HB.out)) hb); have n2_ := Aside0.mk (hbox); have n3_ := Aside0.mk ((by rw [hg]; exact (below_size (by repeat (first | (with_reducible first | exact HB.out | apply below_alloc | apply pw_below_drewN | apply below_drew1 | refine below_set ?_ GE393.out) | exact HB.out))) : w.heap.size ≤ gb394)); have n4_ := Aside0.mk ((by rw [hg]; exact (below_size (by repeat (first | (with_reducible first | exact HB.out | apply below_alloc | apply pw_below_drewN | apply below_drew1 | refine below_set ?_ GE393.out) | exact HB.out))) : w.heap.size ≤ gb394)); have n5_ := Aside0.mk ((by rw [hg]; exact Nat.ne_of_lt (blk_lt (g := gb393) (o := .cells #[.int .i64 a0_0, .int .i64 a0_1, .int .i64 a0_2, .slice A0_3 l0_3.length c0_3] 43 (0, 0)) (by (with_reducible repeat (first | refine blk_drewN ?_ _ | refine blk_drew ?_ | refine blk_alloc ?_ _)); exact BK393.out)) : gb393 ≠ gb394)); have n6_ := Aside0.mk ((by rw [hg]; exact Nat.ne_of_gt (blk_lt (g := gb393) (o := .cells #[.int .i64 a0_0, .int .i64 a0_1, .int .i64 a0_2, .slice A0_3 l0_3.length c0_3] 43 (0, 0)) (by (with_reducible repeat (first | refine blk_drewN ?_ _ | refine blk_drew ?_ | refine blk_alloc ?_ _)); exact BK393.out)) : gb394 ≠ gb393)); clear BK393; clear HB; have BK393 := n0_; have HB := n1_; have BK394 := n2_; have GW394 := n3_; have GE394 := n4_; have NB393_394 := n5_; have NB394_393 := n6_; clear n0_ n1_ n2_ n3_ n4_ n5_ n6_; clear hb hbox hg; have hnb5 := NB393_394.out; have hnc5 := NB394_393.out; have hcz6_0 : w4.cell? ⟨gb393, 0, none⟩ = some (.int .i64 a0_0) := (blk_cell BK393.out 0).trans rfl; have hcz6_1 : w4.cell? ⟨gb393, 1, none⟩ = some (.int .i64 a0_1) := (blk_cell BK393.out 1).trans rfl; have hcz6_2 : w4.cell? ⟨gb393, 2, none⟩ = some (.int .i64 a0_2) := (blk_cell BK393.out 2).trans rfl; have hcz6_3 : w4.cell? ⟨gb393, 3, none⟩ = some (.slice A0_3 l0_3.length c0_3) := (blk_cell BK393.out 3).trans rfl; have hfz6_0 := blk_frozen BK393.out 0; have hfz6_1 := blk_frozen BK393.out 1; have hfz6_2 := blk_frozen BK393.out 2; have hfz6_3 := blk_frozen BK393.out 3))
 go_loopg [11] k (fun kq v11 w' => ∃ (x11_1 : Int) (x395000_1 : ByteArray) (x395001_1 : Int) (x395002_1 : Int) (x395003_1 : ByteArray), v11 = .int .i64 x11_1 ∧ Aside0 (record_Get.l0 kq a1 l0_3 (l0_3.length : Int) x11_1 = some (r1, r2, r3, r4, r5)) ∧ Aside0 (kq ≤ k) ∧ Aside0 (w'.heap[gb393]? = some (.cells #[.int .i64 a0_0, .int .i64 a0_1, .int .i64 a0_2, (.slice A0_3 l0_3.length c0_3)] 43 (0, 0))) ∧ Aside0 (w'.heap[gb394]? = some (.cells #[.string x395000_1, .int .i64 x395001_1, .int .i64 x395002_1, .string x395003_1] 31 (0, 0))) ∧ Aside0 (Below w.heap.size w w'))
 case atStart => exact ⟨(0), ((⟨#[]⟩ : ByteArray)), (0), (0), ((⟨#[]⟩ : ByteArray)), (by first | rfl | (simp; done) | (simp [*]; done)), H', ⟨Nat.le_refl _⟩, ⟨by (with_reducible repeat (first | refine blk_drewN ?_ _ | refine blk_drew ?_ | refine blk_alloc ?_ _)); exact BK393.out⟩, ⟨by (with_reducible repeat (first | refine blk_drewN ?_ _ | refine blk_drew ?_ | refine blk_alloc ?_ _)); exact BK394.out⟩, ⟨by repeat (first | (with_reducible first | exact HB.out | apply below_alloc | apply pw_below_drewN | apply below_drew1 | refine below_set ?_ GE393.out | refine below_set ?_ GE394.out) | exact HB.out)⟩⟩
 case round =>
  clear H'
  try clear p2
  try clear c3
  try clear c5
  try clear hcz6_0
  try clear hcz6_1
  try clear hcz6_2
  try clear hcz6_3
  try clear hfz6_0
  try clear hfz6_1
  try clear hfz6_2
  try clear hfz6_3
  obtain ⟨x11_1, x395000_1, x395001_1, x395002_1, x395003_1, rfl, HA, HK1, BK393, BK394, HB⟩ := hrel
  cases gk with
  | zero => exact absurd HA.out (by simp [record_Get.l0])
  | succ k1 =>
   have H := HA.out
   clear HA
   simp only [record_Get.l0] at H
   by_cases c7 : x11_1 < (l0_3.length : Int)
   ·rw [if_pos c7] at H
    have c7b0 : decide (x11_1 < (l0_3.length : Int)) = true := decide_eq_true c7
    clear c7
    by_cases c8 : 0 ≤ x11_1
    ·rw [if_pos c8] at H
     have c8b0 : decide (0 ≤ x11_1) = true := decide_eq_true c8
     clear c8
     by_cases c9 : x11_1 < (l0_3.length : Int)
     ·rw [if_pos c9] at H
      have c9b0 : decide (x11_1 < (l0_3.length : Int)) = true := decide_eq_true c9
      clear c9
      by_cases c10 : ((rd_T31 l0_3 x11_1).f0).toList = a1.toList
      ·rw [if_pos c10] at H
       have c10b0 : (((rd_T31 l0_3 x11_1).f0).toList == a1.toList) = true := beq_iff_eq.mpr c10
       have c10b1 : (((rd_T31 l0_3 x11_1).f0).toList != a1.toList) = false := bne_eq_false_iff_eq.mpr c10
       clear c10
       simp only [Option.some.injEq, Prod.mk.injEq] at H
       obtain ⟨rfl, rfl, rfl, rfl, rfl⟩ := H
       have p395 : 0 ≤ (x11_1 : Int) := of_decide_eq_true (by first | (with_reducible assumption) | assumption)
       have q395 : x11_1 < (l0_3.length : Int) := of_decide_eq_true (by first | (with_reducible assumption) | assumption)
       obtain ⟨ad395, e395, hx395_0, hx395_1, hx395_2, hx395_3⟩ := at_T31 HR0_3.out x11_1 p395 q395
       cases e395
       replace hx395_0 := (HB.out.cell (World.block_lt_of_cell? w _ hx395_0)).trans hx395_0
       replace hx395_1 := (HB.out.cell (World.block_lt_of_cell? w _ hx395_1)).trans hx395_1
       replace hx395_2 := (HB.out.cell (World.block_lt_of_cell? w _ hx395_2)).trans hx395_2
       replace hx395_3 := (HB.out.cell (World.block_lt_of_cell? w _ hx395_3)).trans hx395_3
       replace p395 := eq_true p395
       replace q395 := eq_true q395
       go_wp2_with (first | ((with_reducible refine gate_dst (N := 7) rfl ?_); refine box_event ?hg (N := 7) ?hd (cs := #[.string (⟨#[]⟩ : ByteArray), .int .i64 0, .int .i64 0, .string (⟨#[]⟩ : ByteArray)]) (t := 31) ?hr ?_; (case hd => rfl); (case hg => rfl); (case hr => first | (go_simp; done) | (go_simp; rfl)); intro gb396 hg w11 hbox hb; have n0_ := Aside0.mk (blk_below (g := gb393) (o := .cells #[.int .i64 a0_0, .int .i64 a0_1, .int .i64 a0_2, .slice (some ad395) l0_3.length c0_3] 43 (0, 0)) (by (with_reducible repeat (first | refine blk_drewN ?_ _ | refine blk_drew ?_ | refine blk_alloc ?_ _)); exact BK393.out) hb); have n1_ := Aside0.mk (blk_below (g := gb394) (o := .cells #[.string x395000_1, .int .i64 x395001_1, .int .i64 x395002_1, .string x395003_1] 31 (0, 0)) (by (with_reducible repeat (first | refine blk_drewN ?_ _ | refine blk_drew ?_ | refine blk_alloc ?_ _)); exact BK394.out) hb); have n2_ := Aside0.mk (below_step (by repeat (first | (with_reducible first | exact HB.out | apply below_alloc | apply pw_below_drewN | apply below_drew1 | refine below_set ?_ GE393.out | refine below_set ?_ GE394.out) | exact HB.out)) hb); have n3_ := Aside0.mk (hbox); have n4_ := Aside0.mk ((by rw [hg]; exact (below_size (by repeat (first | (with_reducible first | exact HB.out | apply below_alloc | apply pw_below_drewN | apply below_drew1 | refine below_set ?_ GE393.out | refine below_set ?_ GE394.out) | exact HB.out))) : w.heap.size ≤ gb396)); have n5_ := Aside0.mk ((by rw [hg]; exact (below_size (by repeat (first | (with_reducible first | exact HB.out | apply below_alloc | apply pw_below_drewN | apply below_drew1 | refine below_set ?_ GE393.out | refine below_set ?_ GE394.out) | exact HB.out))) : w.heap.size ≤ gb396)); have n6_ := Aside0.mk ((by rw [hg]; exact Nat.ne_of_lt (blk_lt (g := gb393) (o := .cells #[.int .i64 a0_0, .int .i64 a0_1, .int .i64 a0_2, .slice (some ad395) l0_3.length c0_3] 43 (0, 0)) (by (with_reducible repeat (first | refine blk_drewN ?_ _ | refine blk_drew ?_ | refine blk_alloc ?_ _)); exact BK393.out)) : gb393 ≠ gb396)); have n7_ := Aside0.mk ((by rw [hg]; exact Nat.ne_of_gt (blk_lt (g := gb393) (o := .cells #[.int .i64 a0_0, .int .i64 a0_1, .int .i64 a0_2, .slice (some ad395) l0_3.length c0_3] 43 (0, 0)) (by (with_reducible repeat (first | refine blk_drewN ?_ _ | refine blk_drew ?_ | refine blk_alloc ?_ _)); exact BK393.out)) : gb396 ≠ gb393)); have n8_ := Aside0.mk ((by rw [hg]; exact Nat.ne_of_lt (blk_lt (g := gb394) (o := .cells #[.string x395000_1, .int .i64 x395001_1, .int .i64 x395002_1, .string x395003_1] 31 (0, 0)) (by (with_reducible repeat (first | refine blk_drewN ?_ _ | refine blk_drew ?_ | refine blk_alloc ?_ _)); exact BK394.out)) : gb394 ≠ gb396)); have n9_ := Aside0.mk ((by rw [hg]; exact Nat.ne_of_gt (blk_lt (g := gb394) (o := .cells #[.string x395000_1, .int .i64 x395001_1, .int .i64 x395002_1, .string x395003_1] 31 (0, 0)) (by (with_reducible repeat (first | refine blk_drewN ?_ _ | refine blk_drew ?_ | refine blk_alloc ?_ _)); exact BK394.out)) : gb396 ≠ gb394)); clear BK393; clear BK394; clear HB; have BK393 := n0_; have BK394 := n1_; have HB := n2_; have BK396 := n3_; have GW396 := n4_; have GE396 := n5_; have NB393_396 := n6_; have NB396_393 := n7_; have NB394_396 := n8_; have NB396_394 := n9_; clear n0_ n1_ n2_ n3_ n4_ n5_ n6_ n7_ n8_ n9_; clear hb hbox hg; have hnb12 := NB396_393.out; have hnc12 := NB393_396.out; have hnb13 := NB396_394.out; have hnc13 := NB394_396.out; have hcz14_0 : w11.cell? ⟨gb396, 0, none⟩ = some (.string (⟨#[]⟩ : ByteArray)) := (blk_cell BK396.out 0).trans rfl; have hcz14_1 : w11.cell? ⟨gb396, 1, none⟩ = some (.int .i64 0) := (blk_cell BK396.out 1).trans rfl; have hcz14_2 : w11.cell? ⟨gb396, 2, none⟩ = some (.int .i64 0) := (blk_cell BK396.out 2).trans rfl; have hcz14_3 : w11.cell? ⟨gb396, 3, none⟩ = some (.string (⟨#[]⟩ : ByteArray)) := (blk_cell BK396.out 3).trans rfl; have hfz14_0 := blk_frozen BK396.out 0; have hfz14_1 := blk_frozen BK396.out 1; have hfz14_2 := blk_frozen BK396.out 2; have hfz14_3 := blk_frozen BK396.out 3; have hnb15 := NB394_393.out; have hnc15 := NB393_394.out; have hcz16_0 : w11.cell? ⟨gb394, 0, none⟩ = some (.string x395000_1) := (blk_cell BK394.out 0).trans rfl; have hcz16_1 : w11.cell? ⟨gb394, 1, none⟩ = some (.int .i64 x395001_1) := (blk_cell BK394.out 1).trans rfl; have hcz16_2 : w11.cell? ⟨gb394, 2, none⟩ = some (.int .i64 x395002_1) := (blk_cell BK394.out 2).trans rfl; have hcz16_3 : w11.cell? ⟨gb394, 3, none⟩ = some (.string x395003_1) := (blk_cell BK394.out 3).trans rfl; have hfz16_0 := blk_frozen BK394.out 0; have hfz16_1 := blk_frozen BK394.out 1; have hfz16_2 := blk_frozen BK394.out 2; have hfz16_3 := blk_frozen BK394.out 3))
       refine bodyPost_ret (results_ct rfl _ _ gb394 31 #[.string ((rd_T31 l0_3 x11_1).f0), .int .i64 ((rd_T31 l0_3 x11_1).f1), .int .i64 ((rd_T31 l0_3 x11_1).f2), .string ((rd_T31 l0_3 x11_1).f3)] (0, 0) _ rfl (by (with_reducible repeat (first | refine blk_drewN ?_ _ | refine blk_drew ?_ | refine blk_alloc ?_ _)); refine blk_put (cs := #[.string ((rd_T31 l0_3 x11_1).f0), .int .i64 ((rd_T31 l0_3 x11_1).f1), .int .i64 ((rd_T31 l0_3 x11_1).f2), .string x395003_1]) ?_ 3 _ rfl; (with_reducible repeat (first | refine blk_drewN ?_ _ | refine blk_drew ?_ | refine blk_alloc ?_ _)); refine blk_put (cs := #[.string ((rd_T31 l0_3 x11_1).f0), .int .i64 ((rd_T31 l0_3 x11_1).f1), .int .i64 x395002_1, .string x395003_1]) ?_ 2 _ rfl; (with_reducible repeat (first | refine blk_drewN ?_ _ | refine blk_drew ?_ | refine blk_alloc ?_ _)); refine blk_put (cs := #[.string ((rd_T31 l0_3 x11_1).f0), .int .i64 x395001_1, .int .i64 x395002_1, .string x395003_1]) ?_ 1 _ rfl; (with_reducible repeat (first | refine blk_drewN ?_ _ | refine blk_drew ?_ | refine blk_alloc ?_ _)); refine blk_put (cs := #[.string x395000_1, .int .i64 x395001_1, .int .i64 x395002_1, .string x395003_1]) ?_ 0 _ rfl; (with_reducible repeat (first | refine blk_drewN ?_ _ | refine blk_drew ?_ | refine blk_alloc ?_ _)); refine blk_far ?_ NB394_396.out _; (with_reducible repeat (first | refine blk_drewN ?_ _ | refine blk_drew ?_ | refine blk_alloc ?_ _)); refine blk_far ?_ NB394_396.out _; (with_reducible repeat (first | refine blk_drewN ?_ _ | refine blk_drew ?_ | refine blk_alloc ?_ _)); refine blk_far ?_ NB394_396.out _; (with_reducible repeat (first | refine blk_drewN ?_ _ | refine blk_drew ?_ | refine blk_alloc ?_ _)); refine blk_far ?_ NB394_396.out _; (with_reducible repeat (first | refine blk_drewN ?_ _ | refine blk_drew ?_ | refine blk_alloc ?_ _)); exact BK394.out) Tryd.underlying31 rfl (by kernel_rfl)) rfl ?_
       exact ⟨by first | rfl | (simp [errW_none, errW_some] <;> rfl) | (simp [*, errW_none, errW_some] <;> rfl), by repeat (first | (with_reducible first | exact HB.out | apply below_alloc | apply pw_below_drewN | apply below_drew1 | refine below_set ?_ GE393.out | refine below_set ?_ GE394.out | refine below_set ?_ GE396.out) | exact HB.out)⟩
      ·rw [if_neg c10] at H
       have c10b0 : (((rd_T31 l0_3 x11_1).f0).toList == a1.toList) = false := beq_eq_false_iff_ne.mpr c10
       have c10b1 : (((rd_T31 l0_3 x11_1).f0).toList != a1.toList) = true := bne_iff_ne.mpr c10
       have H' := Aside0.mk H
       clear H
       have p395 : 0 ≤ (x11_1 : Int) := of_decide_eq_true (by first | (with_reducible assumption) | assumption)
       have q395 : x11_1 < (l0_3.length : Int) := of_decide_eq_true (by first | (with_reducible assumption) | assumption)
       obtain ⟨ad395, e395, hx395_0, hx395_1, hx395_2, hx395_3⟩ := at_T31 HR0_3.out x11_1 p395 q395
       cases e395
       replace hx395_0 := (HB.out.cell (World.block_lt_of_cell? w _ hx395_0)).trans hx395_0
       replace hx395_1 := (HB.out.cell (World.block_lt_of_cell? w _ hx395_1)).trans hx395_1
       replace hx395_2 := (HB.out.cell (World.block_lt_of_cell? w _ hx395_2)).trans hx395_2
       replace hx395_3 := (HB.out.cell (World.block_lt_of_cell? w _ hx395_3)).trans hx395_3
       replace p395 := eq_true p395
       replace q395 := eq_true q395
       go_wp2_with (first | ((with_reducible refine gate_dst (N := 7) rfl ?_); refine box_event ?hg (N := 7) ?hd (cs := #[.string (⟨#[]⟩ : ByteArray), .int .i64 0, .int .i64 0, .string (⟨#[]⟩ : ByteArray)]) (t := 31) ?hr ?_; (case hd => rfl); (case hg => rfl); (case hr => first | (go_simp; done) | (go_simp; rfl)); intro gb396 hg w17 hbox hb; have n0_ := Aside0.mk (blk_below (g := gb393) (o := .cells #[.int .i64 a0_0, .int .i64 a0_1, .int .i64 a0_2, .slice (some ad395) l0_3.length c0_3] 43 (0, 0)) (by (with_reducible repeat (first | refine blk_drewN ?_ _ | refine blk_drew ?_ | refine blk_alloc ?_ _)); exact BK393.out) hb); have n1_ := Aside0.mk (blk_below (g := gb394) (o := .cells #[.string x395000_1, .int .i64 x395001_1, .int .i64 x395002_1, .string x395003_1] 31 (0, 0)) (by (with_reducible repeat (first | refine blk_drewN ?_ _ | refine blk_drew ?_ | refine blk_alloc ?_ _)); exact BK394.out) hb); have n2_ := Aside0.mk (below_step (by repeat (first | (with_reducible first | exact HB.out | apply below_alloc | apply pw_below_drewN | apply below_drew1 | refine below_set ?_ GE393.out | refine below_set ?_ GE394.out) | exact HB.out)) hb); have n3_ := Aside0.mk (hbox); have n4_ := Aside0.mk ((by rw [hg]; exact (below_size (by repeat (first | (with_reducible first | exact HB.out | apply below_alloc | apply pw_below_drewN | apply below_drew1 | refine below_set ?_ GE393.out | refine below_set ?_ GE394.out) | exact HB.out))) : w.heap.size ≤ gb396)); have n5_ := Aside0.mk ((by rw [hg]; exact (below_size (by repeat (first | (with_reducible first | exact HB.out | apply below_alloc | apply pw_below_drewN | apply below_drew1 | refine below_set ?_ GE393.out | refine below_set ?_ GE394.out) | exact HB.out))) : w.heap.size ≤ gb396)); have n6_ := Aside0.mk ((by rw [hg]; exact Nat.ne_of_lt (blk_lt (g := gb393) (o := .cells #[.int .i64 a0_0, .int .i64 a0_1, .int .i64 a0_2, .slice (some ad395) l0_3.length c0_3] 43 (0, 0)) (by (with_reducible repeat (first | refine blk_drewN ?_ _ | refine blk_drew ?_ | refine blk_alloc ?_ _)); exact BK393.out)) : gb393 ≠ gb396)); have n7_ := Aside0.mk ((by rw [hg]; exact Nat.ne_of_gt (blk_lt (g := gb393) (o := .cells #[.int .i64 a0_0, .int .i64 a0_1, .int .i64 a0_2, .slice (some ad395) l0_3.length c0_3] 43 (0, 0)) (by (with_reducible repeat (first | refine blk_drewN ?_ _ | refine blk_drew ?_ | refine blk_alloc ?_ _)); exact BK393.out)) : gb396 ≠ gb393)); have n8_ := Aside0.mk ((by rw [hg]; exact Nat.ne_of_lt (blk_lt (g := gb394) (o := .cells #[.string x395000_1, .int .i64 x395001_1, .int .i64 x395002_1, .string x395003_1] 31 (0, 0)) (by (with_reducible repeat (first | refine blk_drewN ?_ _ | refine blk_drew ?_ | refine blk_alloc ?_ _)); exact BK394.out)) : gb394 ≠ gb396)); have n9_ := Aside0.mk ((by rw [hg]; exact Nat.ne_of_gt (blk_lt (g := gb394) (o := .cells #[.string x395000_1, .int .i64 x395001_1, .int .i64 x395002_1, .string x395003_1] 31 (0, 0)) (by (with_reducible repeat (first | refine blk_drewN ?_ _ | refine blk_drew ?_ | refine blk_alloc ?_ _)); exact BK394.out)) : gb396 ≠ gb394)); clear BK393; clear BK394; clear HB; have BK393 := n0_; have BK394 := n1_; have HB := n2_; have BK396 := n3_; have GW396 := n4_; have GE396 := n5_; have NB393_396 := n6_; have NB396_393 := n7_; have NB394_396 := n8_; have NB396_394 := n9_; clear n0_ n1_ n2_ n3_ n4_ n5_ n6_ n7_ n8_ n9_; clear hb hbox hg; have hnb18 := NB396_393.out; have hnc18 := NB393_396.out; have hnb19 := NB396_394.out; have hnc19 := NB394_396.out; have hcz20_0 : w17.cell? ⟨gb396, 0, none⟩ = some (.string (⟨#[]⟩ : ByteArray)) := (blk_cell BK396.out 0).trans rfl; have hcz20_1 : w17.cell? ⟨gb396, 1, none⟩ = some (.int .i64 0) := (blk_cell BK396.out 1).trans rfl; have hcz20_2 : w17.cell? ⟨gb396, 2, none⟩ = some (.int .i64 0) := (blk_cell BK396.out 2).trans rfl; have hcz20_3 : w17.cell? ⟨gb396, 3, none⟩ = some (.string (⟨#[]⟩ : ByteArray)) := (blk_cell BK396.out 3).trans rfl; have hfz20_0 := blk_frozen BK396.out 0; have hfz20_1 := blk_frozen BK396.out 1; have hfz20_2 := blk_frozen BK396.out 2; have hfz20_3 := blk_frozen BK396.out 3))
       go_roundg k1
       case measure => have := HK1.out; omega
       case rel => exact ⟨(wrap64 (x11_1 + 1)), (x395000_1), (x395001_1), (x395002_1), (x395003_1), (by first | rfl | (simp; done) | (simp [*]; done)), H', ⟨by have := HK1.out; omega⟩, ⟨by (with_reducible repeat (first | refine blk_drewN ?_ _ | refine blk_drew ?_ | refine blk_alloc ?_ _)); refine blk_far ?_ NB393_396.out _; (with_reducible repeat (first | refine blk_drewN ?_ _ | refine blk_drew ?_ | refine blk_alloc ?_ _)); refine blk_far ?_ NB393_396.out _; (with_reducible repeat (first | refine blk_drewN ?_ _ | refine blk_drew ?_ | refine blk_alloc ?_ _)); refine blk_far ?_ NB393_396.out _; (with_reducible repeat (first | refine blk_drewN ?_ _ | refine blk_drew ?_ | refine blk_alloc ?_ _)); refine blk_far ?_ NB393_396.out _; (with_reducible repeat (first | refine blk_drewN ?_ _ | refine blk_drew ?_ | refine blk_alloc ?_ _)); exact BK393.out⟩, ⟨by (with_reducible repeat (first | refine blk_drewN ?_ _ | refine blk_drew ?_ | refine blk_alloc ?_ _)); refine blk_far ?_ NB394_396.out _; (with_reducible repeat (first | refine blk_drewN ?_ _ | refine blk_drew ?_ | refine blk_alloc ?_ _)); refine blk_far ?_ NB394_396.out _; (with_reducible repeat (first | refine blk_drewN ?_ _ | refine blk_drew ?_ | refine blk_alloc ?_ _)); refine blk_far ?_ NB394_396.out _; (with_reducible repeat (first | refine blk_drewN ?_ _ | refine blk_drew ?_ | refine blk_alloc ?_ _)); refine blk_far ?_ NB394_396.out _; (with_reducible repeat (first | refine blk_drewN ?_ _ | refine blk_drew ?_ | refine blk_alloc ?_ _)); exact BK394.out⟩, ⟨by repeat (first | (with_reducible first | exact HB.out | apply below_alloc | apply pw_below_drewN | apply below_drew1 | refine below_set ?_ GE393.out | refine below_set ?_ GE394.out | refine below_set ?_ GE396.out) | exact HB.out)⟩⟩
     ·rw [if_neg c9] at H
      exact absurd H (by simp)
    ·rw [if_neg c8] at H
     exact absurd H (by simp)
   ·rw [if_neg c7] at H
    have c7b0 : decide (x11_1 < (l0_3.length : Int)) = false := decide_eq_false c7
    clear c7
    simp only [Option.some.injEq, Prod.mk.injEq] at H
    obtain ⟨rfl, rfl, rfl, rfl, rfl⟩ := H
    have hnb21 := NB394_393.out
    have hnc21 := NB393_394.out
    have hcz22_0 : wr.cell? ⟨gb394, 0, none⟩ = some (.string x395000_1) := (blk_cell BK394.out 0).trans rfl
    have hcz22_1 : wr.cell? ⟨gb394, 1, none⟩ = some (.int .i64 x395001_1) := (blk_cell BK394.out 1).trans rfl
    have hcz22_2 : wr.cell? ⟨gb394, 2, none⟩ = some (.int .i64 x395002_1) := (blk_cell BK394.out 2).trans rfl
    have hcz22_3 : wr.cell? ⟨gb394, 3, none⟩ = some (.string x395003_1) := (blk_cell BK394.out 3).trans rfl
    have hfz22_0 := blk_frozen BK394.out 0
    have hfz22_1 := blk_frozen BK394.out 1
    have hfz22_2 := blk_frozen BK394.out 2
    have hfz22_3 := blk_frozen BK394.out 3
    go_wp2
    refine bodyPost_ret (results_ct rfl _ _ gb394 31 #[.string (⟨#[]⟩ : ByteArray), .int .i64 0, .int .i64 0, .string (⟨#[]⟩ : ByteArray)] (0, 0) _ rfl (by (with_reducible repeat (first | refine blk_drewN ?_ _ | refine blk_drew ?_ | refine blk_alloc ?_ _)); refine blk_put (cs := #[.string (⟨#[]⟩ : ByteArray), .int .i64 0, .int .i64 0, .string x395003_1]) ?_ 3 _ rfl; (with_reducible repeat (first | refine blk_drewN ?_ _ | refine blk_drew ?_ | refine blk_alloc ?_ _)); refine blk_put (cs := #[.string (⟨#[]⟩ : ByteArray), .int .i64 0, .int .i64 x395002_1, .string x395003_1]) ?_ 2 _ rfl; (with_reducible repeat (first | refine blk_drewN ?_ _ | refine blk_drew ?_ | refine blk_alloc ?_ _)); refine blk_put (cs := #[.string (⟨#[]⟩ : ByteArray), .int .i64 x395001_1, .int .i64 x395002_1, .string x395003_1]) ?_ 1 _ rfl; (with_reducible repeat (first | refine blk_drewN ?_ _ | refine blk_drew ?_ | refine blk_alloc ?_ _)); refine blk_put (cs := #[.string x395000_1, .int .i64 x395001_1, .int .i64 x395002_1, .string x395003_1]) ?_ 0 _ rfl; (with_reducible repeat (first | refine blk_drewN ?_ _ | refine blk_drew ?_ | refine blk_alloc ?_ _)); exact BK394.out) Tryd.underlying31 rfl (by kernel_rfl)) rfl ?_
    exact ⟨by first | rfl | (simp [errW_none, errW_some] <;> rfl) | (simp [*, errW_none, errW_some] <;> rfl), by repeat (first | (with_reducible first | exact HB.out | apply below_alloc | apply pw_below_drewN | apply below_drew1 | refine below_set ?_ GE393.out | refine below_set ?_ GE394.out) | exact HB.out)⟩
/-! ### kauditref03_Get: function 38 -/
def kauditref03_Get.l0 : Nat → ByteArray → Int → Int → Int → Int → List (S31) → Option (ByteArray × Int × Int × ByteArray × Bool)
 | 0, _, _, _, _, _, _ => none
 | k + 1, x1, x6, x398000, x398001, x398002, x398003 => if x6 < (x398003.length : Int) then (if 0 ≤ x6 then (if ((rd_T31 x398003 x6).f0).toList = x1.toList then (some ((rd_T31 x398003 x6).f0, (rd_T31 x398003 x6).f1, (rd_T31 x398003 x6).f2, (rd_T31 x398003 x6).f3, true)) else (kauditref03_Get.l0 k x1 (wrap64 (x6 + 1)) x398000 x398001 x398002 x398003)) else (none)) else (some ((⟨#[]⟩ : ByteArray), 0, 0, (⟨#[]⟩ : ByteArray), false))
def kauditref03_Get.f (k : Nat) (a0_0 : Int) (a0_1 : Int) (a0_2 : Int) (l0_3 : List (S31)) (a1 : ByteArray) : Option (ByteArray × Int × Int × ByteArray × Bool) := kauditref03_Get.l0 k a1 0 a0_0 a0_1 a0_2 l0_3
theorem kauditref03_Get.mono_l : ∀ k, (∀ y0 y1 y2 y3 y4 y5, LeO (kauditref03_Get.l0 k y0 y1 y2 y3 y4 y5) (kauditref03_Get.l0 (k + 1) y0 y1 y2 y3 y4 y5))
 | 0 => fun _ _ _ _ _ _ r h => by simp [kauditref03_Get.l0] at h
 | k + 1 => by
  have ih0 := kauditref03_Get.mono_l k
  ·intro y0 y1 y2 y3 y4 y5
   unfold kauditref03_Get.l0
   repeat' first
   | (with_reducible exact ih0 _ _ _ _ _ _)
   | (with_reducible exact LeO.refl _)
   | (with_reducible exact LeO.none _)
   | (with_reducible refine LeO.ite ?_ ?_)
   | (with_reducible refine LeO.bind ?_ (fun _ => ?_))
   | exact ih0 _ _ _ _ _ _
   | exact LeO.none _
   | refine LeO.ite ?_ ?_
   | refine LeO.bind ?_ (fun _ => ?_)
theorem kauditref03_Get.mono : ∀ a0 a1 a2 a3 a4 k, LeO (kauditref03_Get.f k a0 a1 a2 a3 a4) (kauditref03_Get.f (k + 1) a0 a1 a2 a3 a4) := by
 intro a0 a1 a2 a3 a4 k
 have ih0 := kauditref03_Get.mono_l k
 unfold kauditref03_Get.f
 repeat' first
   | (with_reducible exact ih0 _ _ _ _ _ _)
   | (with_reducible exact LeO.refl _)
   | (with_reducible exact LeO.none _)
   | (with_reducible refine LeO.ite ?_ ?_)
   | (with_reducible refine LeO.bind ?_ (fun _ => ?_))
   | exact ih0 _ _ _ _ _ _
   | exact LeO.none _
   | refine LeO.ite ?_ ?_
   | refine LeO.bind ?_ (fun _ => ?_)
set_option maxHeartbeats 8000000 in
set_option maxRecDepth 100000 in
theorem kauditref03_Get.calls (k : Nat) (a0_0 : Int) (a0_1 : Int) (a0_2 : Int) (A0_3 : Option Addr) (c0_3 : Nat) (l0_3 : List (S31)) (a1 : ByteArray) (r1 : ByteArray) (r2 : Int) (r3 : Int) (r4 : ByteArray) (r5 : Bool) (w : World) (hr0_3 : Kd.C k31 w A0_3 l0_3.length l0_3) (hc0_3 : l0_3.length ≤ c0_3) (h : kauditref03_Get.f k a0_0 a0_1 a0_2 l0_3 a1 = some (r1, r2, r3, r4, r5)) :
  Calls Tryd.prog 38 #[.agg #[.int .i64 a0_0, .int .i64 a0_1, .int .i64 a0_2, .slice A0_3 l0_3.length c0_3], .string a1] w fun e w' => e = .returned (.tuple #[.agg #[.string r1, .int .i64 r2, .int .i64 r3, .string r4], .bool r5]) ∧ Below w.heap.size w w' := by
 have hu43 := Tryd.underlying43
 have hu31 := Tryd.underlying31
 have HR0_3 := Aside0.mk hr0_3
 have HC0_3 := Aside0.mk hc0_3
 clear hr0_3 hc0_3
 have HB := Aside0.mk (Below.refl w.heap.size w)
 have H : (kauditref03_Get.l0 k a1 0 a0_0 a0_1 a0_2 l0_3) = some (r1, r2, r3, r4, r5) := h
 clear h
 have H' := Aside0.mk H
 clear H
 go_enter Tryd.func38, Tryd.ntmps38
 go_wp2_with (first | ((with_reducible refine gate_dst (N := 2) rfl ?_); refine box_event ?hg (N := 2) ?hd (cs := #[.int .i64 a0_0, .int .i64 a0_1, .int .i64 a0_2, .slice A0_3 l0_3.length c0_3]) (t := 43) ?hr ?_; (case hd => rfl); (case hg => rfl); (case hr => first | (go_simp; done) | (go_simp; rfl)); intro gb397 hg w3 hbox hb; have n0_ := Aside0.mk (below_step (by repeat (first | (with_reducible first | exact HB.out | apply below_alloc | apply pw_below_drewN | apply below_drew1) | exact HB.out)) hb); have n1_ := Aside0.mk (hbox); have n2_ := Aside0.mk ((by rw [hg]; exact (below_size (by repeat (first | (with_reducible first | exact HB.out | apply below_alloc | apply pw_below_drewN | apply below_drew1) | exact HB.out))) : w.heap.size ≤ gb397)); have n3_ := Aside0.mk ((by rw [hg]; exact (below_size (by repeat (first | (with_reducible first | exact HB.out | apply below_alloc | apply pw_below_drewN | apply below_drew1) | exact HB.out))) : w.heap.size ≤ gb397)); clear HB; have HB := n0_; have BK397 := n1_; have GW397 := n2_; have GE397 := n3_; clear n0_ n1_ n2_ n3_; clear hb hbox hg) | ((with_reducible refine gate_dst (N := 4) rfl ?_); refine box_event ?hg (N := 4) ?hd (cs := #[.string (⟨#[]⟩ : ByteArray), .int .i64 0, .int .i64 0, .string (⟨#[]⟩ : ByteArray)]) (t := 31) ?hr ?_; (case hd => rfl); (case hg => rfl); (case hr => first | (go_simp; done) | (go_simp; rfl)); intro gb398 hg w4 hbox hb; have n0_ := Aside0.mk (blk_below (g := gb397) (o := .cells #[.int .i64 a0_0, .int .i64 a0_1, .int .i64 a0_2, .slice A0_3 l0_3.length c0_3] 43 (0, 0)) (by (with_reducible repeat (first | refine blk_drewN ?_ _ | refine blk_drew ?_ | refine blk_alloc ?_ _)); exact BK397.out) hb); have n1_ := Aside0.mk (below_step (by repeat (first | (with_reducible first | exact HB.out | apply below_alloc | apply pw_below_drewN | apply below_drew1 | refine below_set ?_ GE397.out) | exact HB.out)) hb); have n2_ := Aside0.mk (hbox); have n3_ := Aside0.mk ((by rw [hg]; exact (below_size (by repeat (first | (with_reducible first | exact HB.out | apply below_alloc | apply pw_below_drewN | apply below_drew1 | refine below_set ?_ GE397.out) | exact HB.out))) : w.heap.size ≤ gb398)); have n4_ := Aside0.mk ((by rw [hg]; exact (below_size (by repeat (first | (with_reducible first | exact HB.out | apply below_alloc | apply pw_below_drewN | apply below_drew1 | refine below_set ?_ GE397.out) | exact HB.out))) : w.heap.size ≤ gb398)); have n5_ := Aside0.mk ((by rw [hg]; exact Nat.ne_of_lt (blk_lt (g := gb397) (o := .cells #[.int .i64 a0_0, .int .i64 a0_1, .int .i64 a0_2, .slice A0_3 l0_3.length c0_3] 43 (0, 0)) (by (with_reducible repeat (first | refine blk_drewN ?_ _ | refine blk_drew ?_ | refine blk_alloc ?_ _)); exact BK397.out)) : gb397 ≠ gb398)); have n6_ := Aside0.mk ((by rw [hg]; exact Nat.ne_of_gt (blk_lt (g := gb397) (o := .cells #[.int .i64 a0_0, .int .i64 a0_1, .int .i64 a0_2, .slice A0_3 l0_3.length c0_3] 43 (0, 0)) (by (with_reducible repeat (first | refine blk_drewN ?_ _ | refine blk_drew ?_ | refine blk_alloc ?_ _)); exact BK397.out)) : gb398 ≠ gb397)); clear BK397; clear HB; have BK397 := n0_; have HB := n1_; have BK398 := n2_; have GW398 := n3_; have GE398 := n4_; have NB397_398 := n5_; have NB398_397 := n6_; clear n0_ n1_ n2_ n3_ n4_ n5_ n6_; clear hb hbox hg))
 go_loopg [6] k (fun kq v6 w' => ∃ (x6_1 : Int) (x399000_1 : ByteArray) (x399001_1 : Int) (x399002_1 : Int) (x399003_1 : ByteArray), v6 = .int .i64 x6_1 ∧ Aside0 (kauditref03_Get.l0 kq a1 x6_1 a0_0 a0_1 a0_2 l0_3 = some (r1, r2, r3, r4, r5)) ∧ Aside0 (kq ≤ k) ∧ Aside0 (w'.heap[gb397]? = some (.cells #[.int .i64 a0_0, .int .i64 a0_1, .int .i64 a0_2, (.slice A0_3 l0_3.length c0_3)] 43 (0, 0))) ∧ Aside0 (w'.heap[gb398]? = some (.cells #[.string x399000_1, .int .i64 x399001_1, .int .i64 x399002_1, .string x399003_1] 31 (0, 0))) ∧ Aside0 (Below w.heap.size w w'))
 case atStart => exact ⟨(0), ((⟨#[]⟩ : ByteArray)), (0), (0), ((⟨#[]⟩ : ByteArray)), (by first | rfl | (simp; done) | (simp [*]; done)), H', ⟨Nat.le_refl _⟩, ⟨by (with_reducible repeat (first | refine blk_drewN ?_ _ | refine blk_drew ?_ | refine blk_alloc ?_ _)); exact BK397.out⟩, ⟨by (with_reducible repeat (first | refine blk_drewN ?_ _ | refine blk_drew ?_ | refine blk_alloc ?_ _)); exact BK398.out⟩, ⟨by repeat (first | (with_reducible first | exact HB.out | apply below_alloc | apply pw_below_drewN | apply below_drew1 | refine below_set ?_ GE397.out | refine below_set ?_ GE398.out) | exact HB.out)⟩⟩
 case round =>
  clear H'
  try clear p2
  try clear c3
  obtain ⟨x6_1, x399000_1, x399001_1, x399002_1, x399003_1, rfl, HA, HK1, BK397, BK398, HB⟩ := hrel
  cases gk with
  | zero => exact absurd HA.out (by simp [kauditref03_Get.l0])
  | succ k1 =>
   have H := HA.out
   clear HA
   simp only [kauditref03_Get.l0] at H
   by_cases c5 : x6_1 < (l0_3.length : Int)
   ·rw [if_pos c5] at H
    have c5b0 : decide (x6_1 < (l0_3.length : Int)) = true := decide_eq_true c5
    clear c5
    by_cases c6 : 0 ≤ x6_1
    ·rw [if_pos c6] at H
     have c6b0 : decide (0 ≤ x6_1) = true := decide_eq_true c6
     clear c6
     by_cases c7 : ((rd_T31 l0_3 x6_1).f0).toList = a1.toList
     ·rw [if_pos c7] at H
      have c7b0 : (((rd_T31 l0_3 x6_1).f0).toList == a1.toList) = true := beq_iff_eq.mpr c7
      have c7b1 : (((rd_T31 l0_3 x6_1).f0).toList != a1.toList) = false := bne_eq_false_iff_eq.mpr c7
      clear c7
      simp only [Option.some.injEq, Prod.mk.injEq] at H
      obtain ⟨rfl, rfl, rfl, rfl, rfl⟩ := H
      have hnb8 := NB397_398.out
      have hnc8 := NB398_397.out
      have hcz9_0 : wr.cell? ⟨gb397, 0, none⟩ = some (.int .i64 a0_0) := (blk_cell BK397.out 0).trans rfl
      have hcz9_1 : wr.cell? ⟨gb397, 1, none⟩ = some (.int .i64 a0_1) := (blk_cell BK397.out 1).trans rfl
      have hcz9_2 : wr.cell? ⟨gb397, 2, none⟩ = some (.int .i64 a0_2) := (blk_cell BK397.out 2).trans rfl
      have hcz9_3 : wr.cell? ⟨gb397, 3, none⟩ = some (.slice A0_3 l0_3.length c0_3) := (blk_cell BK397.out 3).trans rfl
      have hfz9_0 := blk_frozen BK397.out 0
      have hfz9_1 := blk_frozen BK397.out 1
      have hfz9_2 := blk_frozen BK397.out 2
      have hfz9_3 := blk_frozen BK397.out 3
      have p399 : 0 ≤ (x6_1 : Int) := of_decide_eq_true (by first | (with_reducible assumption) | assumption)
      have q399 : x6_1 < (l0_3.length : Int) := of_decide_eq_true (by first | (with_reducible assumption) | assumption)
      obtain ⟨ad399, e399, hx399_0, hx399_1, hx399_2, hx399_3⟩ := at_T31 HR0_3.out x6_1 p399 q399
      cases e399
      replace hx399_0 := (HB.out.cell (World.block_lt_of_cell? w _ hx399_0)).trans hx399_0
      replace hx399_1 := (HB.out.cell (World.block_lt_of_cell? w _ hx399_1)).trans hx399_1
      replace hx399_2 := (HB.out.cell (World.block_lt_of_cell? w _ hx399_2)).trans hx399_2
      replace hx399_3 := (HB.out.cell (World.block_lt_of_cell? w _ hx399_3)).trans hx399_3
      replace p399 := eq_true p399
      replace q399 := eq_true q399
      have p400 : 0 ≤ (x6_1 : Int) := of_decide_eq_true (by first | (with_reducible assumption) | assumption)
      have q400 : x6_1 < (l0_3.length : Int) := of_decide_eq_true (by first | (with_reducible assumption) | assumption)
      obtain ⟨ad400, e400, hx400_0, hx400_1, hx400_2, hx400_3⟩ := at_T31 HR0_3.out x6_1 p400 q400
      obtain rfl : ad399 = ad400 := (by injection e400)
      replace hx400_0 := (HB.out.cell (World.block_lt_of_cell? w _ hx400_0)).trans hx400_0
      replace hx400_1 := (HB.out.cell (World.block_lt_of_cell? w _ hx400_1)).trans hx400_1
      replace hx400_2 := (HB.out.cell (World.block_lt_of_cell? w _ hx400_2)).trans hx400_2
      replace hx400_3 := (HB.out.cell (World.block_lt_of_cell? w _ hx400_3)).trans hx400_3
      replace p400 := eq_true p400
      replace q400 := eq_true q400
      have hcz10_0 : wr.cell? ⟨gb398, 0, none⟩ = some (.string x399000_1) := (blk_cell BK398.out 0).trans rfl
      have hcz10_1 : wr.cell? ⟨gb398, 1, none⟩ = some (.int .i64 x399001_1) := (blk_cell BK398.out 1).trans rfl
      have hcz10_2 : wr.cell? ⟨gb398, 2, none⟩ = some (.int .i64 x399002_1) := (blk_cell BK398.out 2).trans rfl
      have hcz10_3 : wr.cell? ⟨gb398, 3, none⟩ = some (.string x399003_1) := (blk_cell BK398.out 3).trans rfl
      have hfz10_0 := blk_frozen BK398.out 0
      have hfz10_1 := blk_frozen BK398.out 1
      have hfz10_2 := blk_frozen BK398.out 2
      have hfz10_3 := blk_frozen BK398.out 3
      go_wp2
      refine bodyPost_ret (results_ct rfl _ _ gb398 31 #[.string ((rd_T31 l0_3 x6_1).f0), .int .i64 ((rd_T31 l0_3 x6_1).f1), .int .i64 ((rd_T31 l0_3 x6_1).f2), .string ((rd_T31 l0_3 x6_1).f3)] (0, 0) _ rfl (by (with_reducible repeat (first | refine blk_drewN ?_ _ | refine blk_drew ?_ | refine blk_alloc ?_ _)); refine blk_put (cs := #[.string ((rd_T31 l0_3 x6_1).f0), .int .i64 ((rd_T31 l0_3 x6_1).f1), .int .i64 ((rd_T31 l0_3 x6_1).f2), .string x399003_1]) ?_ 3 _ rfl; (with_reducible repeat (first | refine blk_drewN ?_ _ | refine blk_drew ?_ | refine blk_alloc ?_ _)); refine blk_put (cs := #[.string ((rd_T31 l0_3 x6_1).f0), .int .i64 ((rd_T31 l0_3 x6_1).f1), .int .i64 x399002_1, .string x399003_1]) ?_ 2 _ rfl; (with_reducible repeat (first | refine blk_drewN ?_ _ | refine blk_drew ?_ | refine blk_alloc ?_ _)); refine blk_put (cs := #[.string ((rd_T31 l0_3 x6_1).f0), .int .i64 x399001_1, .int .i64 x399002_1, .string x399003_1]) ?_ 1 _ rfl; (with_reducible repeat (first | refine blk_drewN ?_ _ | refine blk_drew ?_ | refine blk_alloc ?_ _)); refine blk_put (cs := #[.string x399000_1, .int .i64 x399001_1, .int .i64 x399002_1, .string x399003_1]) ?_ 0 _ rfl; (with_reducible repeat (first | refine blk_drewN ?_ _ | refine blk_drew ?_ | refine blk_alloc ?_ _)); exact BK398.out) Tryd.underlying31 rfl (by kernel_rfl)) rfl ?_
      exact ⟨by first | rfl | (simp [errW_none, errW_some] <;> rfl) | (simp [*, errW_none, errW_some] <;> rfl), by repeat (first | (with_reducible first | exact HB.out | apply below_alloc | apply pw_below_drewN | apply below_drew1 | refine below_set ?_ GE397.out | refine below_set ?_ GE398.out) | exact HB.out)⟩
     ·rw [if_neg c7] at H
      have c7b0 : (((rd_T31 l0_3 x6_1).f0).toList == a1.toList) = false := beq_eq_false_iff_ne.mpr c7
      have c7b1 : (((rd_T31 l0_3 x6_1).f0).toList != a1.toList) = true := bne_iff_ne.mpr c7
      have H' := Aside0.mk H
      clear H
      have hnb11 := NB397_398.out
      have hnc11 := NB398_397.out
      have hcz12_0 : wr.cell? ⟨gb397, 0, none⟩ = some (.int .i64 a0_0) := (blk_cell BK397.out 0).trans rfl
      have hcz12_1 : wr.cell? ⟨gb397, 1, none⟩ = some (.int .i64 a0_1) := (blk_cell BK397.out 1).trans rfl
      have hcz12_2 : wr.cell? ⟨gb397, 2, none⟩ = some (.int .i64 a0_2) := (blk_cell BK397.out 2).trans rfl
      have hcz12_3 : wr.cell? ⟨gb397, 3, none⟩ = some (.slice A0_3 l0_3.length c0_3) := (blk_cell BK397.out 3).trans rfl
      have hfz12_0 := blk_frozen BK397.out 0
      have hfz12_1 := blk_frozen BK397.out 1
      have hfz12_2 := blk_frozen BK397.out 2
      have hfz12_3 := blk_frozen BK397.out 3
      have p399 : 0 ≤ (x6_1 : Int) := of_decide_eq_true (by first | (with_reducible assumption) | assumption)
      have q399 : x6_1 < (l0_3.length : Int) := of_decide_eq_true (by first | (with_reducible assumption) | assumption)
      obtain ⟨ad399, e399, hx399_0, hx399_1, hx399_2, hx399_3⟩ := at_T31 HR0_3.out x6_1 p399 q399
      cases e399
      replace hx399_0 := (HB.out.cell (World.block_lt_of_cell? w _ hx399_0)).trans hx399_0
      replace hx399_1 := (HB.out.cell (World.block_lt_of_cell? w _ hx399_1)).trans hx399_1
      replace hx399_2 := (HB.out.cell (World.block_lt_of_cell? w _ hx399_2)).trans hx399_2
      replace hx399_3 := (HB.out.cell (World.block_lt_of_cell? w _ hx399_3)).trans hx399_3
      replace p399 := eq_true p399
      replace q399 := eq_true q399
      go_wp2
      go_roundg k1
      case measure => have := HK1.out; omega
      case rel => exact ⟨(wrap64 (x6_1 + 1)), (x399000_1), (x399001_1), (x399002_1), (x399003_1), (by first | rfl | (simp; done) | (simp [*]; done)), H', ⟨by have := HK1.out; omega⟩, ⟨by (with_reducible repeat (first | refine blk_drewN ?_ _ | refine blk_drew ?_ | refine blk_alloc ?_ _)); exact BK397.out⟩, ⟨by (with_reducible repeat (first | refine blk_drewN ?_ _ | refine blk_drew ?_ | refine blk_alloc ?_ _)); exact BK398.out⟩, ⟨by repeat (first | (with_reducible first | exact HB.out | apply below_alloc | apply pw_below_drewN | apply below_drew1 | refine below_set ?_ GE397.out | refine below_set ?_ GE398.out) | exact HB.out)⟩⟩
    ·rw [if_neg c6] at H
     exact absurd H (by simp)
   ·rw [if_neg c5] at H
    have c5b0 : decide (x6_1 < (l0_3.length : Int)) = false := decide_eq_false c5
    clear c5
    simp only [Option.some.injEq, Prod.mk.injEq] at H
    obtain ⟨rfl, rfl, rfl, rfl, rfl⟩ := H
    have hnb13 := NB397_398.out
    have hnc13 := NB398_397.out
    have hcz14_0 : wr.cell? ⟨gb397, 0, none⟩ = some (.int .i64 a0_0) := (blk_cell BK397.out 0).trans rfl
    have hcz14_1 : wr.cell? ⟨gb397, 1, none⟩ = some (.int .i64 a0_1) := (blk_cell BK397.out 1).trans rfl
    have hcz14_2 : wr.cell? ⟨gb397, 2, none⟩ = some (.int .i64 a0_2) := (blk_cell BK397.out 2).trans rfl
    have hcz14_3 : wr.cell? ⟨gb397, 3, none⟩ = some (.slice A0_3 l0_3.length c0_3) := (blk_cell BK397.out 3).trans rfl
    have hfz14_0 := blk_frozen BK397.out 0
    have hfz14_1 := blk_frozen BK397.out 1
    have hfz14_2 := blk_frozen BK397.out 2
    have hfz14_3 := blk_frozen BK397.out 3
    have hcz15_0 : wr.cell? ⟨gb398, 0, none⟩ = some (.string x399000_1) := (blk_cell BK398.out 0).trans rfl
    have hcz15_1 : wr.cell? ⟨gb398, 1, none⟩ = some (.int .i64 x399001_1) := (blk_cell BK398.out 1).trans rfl
    have hcz15_2 : wr.cell? ⟨gb398, 2, none⟩ = some (.int .i64 x399002_1) := (blk_cell BK398.out 2).trans rfl
    have hcz15_3 : wr.cell? ⟨gb398, 3, none⟩ = some (.string x399003_1) := (blk_cell BK398.out 3).trans rfl
    have hfz15_0 := blk_frozen BK398.out 0
    have hfz15_1 := blk_frozen BK398.out 1
    have hfz15_2 := blk_frozen BK398.out 2
    have hfz15_3 := blk_frozen BK398.out 3
    go_wp2
    refine bodyPost_ret (results_ct rfl _ _ gb398 31 #[.string (⟨#[]⟩ : ByteArray), .int .i64 0, .int .i64 0, .string (⟨#[]⟩ : ByteArray)] (0, 0) _ rfl (by (with_reducible repeat (first | refine blk_drewN ?_ _ | refine blk_drew ?_ | refine blk_alloc ?_ _)); refine blk_put (cs := #[.string (⟨#[]⟩ : ByteArray), .int .i64 0, .int .i64 0, .string x399003_1]) ?_ 3 _ rfl; (with_reducible repeat (first | refine blk_drewN ?_ _ | refine blk_drew ?_ | refine blk_alloc ?_ _)); refine blk_put (cs := #[.string (⟨#[]⟩ : ByteArray), .int .i64 0, .int .i64 x399002_1, .string x399003_1]) ?_ 2 _ rfl; (with_reducible repeat (first | refine blk_drewN ?_ _ | refine blk_drew ?_ | refine blk_alloc ?_ _)); refine blk_put (cs := #[.string (⟨#[]⟩ : ByteArray), .int .i64 x399001_1, .int .i64 x399002_1, .string x399003_1]) ?_ 1 _ rfl; (with_reducible repeat (first | refine blk_drewN ?_ _ | refine blk_drew ?_ | refine blk_alloc ?_ _)); refine blk_put (cs := #[.string x399000_1, .int .i64 x399001_1, .int .i64 x399002_1, .string x399003_1]) ?_ 0 _ rfl; (with_reducible repeat (first | refine blk_drewN ?_ _ | refine blk_drew ?_ | refine blk_alloc ?_ _)); exact BK398.out) Tryd.underlying31 rfl (by kernel_rfl)) rfl ?_
    exact ⟨by first | rfl | (simp [errW_none, errW_some] <;> rfl) | (simp [*, errW_none, errW_some] <;> rfl), by repeat (first | (with_reducible first | exact HB.out | apply below_alloc | apply pw_below_drewN | apply below_drew1 | refine below_set ?_ GE397.out | refine below_set ?_ GE398.out) | exact HB.out)⟩
end Go.Proofs.YtkfddpbmclbdhaaDoor.PA
