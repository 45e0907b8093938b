/- Contracts of functions of the program: written by pr2.py (ours, round the print of the kit) out of the translation; conditions: each contract names its own. -/
import Derived.Test.YtkfddpbmclbdhaaDoorZ9PAx0
import Derived.Test.YtkfddpbmclbdhaaDoorZ9GT
import Derived.Test.YtkfddpbmclbdhaaDoorZ9EForm
namespace Go.Proofs.YtkfddpbmclbdhaaDoor.PA
open Go.RowKit Go.Proofs.YtkfddpbmclbdhaaDoorW.PrintWords Go.Proofs.YtkfddpbmclbdhaaDoorW.PrintLast Go.Proofs.YtkfddpbmclbdhaaDoorW.PrintMore
attribute [local go_sem] max2_int min2_int max_two min_two max_three min_three max_four min_four   -- for this text's walks alone
set_option linter.unusedVariables false
set_option linter.unusedSimpArgs false
/-! ### kauditlaw03_light: function 31 -/
def kauditlaw03_light.l0 : Nat → Int → Int → Int → Int → List (S31) → Option (Bool)
 | 0, _, _, _, _, _ => none
 | k + 1, x3, x257000, x257001, x257002, x257003 => if x3 < (x257003.length : Int) then (if 0 ≤ x3 then (if (((rd_T31 x257003 x3).f0).size : Int) > 40 then (some false) else (if (((rd_T31 x257003 x3).f3).size : Int) > 700 then (some false) else (kauditlaw03_light.l0 k (wrap64 (x3 + 1)) x257000 x257001 x257002 x257003))) else (none)) else (some true)
def kauditlaw03_light.f (k : Nat) (a0_0 : Int) (a0_1 : Int) (a0_2 : Int) (l0_3 : List (S31)) : Option (Bool) := if (l0_3.length : Int) > 40 then (some false) else (kauditlaw03_light.l0 k 0 a0_0 a0_1 a0_2 l0_3)
theorem kauditlaw03_light.mono_l : ∀ k, (∀ y0 y1 y2 y3 y4, LeO (kauditlaw03_light.l0 k y0 y1 y2 y3 y4) (kauditlaw03_light.l0 (k + 1) y0 y1 y2 y3 y4))
 | 0 => fun _ _ _ _ _ r h => by simp [kauditlaw03_light.l0] at h
 | k + 1 => by
  have ih0 := kauditlaw03_light.mono_l k
  ·intro y0 y1 y2 y3 y4
   unfold kauditlaw03_light.l0
   repeat' first
   | (with_reducible exact ih0 _ _ _ _ _)
   | (with_reducible exact LeO.refl _)
   | (with_reducible exact LeO.none _)
   | (with_reducible refine LeO.ite ?_ ?_)
   | (with_reducible refine LeO.bind ?_ (fun _ => ?_))
   | exact ih0 _ _ _ _ _
   | exact LeO.none _
   | refine LeO.ite ?_ ?_
   | refine LeO.bind ?_ (fun _ => ?_)
theorem kauditlaw03_light.mono : ∀ a0 a1 a2 a3 k, LeO (kauditlaw03_light.f k a0 a1 a2 a3) (kauditlaw03_light.f (k + 1) a0 a1 a2 a3) := by
 intro a0 a1 a2 a3 k
 have ih0 := kauditlaw03_light.mono_l k
 unfold kauditlaw03_light.f
 repeat' first
   | (with_reducible exact ih0 _ _ _ _ _)
   | (with_reducible exact LeO.refl _)
   | (with_reducible exact LeO.none _)
   | (with_reducible refine LeO.ite ?_ ?_)
   | (with_reducible refine LeO.bind ?_ (fun _ => ?_))
   | exact ih0 _ _ _ _ _
   | exact LeO.none _
   | refine LeO.ite ?_ ?_
   | refine LeO.bind ?_ (fun _ => ?_)
set_option maxHeartbeats 8000000 in
set_option maxRecDepth 100000 in
theorem kauditlaw03_light.calls (k : Nat) (a0_0 : Int) (a0_1 : Int) (a0_2 : Int) (A0_3 : Option Addr) (c0_3 : Nat) (l0_3 : List (S31)) (r : Bool) (w : World) (hr0_3 : Kd.C k31 w A0_3 l0_3.length l0_3) (hc0_3 : l0_3.length ≤ c0_3) (h : kauditlaw03_light.f k a0_0 a0_1 a0_2 l0_3 = some r) :
  Calls Tryd.prog 31 #[.agg #[.int .i64 a0_0, .int .i64 a0_1, .int .i64 a0_2, .slice A0_3 l0_3.length c0_3]] w fun e w' => e = .returned (.bool r) ∧ Below w.heap.size w w' := by
 have hu43 := Tryd.underlying43
 have HR0_3 := Aside0.mk hr0_3
 have HC0_3 := Aside0.mk hc0_3
 clear hr0_3 hc0_3
 have HB := Aside0.mk (Below.refl w.heap.size w)
 have H : (if (l0_3.length : Int) > 40 then (some false) else (kauditlaw03_light.l0 k 0 a0_0 a0_1 a0_2 l0_3)) = some r := h
 clear h
 by_cases c2 : (l0_3.length : Int) > 40
 ·rw [if_pos c2] at H
  have c2b0 : decide (40 < (l0_3.length : Int)) = true := decide_eq_true c2
  have c2b1 : decide (40 < l0_3.length) = true := decide_eq_true (by omega)
  clear c2
  obtain rfl := Option.some.inj H
  go_enter Tryd.func31, Tryd.ntmps31
  go_wp2_with (first | ((with_reducible refine gate_dst (N := 1) rfl ?_); (try (refine gate_guard (by rfl) ?_; dsimp only)); refine box_event ?hg (N := 1) ?hd (cs := #[.int .i64 a0_0, .int .i64 a0_1, .int .i64 a0_2, .slice A0_3 l0_3.length c0_3]) (t := 43) ?hr ?_; (case hd => rfl); (case hg => rfl); (case hr => first | (go_simp; done) | (go_simp; rfl)); intro gb256 hg w3 hbox hb; have n0_ := Aside0.mk (below_step (by repeat (first | (with_reducible first | exact HB.out | apply below_alloc | apply pw_below_drewN | apply below_drew1) | exact HB.out)) hb); have n1_ := Aside0.mk (hbox); have n2_ := Aside0.mk ((by rw [hg]; exact (below_size (by repeat (first | (with_reducible first | exact HB.out | apply below_alloc | apply pw_below_drewN | apply below_drew1) | exact HB.out))) : w.heap.size ≤ gb256)); have n3_ := Aside0.mk ((by rw [hg]; exact (below_size (by repeat (first | (with_reducible first | exact HB.out | apply below_alloc | apply pw_below_drewN | apply below_drew1) | exact HB.out))) : w.heap.size ≤ gb256)); clear HB; have HB := n0_; have BK256 := n1_; have GW256 := n2_; have GE256 := n3_; clear n0_ n1_ n2_ n3_; clear hb hbox hg; have hcz4_0 : w3.cell? ⟨gb256, 0, none⟩ = some (.int .i64 a0_0) := (blk_cell BK256.out 0).trans rfl; have hcz4_1 : w3.cell? ⟨gb256, 1, none⟩ = some (.int .i64 a0_1) := (blk_cell BK256.out 1).trans rfl; have hcz4_2 : w3.cell? ⟨gb256, 2, none⟩ = some (.int .i64 a0_2) := (blk_cell BK256.out 2).trans rfl; have hcz4_3 : w3.cell? ⟨gb256, 3, none⟩ = some (.slice A0_3 l0_3.length c0_3) := (blk_cell BK256.out 3).trans rfl; have hfz4_0 := blk_frozen BK256.out 0; have hfz4_1 := blk_frozen BK256.out 1; have hfz4_2 := blk_frozen BK256.out 2; have hfz4_3 := blk_frozen BK256.out 3))
  go_ret
  exact ⟨by first | rfl | (simp [errW_none, errW_some] <;> rfl) | (simp [*, errW_none, errW_some] <;> rfl), by repeat (first | (with_reducible first | exact HB.out | apply below_alloc | apply pw_below_drewN | apply below_drew1 | refine below_set ?_ GE256.out) | exact HB.out)⟩
 ·rw [if_neg c2] at H
  have c2b0 : decide (40 < (l0_3.length : Int)) = false := decide_eq_false c2
  have c2b1 : decide (40 < l0_3.length) = false := decide_eq_false (by omega)
  clear c2
  have H' := Aside0.mk H
  clear H
  go_enter Tryd.func31, Tryd.ntmps31
  go_wp2_with (first | ((with_reducible refine gate_dst (N := 1) rfl ?_); (try (refine gate_guard (by rfl) ?_; dsimp only)); refine box_event ?hg (N := 1) ?hd (cs := #[.int .i64 a0_0, .int .i64 a0_1, .int .i64 a0_2, .slice A0_3 l0_3.length c0_3]) (t := 43) ?hr ?_; (case hd => rfl); (case hg => rfl); (case hr => first | (go_simp; done) | (go_simp; rfl)); intro gb256 hg w5 hbox hb; have n0_ := Aside0.mk (below_step (by repeat (first | (with_reducible first | exact HB.out | apply below_alloc | apply pw_below_drewN | apply below_drew1) | exact HB.out)) hb); have n1_ := Aside0.mk (hbox); have n2_ := Aside0.mk ((by rw [hg]; exact (below_size (by repeat (first | (with_reducible first | exact HB.out | apply below_alloc | apply pw_below_drewN | apply below_drew1) | exact HB.out))) : w.heap.size ≤ gb256)); have n3_ := Aside0.mk ((by rw [hg]; exact (below_size (by repeat (first | (with_reducible first | exact HB.out | apply below_alloc | apply pw_below_drewN | apply below_drew1) | exact HB.out))) : w.heap.size ≤ gb256)); clear HB; have HB := n0_; have BK256 := n1_; have GW256 := n2_; have GE256 := n3_; clear n0_ n1_ n2_ n3_; clear hb hbox hg; have hcz6_0 : w5.cell? ⟨gb256, 0, none⟩ = some (.int .i64 a0_0) := (blk_cell BK256.out 0).trans rfl; have hcz6_1 : w5.cell? ⟨gb256, 1, none⟩ = some (.int .i64 a0_1) := (blk_cell BK256.out 1).trans rfl; have hcz6_2 : w5.cell? ⟨gb256, 2, none⟩ = some (.int .i64 a0_2) := (blk_cell BK256.out 2).trans rfl; have hcz6_3 : w5.cell? ⟨gb256, 3, none⟩ = some (.slice A0_3 l0_3.length c0_3) := (blk_cell BK256.out 3).trans rfl; have hfz6_0 := blk_frozen BK256.out 0; have hfz6_1 := blk_frozen BK256.out 1; have hfz6_2 := blk_frozen BK256.out 2; have hfz6_3 := blk_frozen BK256.out 3))
  go_loopg [3] k (fun kq v3 w' => ∃ (x3_1 : Int), v3 = .int .i64 x3_1 ∧ Aside0 (kauditlaw03_light.l0 kq x3_1 a0_0 a0_1 a0_2 l0_3 = some r) ∧ Aside0 (kq ≤ k) ∧ Aside0 (w'.heap[gb256]? = some (.cells #[.int .i64 a0_0, .int .i64 a0_1, .int .i64 a0_2, (.slice A0_3 l0_3.length c0_3)] 43 (0, 0))) ∧ Aside0 (Below w.heap.size w w'))
  case atStart => exact ⟨(0), (by first | rfl | (simp; done) | (simp [*]; done)), H', ⟨Nat.le_refl _⟩, ⟨by (with_reducible repeat (first | refine blk_drewN ?_ _ | refine blk_drew ?_ | refine blk_alloc ?_ _)); exact BK256.out⟩, ⟨by repeat (first | (with_reducible first | exact HB.out | apply below_alloc | apply pw_below_drewN | apply below_drew1 | refine below_set ?_ GE256.out) | exact HB.out)⟩⟩
  case round =>
   clear H'
   try clear c2
   try clear c2b0
   try clear c2b1
   try clear p2
   try clear c3
   try clear hcz4_0
   try clear hcz4_1
   try clear hcz4_2
   try clear hcz4_3
   try clear hcz6_0
   try clear hcz6_1
   try clear hcz6_2
   try clear hcz6_3
   try clear hfz4_0
   try clear hfz4_1
   try clear hfz4_2
   try clear hfz4_3
   try clear hfz6_0
   try clear hfz6_1
   try clear hfz6_2
   try clear hfz6_3
   obtain ⟨x3_1, rfl, HA, HK1, BK256, HB⟩ := hrel
   cases gk with
   | zero => exact absurd HA.out (by simp [kauditlaw03_light.l0])
   | succ k1 =>
    have H := HA.out
    clear HA
    simp only [kauditlaw03_light.l0] at H
    by_cases c7 : x3_1 < (l0_3.length : Int)
    ·rw [if_pos c7] at H
     have c7b0 : decide (x3_1 < (l0_3.length : Int)) = true := decide_eq_true c7
     clear c7
     by_cases c8 : 0 ≤ x3_1
     ·rw [if_pos c8] at H
      have c8b0 : decide (0 ≤ x3_1) = true := decide_eq_true c8
      clear c8
      by_cases c9 : (((rd_T31 l0_3 x3_1).f0).size : Int) > 40
      ·rw [if_pos c9] at H
       have c9b0 : decide (40 < (((rd_T31 l0_3 x3_1).f0).size : Int)) = true := decide_eq_true c9
       have c9b1 : decide (40 < ((rd_T31 l0_3 x3_1).f0).size) = true := decide_eq_true (by omega)
       clear c9
       obtain rfl := Option.some.inj H
       have hcz10_0 : wr.cell? ⟨gb256, 0, none⟩ = some (.int .i64 a0_0) := (blk_cell BK256.out 0).trans rfl
       have hcz10_1 : wr.cell? ⟨gb256, 1, none⟩ = some (.int .i64 a0_1) := (blk_cell BK256.out 1).trans rfl
       have hcz10_2 : wr.cell? ⟨gb256, 2, none⟩ = some (.int .i64 a0_2) := (blk_cell BK256.out 2).trans rfl
       have hcz10_3 : wr.cell? ⟨gb256, 3, none⟩ = some (.slice A0_3 l0_3.length c0_3) := (blk_cell BK256.out 3).trans rfl
       have hfz10_0 := blk_frozen BK256.out 0
       have hfz10_1 := blk_frozen BK256.out 1
       have hfz10_2 := blk_frozen BK256.out 2
       have hfz10_3 := blk_frozen BK256.out 3
       have p257 : 0 ≤ (x3_1 : Int) := of_decide_eq_true (by first | (with_reducible assumption) | assumption)
       have q257 : x3_1 < (l0_3.length : Int) := of_decide_eq_true (by first | (with_reducible assumption) | assumption)
       obtain ⟨ad257, e257, hx257_0, hx257_1, hx257_2, hx257_3⟩ := at_T31 HR0_3.out x3_1 p257 q257
       cases e257
       replace hx257_0 := (HB.out.cell (World.block_lt_of_cell? w _ hx257_0)).trans hx257_0
       replace hx257_1 := (HB.out.cell (World.block_lt_of_cell? w _ hx257_1)).trans hx257_1
       replace hx257_2 := (HB.out.cell (World.block_lt_of_cell? w _ hx257_2)).trans hx257_2
       replace hx257_3 := (HB.out.cell (World.block_lt_of_cell? w _ hx257_3)).trans hx257_3
       replace p257 := eq_true p257
       replace q257 := eq_true q257
       go_wp2
       go_ret
       exact ⟨by first | rfl | (simp [errW_none, errW_some] <;> rfl) | (simp [*, errW_none, errW_some] <;> rfl), by repeat (first | (with_reducible first | exact HB.out | apply below_alloc | apply pw_below_drewN | apply below_drew1 | refine below_set ?_ GE256.out) | exact HB.out)⟩
      ·rw [if_neg c9] at H
       have c9b0 : decide (40 < (((rd_T31 l0_3 x3_1).f0).size : Int)) = false := decide_eq_false c9
       have c9b1 : decide (40 < ((rd_T31 l0_3 x3_1).f0).size) = false := decide_eq_false (by omega)
       clear c9
       by_cases c11 : (((rd_T31 l0_3 x3_1).f3).size : Int) > 700
       ·rw [if_pos c11] at H
        have c11b0 : decide (700 < (((rd_T31 l0_3 x3_1).f3).size : Int)) = true := decide_eq_true c11
        have c11b1 : decide (700 < ((rd_T31 l0_3 x3_1).f3).size) = true := decide_eq_true (by omega)
        clear c11
        obtain rfl := Option.some.inj H
        have hcz12_0 : wr.cell? ⟨gb256, 0, none⟩ = some (.int .i64 a0_0) := (blk_cell BK256.out 0).trans rfl
        have hcz12_1 : wr.cell? ⟨gb256, 1, none⟩ = some (.int .i64 a0_1) := (blk_cell BK256.out 1).trans rfl
        have hcz12_2 : wr.cell? ⟨gb256, 2, none⟩ = some (.int .i64 a0_2) := (blk_cell BK256.out 2).trans rfl
        have hcz12_3 : wr.cell? ⟨gb256, 3, none⟩ = some (.slice A0_3 l0_3.length c0_3) := (blk_cell BK256.out 3).trans rfl
        have hfz12_0 := blk_frozen BK256.out 0
        have hfz12_1 := blk_frozen BK256.out 1
        have hfz12_2 := blk_frozen BK256.out 2
        have hfz12_3 := blk_frozen BK256.out 3
        have p257 : 0 ≤ (x3_1 : Int) := of_decide_eq_true (by first | (with_reducible assumption) | assumption)
        have q257 : x3_1 < (l0_3.length : Int) := of_decide_eq_true (by first | (with_reducible assumption) | assumption)
        obtain ⟨ad257, e257, hx257_0, hx257_1, hx257_2, hx257_3⟩ := at_T31 HR0_3.out x3_1 p257 q257
        cases e257
        replace hx257_0 := (HB.out.cell (World.block_lt_of_cell? w _ hx257_0)).trans hx257_0
        replace hx257_1 := (HB.out.cell (World.block_lt_of_cell? w _ hx257_1)).trans hx257_1
        replace hx257_2 := (HB.out.cell (World.block_lt_of_cell? w _ hx257_2)).trans hx257_2
        replace hx257_3 := (HB.out.cell (World.block_lt_of_cell? w _ hx257_3)).trans hx257_3
        replace p257 := eq_true p257
        replace q257 := eq_true q257
        have p258 : 0 ≤ (x3_1 : Int) := of_decide_eq_true (by first | (with_reducible assumption) | assumption)
        have q258 : x3_1 < (l0_3.length : Int) := of_decide_eq_true (by first | (with_reducible assumption) | assumption)
        obtain ⟨ad258, e258, hx258_0, hx258_1, hx258_2, hx258_3⟩ := at_T31 HR0_3.out x3_1 p258 q258
        obtain rfl : ad257 = ad258 := (by injection e258)
        replace hx258_0 := (HB.out.cell (World.block_lt_of_cell? w _ hx258_0)).trans hx258_0
        replace hx258_1 := (HB.out.cell (World.block_lt_of_cell? w _ hx258_1)).trans hx258_1
        replace hx258_2 := (HB.out.cell (World.block_lt_of_cell? w _ hx258_2)).trans hx258_2
        replace hx258_3 := (HB.out.cell (World.block_lt_of_cell? w _ hx258_3)).trans hx258_3
        replace p258 := eq_true p258
        replace q258 := eq_true q258
        go_wp2
        go_ret
        exact ⟨by first | rfl | (simp [errW_none, errW_some] <;> rfl) | (simp [*, errW_none, errW_some] <;> rfl), by repeat (first | (with_reducible first | exact HB.out | apply below_alloc | apply pw_below_drewN | apply below_drew1 | refine below_set ?_ GE256.out) | exact HB.out)⟩
       ·rw [if_neg c11] at H
        have c11b0 : decide (700 < (((rd_T31 l0_3 x3_1).f3).size : Int)) = false := decide_eq_false c11
        have c11b1 : decide (700 < ((rd_T31 l0_3 x3_1).f3).size) = false := decide_eq_false (by omega)
        clear c11
        have H' := Aside0.mk H
        clear H
        have hcz13_0 : wr.cell? ⟨gb256, 0, none⟩ = some (.int .i64 a0_0) := (blk_cell BK256.out 0).trans rfl
        have hcz13_1 : wr.cell? ⟨gb256, 1, none⟩ = some (.int .i64 a0_1) := (blk_cell BK256.out 1).trans rfl
        have hcz13_2 : wr.cell? ⟨gb256, 2, none⟩ = some (.int .i64 a0_2) := (blk_cell BK256.out 2).trans rfl
        have hcz13_3 : wr.cell? ⟨gb256, 3, none⟩ = some (.slice A0_3 l0_3.length c0_3) := (blk_cell BK256.out 3).trans rfl
        have hfz13_0 := blk_frozen BK256.out 0
        have hfz13_1 := blk_frozen BK256.out 1
        have hfz13_2 := blk_frozen BK256.out 2
        have hfz13_3 := blk_frozen BK256.out 3
        have p257 : 0 ≤ (x3_1 : Int) := of_decide_eq_true (by first | (with_reducible assumption) | assumption)
        have q257 : x3_1 < (l0_3.length : Int) := of_decide_eq_true (by first | (with_reducible assumption) | assumption)
        obtain ⟨ad257, e257, hx257_0, hx257_1, hx257_2, hx257_3⟩ := at_T31 HR0_3.out x3_1 p257 q257
        cases e257
        replace hx257_0 := (HB.out.cell (World.block_lt_of_cell? w _ hx257_0)).trans hx257_0
        replace hx257_1 := (HB.out.cell (World.block_lt_of_cell? w _ hx257_1)).trans hx257_1
        replace hx257_2 := (HB.out.cell (World.block_lt_of_cell? w _ hx257_2)).trans hx257_2
        replace hx257_3 := (HB.out.cell (World.block_lt_of_cell? w _ hx257_3)).trans hx257_3
        replace p257 := eq_true p257
        replace q257 := eq_true q257
        have p258 : 0 ≤ (x3_1 : Int) := of_decide_eq_true (by first | (with_reducible assumption) | assumption)
        have q258 : x3_1 < (l0_3.length : Int) := of_decide_eq_true (by first | (with_reducible assumption) | assumption)
        obtain ⟨ad258, e258, hx258_0, hx258_1, hx258_2, hx258_3⟩ := at_T31 HR0_3.out x3_1 p258 q258
        obtain rfl : ad257 = ad258 := (by injection e258)
        replace hx258_0 := (HB.out.cell (World.block_lt_of_cell? w _ hx258_0)).trans hx258_0
        replace hx258_1 := (HB.out.cell (World.block_lt_of_cell? w _ hx258_1)).trans hx258_1
        replace hx258_2 := (HB.out.cell (World.block_lt_of_cell? w _ hx258_2)).trans hx258_2
        replace hx258_3 := (HB.out.cell (World.block_lt_of_cell? w _ hx258_3)).trans hx258_3
        replace p258 := eq_true p258
        replace q258 := eq_true q258
        go_wp2
        go_roundg k1
        case measure => have := HK1.out; omega
        case rel => exact ⟨(wrap64 (x3_1 + 1)), (by first | rfl | (simp; done) | (simp [*]; done)), H', ⟨by have := HK1.out; omega⟩, ⟨by (with_reducible repeat (first | refine blk_drewN ?_ _ | refine blk_drew ?_ | refine blk_alloc ?_ _)); exact BK256.out⟩, ⟨by repeat (first | (with_reducible first | exact HB.out | apply below_alloc | apply pw_below_drewN | apply below_drew1 | refine below_set ?_ GE256.out) | exact HB.out)⟩⟩
     ·rw [if_neg c8] at H
      exact absurd H (by simp)
    ·rw [if_neg c7] at H
     have c7b0 : decide (x3_1 < (l0_3.length : Int)) = false := decide_eq_false c7
     clear c7
     obtain rfl := Option.some.inj H
     have hcz14_0 : wr.cell? ⟨gb256, 0, none⟩ = some (.int .i64 a0_0) := (blk_cell BK256.out 0).trans rfl
     have hcz14_1 : wr.cell? ⟨gb256, 1, none⟩ = some (.int .i64 a0_1) := (blk_cell BK256.out 1).trans rfl
     have hcz14_2 : wr.cell? ⟨gb256, 2, none⟩ = some (.int .i64 a0_2) := (blk_cell BK256.out 2).trans rfl
     have hcz14_3 : wr.cell? ⟨gb256, 3, none⟩ = some (.slice A0_3 l0_3.length c0_3) := (blk_cell BK256.out 3).trans rfl
     have hfz14_0 := blk_frozen BK256.out 0
     have hfz14_1 := blk_frozen BK256.out 1
     have hfz14_2 := blk_frozen BK256.out 2
     have hfz14_3 := blk_frozen BK256.out 3
     go_wp2
     go_ret
     exact ⟨by first | rfl | (simp [errW_none, errW_some] <;> rfl) | (simp [*, errW_none, errW_some] <;> rfl), by repeat (first | (with_reducible first | exact HB.out | apply below_alloc | apply pw_below_drewN | apply below_drew1 | refine below_set ?_ GE256.out) | exact HB.out)⟩

-- EXTERNAL: function 35 (record_Format)
/-! ### kauditlaw03_awake: function 32 -/
def kauditlaw03_awake.f  : Option (Bool) := (record_Format.f 1307 12345 7 (([(⟨(⟨#[99, 119, 100]⟩ : ByteArray), 2, 0, (⟨#[47, 116, 109, 112]⟩ : ByteArray)⟩ : S31)] : List (S31)))).bind fun bt262 => (if bt262.2 = 0 then (some (bt262.1.toList == ([116, 121, 112, 101, 61, 67, 87, 68, 32, 109, 115, 103, 61, 97, 117, 100, 105, 116, 40, 49, 50, 46, 51, 52, 53, 58, 55, 41, 58, 32, 99, 119, 100, 61, 34, 47, 116, 109, 112, 34] : List UInt8))) else (some false))
set_option maxHeartbeats 8000000 in
set_option maxRecDepth 100000 in
theorem kauditlaw03_awake.calls  (r : Bool) (w : World) (hG : GT 2 w) (h : kauditlaw03_awake.f  = some r) :
  Calls Tryd.prog 32 #[] w fun e w' => e = .returned (.bool r) ∧ Below w.heap.size w w' := by
 have hu31 := Tryd.underlying31
 have hu43 := Tryd.underlying43
 have HG := Aside0.mk hG
 clear hG
 have HB := Aside0.mk (Below.refl w.heap.size w)
 have H : ((record_Format.f 1307 12345 7 (([(⟨(⟨#[99, 119, 100]⟩ : ByteArray), 2, 0, (⟨#[47, 116, 109, 112]⟩ : ByteArray)⟩ : S31)] : List (S31)))).bind fun bt262 => (if bt262.2 = 0 then (some (bt262.1.toList == ([116, 121, 112, 101, 61, 67, 87, 68, 32, 109, 115, 103, 61, 97, 117, 100, 105, 116, 40, 49, 50, 46, 51, 52, 53, 58, 55, 41, 58, 32, 99, 119, 100, 61, 34, 47, 116, 109, 112, 34] : List UInt8))) else (some false))) = some r := h
 clear h
 obtain ⟨y259, hy259⟩ : ∃ y_ : List (S31), y_ = (([(⟨(⟨#[99, 119, 100]⟩ : ByteArray), 2, 0, (⟨#[47, 116, 109, 112]⟩ : ByteArray)⟩ : S31)] : List (S31))) := ⟨_, rfl⟩
 replace H : ((record_Format.f 1307 12345 7 y259).bind fun bt262 => (if bt262.2 = 0 then (some (bt262.1.toList == ([116, 121, 112, 101, 61, 67, 87, 68, 32, 109, 115, 103, 61, 97, 117, 100, 105, 116, 40, 49, 50, 46, 51, 52, 53, 58, 55, 41, 58, 32, 99, 119, 100, 61, 34, 47, 116, 109, 112, 34] : List UInt8))) else (some false))) = some r := by first | (rw [hy259]; with_reducible exact H) | (have H2_ := (Option.bind_some _ _).symm.trans H; rw [hy259]; with_reducible exact H2_) | (have H2_ := (Option.bind_some _ _).symm.trans H; with_reducible exact H2_) | with_reducible exact H | (rw [hy259]; exact H) | exact H
 have Ny259 := Aside0.mk hy259
 clear hy259
 replace H := Option.bind_eq_some_iff.mp H
 obtain ⟨⟨t262, t263⟩, A10, H⟩ := H
 replace H : (if t263 = 0 then (some (t262.toList == ([116, 121, 112, 101, 61, 67, 87, 68, 32, 109, 115, 103, 61, 97, 117, 100, 105, 116, 40, 49, 50, 46, 51, 52, 53, 58, 55, 41, 58, 32, 99, 119, 100, 61, 34, 47, 116, 109, 112, 34] : List UInt8))) else (some false)) = some r := H
 have A1 := Aside0.mk A10
 clear A10
 by_cases c2 : t263 = 0
 ·rw [if_pos c2] at H
  have c2b0 : (t263 == 0) = true := beq_iff_eq.mpr c2
  have c2b1 : (t263 != 0) = false := bne_eq_false_iff_eq.mpr c2
  clear c2
  obtain rfl := Option.some.inj H
  go_enter Tryd.func32, Tryd.ntmps32
  go_wp2_with (first | ((with_reducible refine gate_dst (N := 5) rfl ?_); refine Kd.R_lit k31 _ 31 ?hg (N := 5) ?hd (xs := ([(⟨(⟨#[99, 119, 100]⟩ : ByteArray), 2, 0, (⟨#[47, 116, 109, 112]⟩ : ByteArray)⟩ : S31)] : List (S31))) (inner := [.string (⟨#[99, 119, 100]⟩ : ByteArray), .int .i64 2, .int .i64 0, .string (⟨#[47, 116, 109, 112]⟩ : ByteArray)]) (ok := fun _ => True) (okp := fun _ => True) ?hr ?hp (fun _ hk => hk) trivial (Below.refl _ _) (Nat.le_refl _) (by simp) ?_; (case hd => rfl); (case hg => rfl); (case hr => first | (go_simp; done) | (go_simp; rfl)); (case hp => exact (Reps.c4 (show Kd.M k31 _ _ _ (⟨(⟨#[99, 119, 100]⟩ : ByteArray), 2, 0, (⟨#[47, 116, 109, 112]⟩ : ByteArray)⟩ : S31) [.string (⟨#[99, 119, 100]⟩ : ByteArray), .int .i64 2, .int .i64 0, .string (⟨#[47, 116, 109, 112]⟩ : ByteArray)] from (k31_mkM _ _ _ (⟨(⟨#[99, 119, 100]⟩ : ByteArray), 2, 0, (⟨#[47, 116, 109, 112]⟩ : ByteArray)⟩ : S31) )) (Reps.none _ _))); intro v260 w3 ho4 hb hg_ hnew_; clear hg_ hnew_; (first | rw [← Ny259.out] at ho4 | (simp only [Int.reduceToNat] at ho4; rw [← Ny259.out] at ho4)); have n0_ := Aside0.mk (Kd.R_lower ho4 (below_size (by repeat (first | (with_reducible first | exact HB.out | apply below_alloc | apply pw_below_drewN | apply below_drew1) | exact HB.out)))); have n1_ := Aside0.mk (below_step (by repeat (first | (with_reducible first | exact HB.out | apply below_alloc | apply pw_below_drewN | apply below_drew1) | exact HB.out)) hb); clear HB; have HO261 := n0_; have HB := n1_; clear n0_ n1_; clear hb ho4; obtain ⟨Ao5, co5, eo5⟩ := Kd.R_slice HO261.out; subst eo5) | ((with_reducible refine gate_callee (f := 35) rfl ?_); refine goesL_ (some 7) rfl rfl Tryd.func35 (by kernel_rfl) rfl #[.agg #[.int .i64 1307, .int .i64 12345, .int .i64 7, .slice Ao5 y259.length co5]] rfl (by (try simp only [List.map_toArray, List.map_cons, List.map_nil]); first | done | rfl | (simp only [List.length_drop, List.length_take]; rfl)) ?_; (with_reducible refine (record_Format.calls 1307 12345 7 _ _ y259 t262 t263 _ ?side1 ?side2 ?side3 A1.out).mono ?_); (case side1 => exact GT.below (by decide) HG.out (by repeat (first | (with_reducible first | exact HB.out | apply below_alloc | apply pw_below_drewN | apply below_drew1) | exact HB.out))); (case side2 => repeat (first | exact (Kd.R_reads' HO261.out).2.2 | (with_reducible refine Kd.C_alloc ?_ _) | (with_reducible refine Kd.C_drewN ?_ _) | (with_reducible refine Kd.C_drew ?_))); (case side3 => exact (Kd.R_reads' HO261.out).2.1); rintro e w6 ⟨rfl, hb⟩; refine ⟨_, rfl, ?_⟩; have n0_ := Aside0.mk (Kd.R_below (by (with_reducible repeat (first | apply Kd.R_alloc | apply Kd.R_drewN | apply Kd.R_drew)); exact HO261.out) hb); have n1_ := Aside0.mk (below_step (by repeat (first | (with_reducible first | exact HB.out | apply below_alloc | apply pw_below_drewN | apply below_drew1) | exact HB.out)) hb); clear HO261; clear HB; have HO261 := n0_; have HB := n1_; clear n0_ n1_; (try clear hb); (try clear hb2); (try clear hk); (try clear hi)))
  go_ret
  exact ⟨by first | rfl | (simp [errW_none, errW_some] <;> rfl) | (simp [*, errW_none, errW_some] <;> rfl), by repeat (first | (with_reducible first | exact HB.out | apply below_alloc | apply pw_below_drewN | apply below_drew1) | exact HB.out)⟩
 ·rw [if_neg c2] at H
  have c2b0 : (t263 == 0) = false := beq_eq_false_iff_ne.mpr c2
  have c2b1 : (t263 != 0) = true := bne_iff_ne.mpr c2
  obtain rfl := Option.some.inj H
  go_enter Tryd.func32, Tryd.ntmps32
  go_wp2_with (first | ((with_reducible refine gate_dst (N := 5) rfl ?_); refine Kd.R_lit k31 _ 31 ?hg (N := 5) ?hd (xs := ([(⟨(⟨#[99, 119, 100]⟩ : ByteArray), 2, 0, (⟨#[47, 116, 109, 112]⟩ : ByteArray)⟩ : S31)] : List (S31))) (inner := [.string (⟨#[99, 119, 100]⟩ : ByteArray), .int .i64 2, .int .i64 0, .string (⟨#[47, 116, 109, 112]⟩ : ByteArray)]) (ok := fun _ => True) (okp := fun _ => True) ?hr ?hp (fun _ hk => hk) trivial (Below.refl _ _) (Nat.le_refl _) (by simp) ?_; (case hd => rfl); (case hg => rfl); (case hr => first | (go_simp; done) | (go_simp; rfl)); (case hp => exact (Reps.c4 (show Kd.M k31 _ _ _ (⟨(⟨#[99, 119, 100]⟩ : ByteArray), 2, 0, (⟨#[47, 116, 109, 112]⟩ : ByteArray)⟩ : S31) [.string (⟨#[99, 119, 100]⟩ : ByteArray), .int .i64 2, .int .i64 0, .string (⟨#[47, 116, 109, 112]⟩ : ByteArray)] from (k31_mkM _ _ _ (⟨(⟨#[99, 119, 100]⟩ : ByteArray), 2, 0, (⟨#[47, 116, 109, 112]⟩ : ByteArray)⟩ : S31) )) (Reps.none _ _))); intro v260 w7 ho8 hb hg_ hnew_; clear hg_ hnew_; (first | rw [← Ny259.out] at ho8 | (simp only [Int.reduceToNat] at ho8; rw [← Ny259.out] at ho8)); have n0_ := Aside0.mk (Kd.R_lower ho8 (below_size (by repeat (first | (with_reducible first | exact HB.out | apply below_alloc | apply pw_below_drewN | apply below_drew1) | exact HB.out)))); have n1_ := Aside0.mk (below_step (by repeat (first | (with_reducible first | exact HB.out | apply below_alloc | apply pw_below_drewN | apply below_drew1) | exact HB.out)) hb); clear HB; have HO261 := n0_; have HB := n1_; clear n0_ n1_; clear hb ho8; obtain ⟨Ao9, co9, eo9⟩ := Kd.R_slice HO261.out; subst eo9) | ((with_reducible refine gate_callee (f := 35) rfl ?_); refine goesL_ (some 7) rfl rfl Tryd.func35 (by kernel_rfl) rfl #[.agg #[.int .i64 1307, .int .i64 12345, .int .i64 7, .slice Ao9 y259.length co9]] rfl (by (try simp only [List.map_toArray, List.map_cons, List.map_nil]); first | done | rfl | (simp only [List.length_drop, List.length_take]; rfl)) ?_; (with_reducible refine (record_Format.calls 1307 12345 7 _ _ y259 t262 t263 _ ?side1 ?side2 ?side3 A1.out).mono ?_); (case side1 => exact GT.below (by decide) HG.out (by repeat (first | (with_reducible first | exact HB.out | apply below_alloc | apply pw_below_drewN | apply below_drew1) | exact HB.out))); (case side2 => repeat (first | exact (Kd.R_reads' HO261.out).2.2 | (with_reducible refine Kd.C_alloc ?_ _) | (with_reducible refine Kd.C_drewN ?_ _) | (with_reducible refine Kd.C_drew ?_))); (case side3 => exact (Kd.R_reads' HO261.out).2.1); rintro e w10 ⟨rfl, hb⟩; refine ⟨_, rfl, ?_⟩; have n0_ := Aside0.mk (Kd.R_below (by (with_reducible repeat (first | apply Kd.R_alloc | apply Kd.R_drewN | apply Kd.R_drew)); exact HO261.out) hb); have n1_ := Aside0.mk (below_step (by repeat (first | (with_reducible first | exact HB.out | apply below_alloc | apply pw_below_drewN | apply below_drew1) | exact HB.out)) hb); clear HO261; clear HB; have HO261 := n0_; have HB := n1_; clear n0_ n1_; (try clear hb); (try clear hb2); (try clear hk); (try clear hi)))
  go_ret
  exact ⟨by first | rfl | (simp [errW_none, errW_some] <;> rfl) | (simp [*, errW_none, errW_some] <;> rfl), by repeat (first | (with_reducible first | exact HB.out | apply below_alloc | apply pw_below_drewN | apply below_drew1) | exact HB.out)⟩
/-! ### kauditref03_kinds: function 87 -/
def kauditref03_kinds.f  : Option ((List (S123))) := some (([(⟨(⟨#[85, 83, 69, 82]⟩ : ByteArray), 1005, true⟩ : S123), (⟨(⟨#[68, 65, 69, 77, 79, 78]⟩ : ByteArray), 1200, true⟩ : S123), (⟨(⟨#[83, 89, 83, 67, 65, 76, 76]⟩ : ByteArray), 1300, false⟩ : S123), (⟨(⟨#[80, 65, 84, 72]⟩ : ByteArray), 1302, false⟩ : S123), (⟨(⟨#[67, 79, 78, 70, 73, 71]⟩ : ByteArray), 1305, true⟩ : S123), (⟨(⟨#[83, 79, 67, 75, 65, 68, 68, 82]⟩ : ByteArray), 1306, false⟩ : S123), (⟨(⟨#[67, 87, 68]⟩ : ByteArray), 1307, false⟩ : S123), (⟨(⟨#[69, 88, 69, 67, 86, 69]⟩ : ByteArray), 1309, false⟩ : S123), (⟨(⟨#[69, 79, 69]⟩ : ByteArray), 1320, false⟩ : S123), (⟨(⟨#[76, 79, 83, 83]⟩ : ByteArray), 1331, true⟩ : S123)] : List (S123)))
/-! ### kauditref03_find: function 90 -/
def kauditref03_find.l0 : Nat → Int → List (S123) → Int → Option (ByteArray × Int × Bool × Bool)
 | 0, _, _, _ => none
 | k + 1, x0, x4, x5 => if x5 < (x4.length : Int) then (if 0 ≤ x5 then (if ((rd_T123 x4 x5).f1) = x0 then (some ((rd_T123 x4 x5).f0, (rd_T123 x4 x5).f1, (rd_T123 x4 x5).f2, true)) else (kauditref03_find.l0 k x0 x4 (wrap64 (x5 + 1)))) else (none)) else (some ((⟨#[]⟩ : ByteArray), 0, false, false))
def kauditref03_find.f (k : Nat) (a0 : Int) : Option (ByteArray × Int × Bool × Bool) := (kauditref03_kinds.f).bind fun t268 => (kauditref03_find.l0 k a0 t268 0)
theorem kauditref03_find.mono_l : ∀ k, (∀ y0 y1 y2, LeO (kauditref03_find.l0 k y0 y1 y2) (kauditref03_find.l0 (k + 1) y0 y1 y2))
 | 0 => fun _ _ _ r h => by simp [kauditref03_find.l0] at h
 | k + 1 => by
  have ih0 := kauditref03_find.mono_l k
  ·intro y0 y1 y2
   unfold kauditref03_find.l0
   repeat' first
   | (with_reducible exact ih0 _ _ _)
   | (with_reducible exact LeO.refl _)
   | (with_reducible exact LeO.none _)
   | (with_reducible refine LeO.ite ?_ ?_)
   | (with_reducible refine LeO.bind ?_ (fun _ => ?_))
   | exact ih0 _ _ _
   | exact LeO.none _
   | refine LeO.ite ?_ ?_
   | refine LeO.bind ?_ (fun _ => ?_)
theorem kauditref03_find.mono : ∀ a0 k, LeO (kauditref03_find.f k a0) (kauditref03_find.f (k + 1) a0) := by
 intro a0 k
 have ih0 := kauditref03_find.mono_l k
 unfold kauditref03_find.f
 repeat' first
   | (with_reducible exact ih0 _ _ _)
   | (with_reducible exact LeO.refl _)
   | (with_reducible exact LeO.none _)
   | (with_reducible refine LeO.ite ?_ ?_)
   | (with_reducible refine LeO.bind ?_ (fun _ => ?_))
   | exact ih0 _ _ _
   | exact LeO.none _
   | refine LeO.ite ?_ ?_
   | refine LeO.bind ?_ (fun _ => ?_)
/-! ### kauditref03_Name: function 42 -/
def kauditref03_Name.f (k : Nat) (a0 : Int) : Option (ByteArray) := (kauditref03_find.f k a0).bind fun bt273 => (some bt273.1)
theorem kauditref03_Name.mono : ∀ a0 k, LeO (kauditref03_Name.f k a0) (kauditref03_Name.f (k + 1) a0) := by
 intro a0 k
 unfold kauditref03_Name.f
 repeat' first
   | (with_reducible exact kauditref03_find.mono _ _)
   | (with_reducible exact LeO.refl _)
   | (with_reducible exact LeO.none _)
   | (with_reducible refine LeO.ite ?_ ?_)
   | (with_reducible refine LeO.bind ?_ (fun _ => ?_))
   | exact kauditref03_find.mono _ _
   | exact LeO.none _
   | refine LeO.ite ?_ ?_
   | refine LeO.bind ?_ (fun _ => ?_)
end Go.Proofs.YtkfddpbmclbdhaaDoor.PA
