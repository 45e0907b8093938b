/- Contracts of functions of the program: written by pr2.py (ours, round the print of the kit) out of the translation; conditions: each contract names its own. -/
import Derived.Test.YtkfddpbmclbdhaaDoorZ8PAx0
import Derived.Test.YtkfddpbmclbdhaaDoorZ8PAx10
import Derived.Test.YtkfddpbmclbdhaaDoorZ8PAx11
import Derived.Test.YtkfddpbmclbdhaaDoorZ8PAx15
import Derived.Test.YtkfddpbmclbdhaaDoorZ8GT
import Derived.Test.YtkfddpbmclbdhaaDoorZ8EForm
namespace Go.Proofs.YtkfddpbmclbdhaaDoor.PA
open Go.RowKit Go.Proofs.YtkfddpbmclbdhaaDoorW.PrintWords Go.Proofs.YtkfddpbmclbdhaaDoorW.PrintLast Go.Proofs.YtkfddpbmclbdhaaDoorW.PrintMore
attribute [local go_sem] max2_int min2_int max_two min_two max_three min_three max_four min_four   -- for this text's walks alone
set_option linter.unusedVariables false
set_option linter.unusedSimpArgs false
/-! ### kauditlaw03_RecordDiffer: function 9 -/
def kauditlaw03_RecordDiffer.j0 : Nat → Int → Int → Int → List (S31) → Int → Int → Int → List (S31) → Option (Bool)
  | 0, _, _, _, _, _, _, _, _ => none
  | k + 1, x362000, x362001, x362002, x362003, x363000, x363001, x363002, x363003 => (record_Format.f x362000 x362001 x362002 x362003).bind fun bt385 => ((record_Format.f x363000 x363001 x363002 x363003).bind fun bt387 => (if bt385.2 = 0 then (if bt387.2 = 0 then ((kauditref03_Same.f k x362000 x362001 x362002 x362003 x363000 x363001 x363002 x363003).bind fun t389 => (if ((bt385.1.toList == bt387.1.toList) == t389) = true then ((kauditlaw03_awake.f).bind fun t390 => (some t390)) else (some false))) else ((kauditlaw03_awake.f).bind fun t391 => (some t391))) else ((kauditlaw03_awake.f).bind fun t392 => (some t392))))
def kauditlaw03_RecordDiffer.f (k : Nat) (l0 : List Int) : Option (Bool) := (kauditmake_New.f l0).bind fun bt351 => ((kauditmake_Src_Record.f k bt351.1 bt351.2).bind fun bt354 => ((kauditmake_Src_N.f bt351.1 bt354.2.2.2.2 4).bind fun bt363 => (if bt363.1 = 0 then ((kauditmake_Src_Record.f k bt351.1 bt363.2).bind fun bt365 => (kauditlaw03_RecordDiffer.j0 k bt354.1 bt354.2.1 bt354.2.2.1 bt354.2.2.2.1 bt365.1 bt365.2.1 bt365.2.2.1 bt365.2.2.2.1)) else (if bt363.1 = 1 then ((kauditmake_Src_N.f bt351.1 bt363.2 2).bind fun bt372 => (kauditlaw03_RecordDiffer.j0 k bt354.1 bt354.2.1 bt354.2.2.1 bt354.2.2.2.1 bt354.1 (wrap64 (bt354.2.1 + bt372.1)) bt354.2.2.1 bt354.2.2.2.1)) else (if bt363.1 = 2 then (if ([] : List (S31)).length + bt354.2.2.2.1.length < 2932031007402 then ((some (([] : List (S31)) ++ bt354.2.2.2.1 : List (S31))).bind fun y374 => ((kauditmake_Src_Pair.f k bt351.1 bt363.2).bind fun bt377 => (if y374.length < 2932031007402 then (kauditlaw03_RecordDiffer.j0 k bt354.1 bt354.2.1 bt354.2.2.1 bt354.2.2.2.1 bt354.1 bt354.2.1 bt354.2.2.1 (y374 ++ [(⟨bt377.1, bt377.2.1, bt377.2.2.1, bt377.2.2.2.1⟩ : S31)])) else (none)))) else (none)) else (kauditlaw03_RecordDiffer.j0 k bt354.1 bt354.2.1 bt354.2.2.1 bt354.2.2.2.1 bt354.1 bt354.2.1 bt354.2.2.1 bt354.2.2.2.1))))))
theorem kauditlaw03_RecordDiffer.mono_l : ∀ k, (∀ y0 y1 y2 y3 y4 y5 y6 y7, LeO (kauditlaw03_RecordDiffer.j0 k y0 y1 y2 y3 y4 y5 y6 y7) (kauditlaw03_RecordDiffer.j0 (k + 1) y0 y1 y2 y3 y4 y5 y6 y7))
  | 0 => fun _ _ _ _ _ _ _ _ r h => by simp [kauditlaw03_RecordDiffer.j0] at h
  | k + 1 => by
    have ih0 := kauditlaw03_RecordDiffer.mono_l k
    · intro y0 y1 y2 y3 y4 y5 y6 y7
      unfold kauditlaw03_RecordDiffer.j0
      repeat' first
      | (with_reducible exact ih0 _ _ _ _ _ _ _ _)
      | (with_reducible exact kauditmake_Src_Pair.mono _ _ _)
      | (with_reducible exact kauditmake_Src_Record.mono _ _ _)
      | (with_reducible exact kauditref03_Same.mono _ _ _ _ _ _ _ _ _)
      | (with_reducible exact LeO.refl _)
      | (with_reducible exact LeO.none _)
      | (with_reducible refine LeO.ite ?_ ?_)
      | (with_reducible refine LeO.bind ?_ (fun _ => ?_))
      | exact ih0 _ _ _ _ _ _ _ _
      | exact kauditmake_Src_Pair.mono _ _ _
      | exact kauditmake_Src_Record.mono _ _ _
      | exact kauditref03_Same.mono _ _ _ _ _ _ _ _ _
      | exact LeO.none _
      | refine LeO.ite ?_ ?_
      | refine LeO.bind ?_ (fun _ => ?_)
theorem kauditlaw03_RecordDiffer.mono : ∀ a0 k, LeO (kauditlaw03_RecordDiffer.f k a0) (kauditlaw03_RecordDiffer.f (k + 1) a0) := by
  intro a0 k
  have ih0 := kauditlaw03_RecordDiffer.mono_l k
  unfold kauditlaw03_RecordDiffer.f
  repeat' first
      | (with_reducible exact ih0 _ _ _ _ _ _ _ _)
      | (with_reducible exact kauditmake_Src_Pair.mono _ _ _)
      | (with_reducible exact kauditmake_Src_Record.mono _ _ _)
      | (with_reducible exact kauditref03_Same.mono _ _ _ _ _ _ _ _ _)
      | (with_reducible exact LeO.refl _)
      | (with_reducible exact LeO.none _)
      | (with_reducible refine LeO.ite ?_ ?_)
      | (with_reducible refine LeO.bind ?_ (fun _ => ?_))
      | exact ih0 _ _ _ _ _ _ _ _
      | exact kauditmake_Src_Pair.mono _ _ _
      | exact kauditmake_Src_Record.mono _ _ _
      | exact kauditref03_Same.mono _ _ _ _ _ _ _ _ _
      | exact LeO.none _
      | refine LeO.ite ?_ ?_
      | refine LeO.bind ?_ (fun _ => ?_)
set_option maxHeartbeats 8000000 in
set_option maxRecDepth 100000 in
theorem kauditlaw03_RecordDiffer.calls (k : Nat) (A0 : Option Addr) (c0 : Nat) (l0 : List Int) (r : Bool) (w : World) (hG : GT 2 w) (hr0 : Kd.C (Kd.int .i64) w A0 l0.length l0) (hc0 : l0.length ≤ c0) (h : kauditlaw03_RecordDiffer.f k l0 = some r) :
    Calls Tryd.prog 9 #[.slice A0 l0.length c0] w fun e w' => e = .returned (.bool r) ∧ Below w.heap.size w w' := by
  have hu43 := Tryd.underlying43
  have HR0 := Aside0.mk hr0
  have HC0 := Aside0.mk hc0
  clear hr0 hc0
  have HG := Aside0.mk hG
  clear hG
  have HB := Aside0.mk (Below.refl w.heap.size w)
  have H : ((kauditmake_New.f l0).bind fun bt351 => ((kauditmake_Src_Record.f k bt351.1 bt351.2).bind fun bt354 => ((kauditmake_Src_N.f bt351.1 bt354.2.2.2.2 4).bind fun bt363 => (if bt363.1 = 0 then ((kauditmake_Src_Record.f k bt351.1 bt363.2).bind fun bt365 => (kauditlaw03_RecordDiffer.j0 k bt354.1 bt354.2.1 bt354.2.2.1 bt354.2.2.2.1 bt365.1 bt365.2.1 bt365.2.2.1 bt365.2.2.2.1)) else (if bt363.1 = 1 then ((kauditmake_Src_N.f bt351.1 bt363.2 2).bind fun bt372 => (kauditlaw03_RecordDiffer.j0 k bt354.1 bt354.2.1 bt354.2.2.1 bt354.2.2.2.1 bt354.1 (wrap64 (bt354.2.1 + bt372.1)) bt354.2.2.1 bt354.2.2.2.1)) else (if bt363.1 = 2 then (if ([] : List (S31)).length + bt354.2.2.2.1.length < 2932031007402 then ((some (([] : List (S31)) ++ bt354.2.2.2.1 : List (S31))).bind fun y374 => ((kauditmake_Src_Pair.f k bt351.1 bt363.2).bind fun bt377 => (if y374.length < 2932031007402 then (kauditlaw03_RecordDiffer.j0 k bt354.1 bt354.2.1 bt354.2.2.1 bt354.2.2.2.1 bt354.1 bt354.2.1 bt354.2.2.1 (y374 ++ [(⟨bt377.1, bt377.2.1, bt377.2.2.1, bt377.2.2.2.1⟩ : S31)])) else (none)))) else (none)) else (kauditlaw03_RecordDiffer.j0 k bt354.1 bt354.2.1 bt354.2.2.1 bt354.2.2.2.1 bt354.1 bt354.2.1 bt354.2.2.1 bt354.2.2.2.1))))))) = some r := h
  clear h
  replace H := Option.bind_eq_some_iff.mp H
  obtain ⟨⟨t351, t352⟩, A20, H⟩ := H
  replace H : ((kauditmake_Src_Record.f k t351 t352).bind fun bt354 => ((kauditmake_Src_N.f t351 bt354.2.2.2.2 4).bind fun bt363 => (if bt363.1 = 0 then ((kauditmake_Src_Record.f k t351 bt363.2).bind fun bt365 => (kauditlaw03_RecordDiffer.j0 k bt354.1 bt354.2.1 bt354.2.2.1 bt354.2.2.2.1 bt365.1 bt365.2.1 bt365.2.2.1 bt365.2.2.2.1)) else (if bt363.1 = 1 then ((kauditmake_Src_N.f t351 bt363.2 2).bind fun bt372 => (kauditlaw03_RecordDiffer.j0 k bt354.1 bt354.2.1 bt354.2.2.1 bt354.2.2.2.1 bt354.1 (wrap64 (bt354.2.1 + bt372.1)) bt354.2.2.1 bt354.2.2.2.1)) else (if bt363.1 = 2 then (if ([] : List (S31)).length + bt354.2.2.2.1.length < 2932031007402 then ((some (([] : List (S31)) ++ bt354.2.2.2.1 : List (S31))).bind fun y374 => ((kauditmake_Src_Pair.f k t351 bt363.2).bind fun bt377 => (if y374.length < 2932031007402 then (kauditlaw03_RecordDiffer.j0 k bt354.1 bt354.2.1 bt354.2.2.1 bt354.2.2.2.1 bt354.1 bt354.2.1 bt354.2.2.1 (y374 ++ [(⟨bt377.1, bt377.2.1, bt377.2.2.1, bt377.2.2.2.1⟩ : S31)])) else (none)))) else (none)) else (kauditlaw03_RecordDiffer.j0 k bt354.1 bt354.2.1 bt354.2.2.1 bt354.2.2.2.1 bt354.1 bt354.2.1 bt354.2.2.1 bt354.2.2.2.1)))))) = some r := H
  have A2 := Aside0.mk A20
  clear A20
  replace H := Option.bind_eq_some_iff.mp H
  obtain ⟨⟨t354, t355, t356, t357, t360⟩, A30, H⟩ := H
  replace H : ((kauditmake_Src_N.f t351 t360 4).bind fun bt363 => (if bt363.1 = 0 then ((kauditmake_Src_Record.f k t351 bt363.2).bind fun bt365 => (kauditlaw03_RecordDiffer.j0 k t354 t355 t356 t357 bt365.1 bt365.2.1 bt365.2.2.1 bt365.2.2.2.1)) else (if bt363.1 = 1 then ((kauditmake_Src_N.f t351 bt363.2 2).bind fun bt372 => (kauditlaw03_RecordDiffer.j0 k t354 t355 t356 t357 t354 (wrap64 (t355 + bt372.1)) t356 t357)) else (if bt363.1 = 2 then (if ([] : List (S31)).length + t357.length < 2932031007402 then ((some (([] : List (S31)) ++ t357 : List (S31))).bind fun y374 => ((kauditmake_Src_Pair.f k t351 bt363.2).bind fun bt377 => (if y374.length < 2932031007402 then (kauditlaw03_RecordDiffer.j0 k t354 t355 t356 t357 t354 t355 t356 (y374 ++ [(⟨bt377.1, bt377.2.1, bt377.2.2.1, bt377.2.2.2.1⟩ : S31)])) else (none)))) else (none)) else (kauditlaw03_RecordDiffer.j0 k t354 t355 t356 t357 t354 t355 t356 t357))))) = some r := H
  have A3 := Aside0.mk A30
  clear A30
  replace H := Option.bind_eq_some_iff.mp H
  obtain ⟨⟨t363, t364⟩, A40, H⟩ := H
  replace H : (if t363 = 0 then ((kauditmake_Src_Record.f k t351 t364).bind fun bt365 => (kauditlaw03_RecordDiffer.j0 k t354 t355 t356 t357 bt365.1 bt365.2.1 bt365.2.2.1 bt365.2.2.2.1)) else (if t363 = 1 then ((kauditmake_Src_N.f t351 t364 2).bind fun bt372 => (kauditlaw03_RecordDiffer.j0 k t354 t355 t356 t357 t354 (wrap64 (t355 + bt372.1)) t356 t357)) else (if t363 = 2 then (if ([] : List (S31)).length + t357.length < 2932031007402 then ((some (([] : List (S31)) ++ t357 : List (S31))).bind fun y374 => ((kauditmake_Src_Pair.f k t351 t364).bind fun bt377 => (if y374.length < 2932031007402 then (kauditlaw03_RecordDiffer.j0 k t354 t355 t356 t357 t354 t355 t356 (y374 ++ [(⟨bt377.1, bt377.2.1, bt377.2.2.1, bt377.2.2.2.1⟩ : S31)])) else (none)))) else (none)) else (kauditlaw03_RecordDiffer.j0 k t354 t355 t356 t357 t354 t355 t356 t357)))) = some r := H
  have A4 := Aside0.mk A40
  clear A40
  have HC5 := Aside0.mk H
  clear H
  go_enter Tryd.func9, Tryd.ntmps9
  go_upto_block 0 with (first | ((with_reducible refine gate_callee (f := 28) rfl ?_); refine goesL_ (some 11) rfl rfl Tryd.func28 (by kernel_rfl) rfl #[.slice A0 l0.length c0] rfl (by (try simp only [List.map_toArray, List.map_cons, List.map_nil]); first | done | rfl | (simp only [List.length_drop, List.length_take]; rfl)) ?_; (with_reducible refine (kauditmake_New.calls _ _ l0 t351 t352 w _ ?side1 ?side2 ?side3 A2.out).mono ?_); (case side1 => repeat (first | (with_reducible first | exact HB.out | apply below_alloc | apply pw_below_drewN | apply below_drew1) | exact HB.out)); (case side2 => exact HR0.out); (case side3 => exact HC0.out); rintro e w6 ⟨g353, rfl, hi, hb, hb2⟩; refine ⟨_, rfl, ?_⟩; have n0_ := Aside0.mk (hb); have n1_ := Aside0.mk (hi); clear HB; have HB := n0_; have HI353 := n1_; clear n0_ n1_; (try clear hb); (try clear hb2); (try clear hk); (try clear hi)) | ((with_reducible refine gate_callee (f := 34) rfl ?_); refine goesL_ (some 13) rfl rfl Tryd.func34 (by kernel_rfl) rfl #[.pointer (some ⟨g353, 0, none⟩)] rfl (by (try simp only [List.map_toArray, List.map_cons, List.map_nil]); first | done | rfl | (simp only [List.length_drop, List.length_take]; rfl)) ?_; (with_reducible refine (kauditmake_Src_Record.calls k g353 t351 t352 t354 t355 t356 t357 t360 w _ ?side1 ?side2 A3.out).mono ?_); (case side1 => repeat (first | (with_reducible first | exact HI353.out | apply IsS103.alloc | apply IsS103.drewN | apply IsS103.drew | apply IsS103.set_1) | exact HI353.out)); (case side2 => repeat (first | (with_reducible first | exact HB.out | apply below_alloc | apply pw_below_drewN | apply below_drew1 | refine below_set ?_ (IsS103.ge HI353.out)) | exact HB.out)); rintro e w7 ⟨v358, rfl, ho0, hi, hb, hk⟩; refine ⟨_, rfl, ?_⟩; have n0_ := Aside0.mk (Kd.R_lower ho0 (below_size (by repeat (first | (with_reducible first | exact HB.out | apply below_alloc | apply pw_below_drewN | apply below_drew1 | refine below_set ?_ (IsS103.ge HI353.out)) | exact HB.out)))); have n1_ := Aside0.mk (hb); have n2_ := Aside0.mk (hi); clear HB; clear HI353; have HO359 := n0_; have HB := n1_; have HI353 := n2_; clear n0_ n1_ n2_; (try clear hb); (try clear hb2); (try clear hk); (try clear hi); (try clear ho0)) | ((with_reducible refine gate_dst (N := 4) rfl ?_); refine box_event ?hg (N := 4) ?hd (cs := #[.int .i64 0, .int .i64 0, .int .i64 0, .slice none 0 0]) (t := 43) ?hr ?_; (case hd => rfl); (case hg => rfl); (case hr => first | (go_simp; done) | (go_simp; rfl)); intro gb361 hg w8 hbox hb; have n0_ := Aside0.mk (Kd.R_below (by (with_reducible repeat (first | apply Kd.R_alloc | apply Kd.R_drewN | apply Kd.R_drew)); exact HO359.out) hb); have n1_ := Aside0.mk (IsS103.below (by repeat (first | (with_reducible first | exact HI353.out | apply IsS103.alloc | apply IsS103.drewN | apply IsS103.drew | apply IsS103.set_1) | exact HI353.out)) hb); have n2_ := Aside0.mk (below_step (by repeat (first | (with_reducible first | exact HB.out | apply below_alloc | apply pw_below_drewN | apply below_drew1 | refine below_set ?_ (IsS103.ge HI353.out)) | exact HB.out)) hb); have n3_ := Aside0.mk (hbox); have n4_ := Aside0.mk ((by rw [hg]; exact (below_size (by repeat (first | (with_reducible first | exact HB.out | apply below_alloc | apply pw_below_drewN | apply below_drew1 | refine below_set ?_ (IsS103.ge HI353.out)) | exact HB.out))) : w.heap.size ≤ gb361)); have n5_ := Aside0.mk ((by rw [hg]; exact (below_size (by repeat (first | (with_reducible first | exact HB.out | apply below_alloc | apply pw_below_drewN | apply below_drew1 | refine below_set ?_ (IsS103.ge HI353.out)) | exact HB.out))) : w.heap.size ≤ gb361)); have n6_ := Aside0.mk ((by rw [hg]; exact Nat.ne_of_lt (IsS103.lt (show IsS103 w _ g353 t351 t360 from by repeat (first | (with_reducible first | exact HI353.out | apply IsS103.alloc | apply IsS103.drewN | apply IsS103.drew | apply IsS103.set_1) | exact HI353.out))) : g353 ≠ gb361)); have n7_ := Aside0.mk ((by rw [hg]; exact Nat.ne_of_gt (IsS103.lt (show IsS103 w _ g353 t351 t360 from by repeat (first | (with_reducible first | exact HI353.out | apply IsS103.alloc | apply IsS103.drewN | apply IsS103.drew | apply IsS103.set_1) | exact HI353.out))) : gb361 ≠ g353)); clear HO359; clear HI353; clear HB; have HO359 := n0_; have HI353 := n1_; have HB := n2_; have BK361 := n3_; have GW361 := n4_; have GE361 := n5_; have NB353_361 := n6_; have NB361_353 := n7_; clear n0_ n1_ n2_ n3_ n4_ n5_ n6_ n7_; clear hb hbox hg; have hnb9 := NB361_353.out; have hnc9 := NB353_361.out; have hcz10_0 : w8.cell? ⟨gb361, 0, none⟩ = some (.int .i64 0) := (blk_cell BK361.out 0).trans rfl; have hcz10_1 : w8.cell? ⟨gb361, 1, none⟩ = some (.int .i64 0) := (blk_cell BK361.out 1).trans rfl; have hcz10_2 : w8.cell? ⟨gb361, 2, none⟩ = some (.int .i64 0) := (blk_cell BK361.out 2).trans rfl; have hcz10_3 : w8.cell? ⟨gb361, 3, none⟩ = some (.slice none 0 0) := (blk_cell BK361.out 3).trans rfl; have hfz10_0 := blk_frozen BK361.out 0; have hfz10_1 := blk_frozen BK361.out 1; have hfz10_2 := blk_frozen BK361.out 2; have hfz10_3 := blk_frozen BK361.out 3; obtain ⟨Ao11, co11, eo11⟩ := Kd.R_slice HO359.out; subst eo11) | ((with_reducible refine gate_dst (N := 5) rfl ?_); refine box_event ?hg (N := 5) ?hd (cs := #[.int .i64 0, .int .i64 0, .int .i64 0, .slice none 0 0]) (t := 43) ?hr ?_; (case hd => rfl); (case hg => rfl); (case hr => first | (go_simp; done) | (go_simp; rfl)); intro gb362 hg w12 hbox hb; have n0_ := Aside0.mk (Kd.R_below (by (with_reducible repeat (first | apply Kd.R_alloc | apply Kd.R_drewN | apply Kd.R_drew)); exact (Kd.R_mono (Kd.R_far (p := ⟨gb361, 3, none⟩) (Kd.R_far (p := ⟨gb361, 2, none⟩) (Kd.R_far (p := ⟨gb361, 1, none⟩) (Kd.R_far (p := ⟨gb361, 0, none⟩) (Kd.R_types HO359.out BK361.out (by decide)) (fun _ hk => hk.2) (.int .i64 t354)) (fun _ hk => hk.2) (.int .i64 t355)) (fun _ hk => hk.2) (.int .i64 t356)) (fun _ hk => hk.2) (.slice Ao11 t357.length co11)) (fun _ h_ => h_.1))) hb); have n1_ := Aside0.mk (IsS103.below (show IsS103 w ((((w8.setCell ⟨gb361, 0, none⟩ (.int .i64 t354)).setCell ⟨gb361, 1, none⟩ (.int .i64 t355)).setCell ⟨gb361, 2, none⟩ (.int .i64 t356)).setCell ⟨gb361, 3, none⟩ (.slice Ao11 t357.length co11)) g353 t351 t360 from by repeat (first | (with_reducible first | exact HI353.out | apply IsS103.alloc | apply IsS103.drewN | apply IsS103.drew | apply IsS103.set_1 | refine IsS103.far ?_ NB353_361.out _) | exact HI353.out)) hb); have n2_ := Aside0.mk (blk_below (g := gb361) (o := .cells #[.int .i64 t354, .int .i64 t355, .int .i64 t356, .slice Ao11 t357.length co11] 43 (0, 0)) (by (with_reducible repeat (first | refine blk_drewN ?_ _ | refine blk_drew ?_ | refine blk_alloc ?_ _)); refine blk_put (cs := #[.int .i64 t354, .int .i64 t355, .int .i64 t356, .slice none 0 0]) ?_ 3 _ rfl; (with_reducible repeat (first | refine blk_drewN ?_ _ | refine blk_drew ?_ | refine blk_alloc ?_ _)); refine blk_put (cs := #[.int .i64 t354, .int .i64 t355, .int .i64 0, .slice none 0 0]) ?_ 2 _ rfl; (with_reducible repeat (first | refine blk_drewN ?_ _ | refine blk_drew ?_ | refine blk_alloc ?_ _)); refine blk_put (cs := #[.int .i64 t354, .int .i64 0, .int .i64 0, .slice none 0 0]) ?_ 1 _ rfl; (with_reducible repeat (first | refine blk_drewN ?_ _ | refine blk_drew ?_ | refine blk_alloc ?_ _)); refine blk_put (cs := #[.int .i64 0, .int .i64 0, .int .i64 0, .slice none 0 0]) ?_ 0 _ rfl; (with_reducible repeat (first | refine blk_drewN ?_ _ | refine blk_drew ?_ | refine blk_alloc ?_ _)); exact BK361.out) hb); have n3_ := Aside0.mk (below_step (by repeat (first | (with_reducible first | exact HB.out | apply below_alloc | apply pw_below_drewN | apply below_drew1 | refine below_set ?_ (IsS103.ge HI353.out) | refine below_set ?_ GE361.out) | exact HB.out)) hb); have n4_ := Aside0.mk (hbox); have n5_ := Aside0.mk ((by rw [hg]; exact (below_size (by repeat (first | (with_reducible first | exact HB.out | apply below_alloc | apply pw_below_drewN | apply below_drew1 | refine below_set ?_ (IsS103.ge HI353.out) | refine below_set ?_ GE361.out) | exact HB.out))) : w.heap.size ≤ gb362)); have n6_ := Aside0.mk ((by rw [hg]; exact (below_size (by repeat (first | (with_reducible first | exact HB.out | apply below_alloc | apply pw_below_drewN | apply below_drew1 | refine below_set ?_ (IsS103.ge HI353.out) | refine below_set ?_ GE361.out) | exact HB.out))) : w.heap.size ≤ gb362)); have n7_ := Aside0.mk ((by rw [hg]; exact Nat.ne_of_lt (blk_lt (g := gb361) (o := .cells #[.int .i64 t354, .int .i64 t355, .int .i64 t356, .slice Ao11 t357.length co11] 43 (0, 0)) (by (with_reducible repeat (first | refine blk_drewN ?_ _ | refine blk_drew ?_ | refine blk_alloc ?_ _)); refine blk_put (cs := #[.int .i64 t354, .int .i64 t355, .int .i64 t356, .slice none 0 0]) ?_ 3 _ rfl; (with_reducible repeat (first | refine blk_drewN ?_ _ | refine blk_drew ?_ | refine blk_alloc ?_ _)); refine blk_put (cs := #[.int .i64 t354, .int .i64 t355, .int .i64 0, .slice none 0 0]) ?_ 2 _ rfl; (with_reducible repeat (first | refine blk_drewN ?_ _ | refine blk_drew ?_ | refine blk_alloc ?_ _)); refine blk_put (cs := #[.int .i64 t354, .int .i64 0, .int .i64 0, .slice none 0 0]) ?_ 1 _ rfl; (with_reducible repeat (first | refine blk_drewN ?_ _ | refine blk_drew ?_ | refine blk_alloc ?_ _)); refine blk_put (cs := #[.int .i64 0, .int .i64 0, .int .i64 0, .slice none 0 0]) ?_ 0 _ rfl; (with_reducible repeat (first | refine blk_drewN ?_ _ | refine blk_drew ?_ | refine blk_alloc ?_ _)); exact BK361.out)) : gb361 ≠ gb362)); have n8_ := Aside0.mk ((by rw [hg]; exact Nat.ne_of_gt (blk_lt (g := gb361) (o := .cells #[.int .i64 t354, .int .i64 t355, .int .i64 t356, .slice Ao11 t357.length co11] 43 (0, 0)) (by (with_reducible repeat (first | refine blk_drewN ?_ _ | refine blk_drew ?_ | refine blk_alloc ?_ _)); refine blk_put (cs := #[.int .i64 t354, .int .i64 t355, .int .i64 t356, .slice none 0 0]) ?_ 3 _ rfl; (with_reducible repeat (first | refine blk_drewN ?_ _ | refine blk_drew ?_ | refine blk_alloc ?_ _)); refine blk_put (cs := #[.int .i64 t354, .int .i64 t355, .int .i64 0, .slice none 0 0]) ?_ 2 _ rfl; (with_reducible repeat (first | refine blk_drewN ?_ _ | refine blk_drew ?_ | refine blk_alloc ?_ _)); refine blk_put (cs := #[.int .i64 t354, .int .i64 0, .int .i64 0, .slice none 0 0]) ?_ 1 _ rfl; (with_reducible repeat (first | refine blk_drewN ?_ _ | refine blk_drew ?_ | refine blk_alloc ?_ _)); refine blk_put (cs := #[.int .i64 0, .int .i64 0, .int .i64 0, .slice none 0 0]) ?_ 0 _ rfl; (with_reducible repeat (first | refine blk_drewN ?_ _ | refine blk_drew ?_ | refine blk_alloc ?_ _)); exact BK361.out)) : gb362 ≠ gb361)); have n9_ := Aside0.mk ((by rw [hg]; exact Nat.ne_of_lt (IsS103.lt (show IsS103 w _ g353 t351 t360 from by repeat (first | (with_reducible first | exact HI353.out | apply IsS103.alloc | apply IsS103.drewN | apply IsS103.drew | apply IsS103.set_1 | refine IsS103.far ?_ NB353_361.out _) | exact HI353.out))) : g353 ≠ gb362)); have n10_ := Aside0.mk ((by rw [hg]; exact Nat.ne_of_gt (IsS103.lt (show IsS103 w _ g353 t351 t360 from by repeat (first | (with_reducible first | exact HI353.out | apply IsS103.alloc | apply IsS103.drewN | apply IsS103.drew | apply IsS103.set_1 | refine IsS103.far ?_ NB353_361.out _) | exact HI353.out))) : gb362 ≠ g353)); clear HO359; clear HI353; clear BK361; clear HB; have HO359 := n0_; have HI353 := n1_; have BK361 := n2_; have HB := n3_; have BK362 := n4_; have GW362 := n5_; have GE362 := n6_; have NB361_362 := n7_; have NB362_361 := n8_; have NB353_362 := n9_; have NB362_353 := n10_; clear n0_ n1_ n2_ n3_ n4_ n5_ n6_ n7_ n8_ n9_ n10_; clear hb hbox hg; have hnb13 := NB362_361.out; have hnc13 := NB361_362.out; have hnb14 := NB362_353.out; have hnc14 := NB353_362.out; have hcz15_0 : w12.cell? ⟨gb362, 0, none⟩ = some (.int .i64 0) := (blk_cell BK362.out 0).trans rfl; have hcz15_1 : w12.cell? ⟨gb362, 1, none⟩ = some (.int .i64 0) := (blk_cell BK362.out 1).trans rfl; have hcz15_2 : w12.cell? ⟨gb362, 2, none⟩ = some (.int .i64 0) := (blk_cell BK362.out 2).trans rfl; have hcz15_3 : w12.cell? ⟨gb362, 3, none⟩ = some (.slice none 0 0) := (blk_cell BK362.out 3).trans rfl; have hfz15_0 := blk_frozen BK362.out 0; have hfz15_1 := blk_frozen BK362.out 1; have hfz15_2 := blk_frozen BK362.out 2; have hfz15_3 := blk_frozen BK362.out 3) | ((with_reducible refine gate_callee (f := 30) rfl ?_); refine goesL_ (some 16) rfl rfl Tryd.func30 (by kernel_rfl) rfl #[.pointer (some ⟨g353, 0, none⟩), .int .i64 4] rfl (by (try simp only [List.map_toArray, List.map_cons, List.map_nil]); first | done | rfl | (simp only [List.length_drop, List.length_take]; rfl)) ?_; (with_reducible refine (kauditmake_Src_N.calls g353 t351 t360 4 t363 t364 w _ ?side1 ?side2 A4.out).mono ?_); (case side1 => repeat (first | (with_reducible first | exact HI353.out | apply IsS103.alloc | apply IsS103.drewN | apply IsS103.drew | apply IsS103.set_1 | refine IsS103.far ?_ NB353_361.out _ | refine IsS103.far ?_ NB353_362.out _) | exact HI353.out)); (case side2 => repeat (first | (with_reducible first | exact HB.out | apply below_alloc | apply pw_below_drewN | apply below_drew1 | refine below_set ?_ (IsS103.ge HI353.out) | refine below_set ?_ GE361.out | refine below_set ?_ GE362.out) | exact HB.out)); rintro e w16 ⟨rfl, hi, hb, hk⟩; refine ⟨_, rfl, ?_⟩; have n0_ := Aside0.mk (Kd.R_mono (Kd.R_keep (IsS103.apart (show IsS103 w _ g353 t351 t360 from by repeat (first | (with_reducible first | exact HI353.out | apply IsS103.alloc | apply IsS103.drewN | apply IsS103.drew | apply IsS103.set_1 | refine IsS103.far ?_ NB353_361.out _ | refine IsS103.far ?_ NB353_362.out _) | exact HI353.out)) (by (with_reducible repeat (first | apply Kd.R_alloc | apply Kd.R_drewN | apply Kd.R_drew)); exact (Kd.R_mono (Kd.R_far (p := ⟨gb362, 3, none⟩) (Kd.R_far (p := ⟨gb362, 2, none⟩) (Kd.R_far (p := ⟨gb362, 1, none⟩) (Kd.R_far (p := ⟨gb362, 0, none⟩) (Kd.R_types HO359.out BK362.out (by decide)) (fun _ hk => hk.2) (.int .i64 t354)) (fun _ hk => hk.2) (.int .i64 t355)) (fun _ hk => hk.2) (.int .i64 t356)) (fun _ hk => hk.2) (.slice Ao11 t357.length co11)) (fun _ h_ => h_.1))) (by decide)) hk (fun _ h => h.2)) (fun _ h => h.1)); have n1_ := Aside0.mk (KeepBut.blk hk (g' := gb361) (o := .cells #[.int .i64 t354, .int .i64 t355, .int .i64 t356, .slice Ao11 t357.length co11] 43 (0, 0)) (by (with_reducible repeat (first | refine blk_drewN ?_ _ | refine blk_drew ?_ | refine blk_alloc ?_ _)); refine blk_far ?_ NB361_362.out _; (with_reducible repeat (first | refine blk_drewN ?_ _ | refine blk_drew ?_ | refine blk_alloc ?_ _)); refine blk_far ?_ NB361_362.out _; (with_reducible repeat (first | refine blk_drewN ?_ _ | refine blk_drew ?_ | refine blk_alloc ?_ _)); refine blk_far ?_ NB361_362.out _; (with_reducible repeat (first | refine blk_drewN ?_ _ | refine blk_drew ?_ | refine blk_alloc ?_ _)); refine blk_far ?_ NB361_362.out _; (with_reducible repeat (first | refine blk_drewN ?_ _ | refine blk_drew ?_ | refine blk_alloc ?_ _)); exact BK361.out) NB361_353.out (by simp)); have n2_ := Aside0.mk (KeepBut.blk hk (g' := gb362) (o := .cells #[.int .i64 t354, .int .i64 t355, .int .i64 t356, .slice Ao11 t357.length co11] 43 (0, 0)) (by (with_reducible repeat (first | refine blk_drewN ?_ _ | refine blk_drew ?_ | refine blk_alloc ?_ _)); refine blk_put (cs := #[.int .i64 t354, .int .i64 t355, .int .i64 t356, .slice none 0 0]) ?_ 3 _ rfl; (with_reducible repeat (first | refine blk_drewN ?_ _ | refine blk_drew ?_ | refine blk_alloc ?_ _)); refine blk_put (cs := #[.int .i64 t354, .int .i64 t355, .int .i64 0, .slice none 0 0]) ?_ 2 _ rfl; (with_reducible repeat (first | refine blk_drewN ?_ _ | refine blk_drew ?_ | refine blk_alloc ?_ _)); refine blk_put (cs := #[.int .i64 t354, .int .i64 0, .int .i64 0, .slice none 0 0]) ?_ 1 _ rfl; (with_reducible repeat (first | refine blk_drewN ?_ _ | refine blk_drew ?_ | refine blk_alloc ?_ _)); refine blk_put (cs := #[.int .i64 0, .int .i64 0, .int .i64 0, .slice none 0 0]) ?_ 0 _ rfl; (with_reducible repeat (first | refine blk_drewN ?_ _ | refine blk_drew ?_ | refine blk_alloc ?_ _)); exact BK362.out) NB362_353.out (by simp)); have n3_ := Aside0.mk (hb); have n4_ := Aside0.mk (hi); clear HO359; clear BK361; clear BK362; clear HB; clear HI353; have HO359 := n0_; have BK361 := n1_; have BK362 := n2_; have HB := n3_; have HI353 := n4_; clear n0_ n1_ n2_ n3_ n4_; (try clear hb); (try clear hb2); (try clear hk); (try clear hi)))
  (try simp only [Act.put, List.setIfInBounds_toArray, List.set_cons_zero, List.set_cons_succ])
  go_cut [] (fun wc => ∃ (kq : Nat) (x363000_4 : Int) (x363001_4 : Int) (x363002_4 : Int) (x363003_4 : List (S31)) (u363003 : Value), Aside0 (kauditlaw03_RecordDiffer.j0 kq t354 t355 t356 t357 x363000_4 x363001_4 x363002_4 x363003_4 = some r) ∧ Aside0 (kq ≤ k) ∧ Aside0 (Kd.R k31 31 wc w.heap.size (fun _ => True) (.slice Ao11 t357.length co11) t357) ∧ Aside0 (Kd.R k31 31 wc w.heap.size (fun _ => True) u363003 x363003_4) ∧ Aside0 (wc.heap[gb361]? = some (.cells #[.int .i64 t354, .int .i64 t355, .int .i64 t356, (.slice Ao11 t357.length co11)] 43 (0, 0))) ∧ Aside0 (wc.heap[gb362]? = some (.cells #[.int .i64 x363000_4, .int .i64 x363001_4, .int .i64 x363002_4, u363003] 43 (0, 0))) ∧ Aside0 (Below w.heap.size w wc))
  case first =>
    have H := HC5.out
    clear HC5
    by_cases c17 : t363 = 0
    · rw [if_pos c17] at H
      have c17b0 : (t363 == 0) = true := beq_iff_eq.mpr c17
      have c17b1 : (t363 != 0) = false := bne_eq_false_iff_eq.mpr c17
      clear c17
      (first | rw [c17b0] | (simp only [i64_w, i32_w]; rw [c17b0]) | skip)
      replace H := Option.bind_eq_some_iff.mp H
      obtain ⟨⟨t365, t366, t367, t368, t371⟩, A180, H⟩ := H
      replace H : (kauditlaw03_RecordDiffer.j0 k t354 t355 t356 t357 t365 t366 t367 t368) = some r := H
      have A18 := Aside0.mk A180
      clear A180
      have H' := Aside0.mk H
      clear H
      go_wp2_with (first | ((with_reducible refine gate_callee (f := 34) rfl ?_); refine goesL_ (some 20) rfl rfl Tryd.func34 (by kernel_rfl) rfl #[.pointer (some ⟨g353, 0, none⟩)] rfl (by (try simp only [List.map_toArray, List.map_cons, List.map_nil]); first | done | rfl | (simp only [List.length_drop, List.length_take]; rfl)) ?_; (with_reducible refine (kauditmake_Src_Record.calls k g353 t351 t364 t365 t366 t367 t368 t371 w _ ?side1 ?side2 A18.out).mono ?_); (case side1 => repeat (first | (with_reducible first | exact HI353.out | apply IsS103.alloc | apply IsS103.drewN | apply IsS103.drew | apply IsS103.set_1 | refine IsS103.far ?_ NB353_361.out _ | refine IsS103.far ?_ NB353_362.out _) | exact HI353.out)); (case side2 => repeat (first | (with_reducible first | exact HB.out | apply below_alloc | apply pw_below_drewN | apply below_drew1 | refine below_set ?_ (IsS103.ge HI353.out) | refine below_set ?_ GE361.out | refine below_set ?_ GE362.out) | exact HB.out)); rintro e w19 ⟨v369, rfl, ho0, hi, hb, hk⟩; refine ⟨_, rfl, ?_⟩; have n0_ := Aside0.mk (Kd.R_mono (Kd.R_told (Kd.R_oldK (IsS103.apart (show IsS103 w _ g353 t351 t364 from by repeat (first | (with_reducible first | exact HI353.out | apply IsS103.alloc | apply IsS103.drewN | apply IsS103.drew | apply IsS103.set_1 | refine IsS103.far ?_ NB353_361.out _ | refine IsS103.far ?_ NB353_362.out _) | exact HI353.out)) (by (with_reducible repeat (first | apply Kd.R_alloc | apply Kd.R_drewN | apply Kd.R_drew)); exact HO359.out) (by decide)) hk) (Kd.R_base ho0)) (fun _ h_ => h_.1)); have n1_ := Aside0.mk (KeepBut.blk hk (g' := gb361) (o := .cells #[.int .i64 t354, .int .i64 t355, .int .i64 t356, .slice Ao11 t357.length co11] 43 (0, 0)) (by (with_reducible repeat (first | refine blk_drewN ?_ _ | refine blk_drew ?_ | refine blk_alloc ?_ _)); exact BK361.out) NB361_353.out (by simp)); have n2_ := Aside0.mk (KeepBut.blk hk (g' := gb362) (o := .cells #[.int .i64 t354, .int .i64 t355, .int .i64 t356, .slice Ao11 t357.length co11] 43 (0, 0)) (by (with_reducible repeat (first | refine blk_drewN ?_ _ | refine blk_drew ?_ | refine blk_alloc ?_ _)); exact BK362.out) NB362_353.out (by simp)); have n3_ := Aside0.mk (Kd.R_lower (Kd.R_new' ho0 (Kd.R_lt (by (with_reducible repeat (first | apply Kd.R_alloc | apply Kd.R_drewN | apply Kd.R_drew)); exact HO359.out))) (below_size (by repeat (first | (with_reducible first | exact HB.out | apply below_alloc | apply pw_below_drewN | apply below_drew1 | refine below_set ?_ (IsS103.ge HI353.out) | refine below_set ?_ GE361.out | refine below_set ?_ GE362.out) | exact HB.out)))); have n4_ := Aside0.mk (hb); have n5_ := Aside0.mk (hi); clear HO359; clear BK361; clear BK362; clear HB; clear HI353; have HO359 := n0_; have BK361 := n1_; have BK362 := n2_; have HO370 := n3_; have HB := n4_; have HI353 := n5_; clear n0_ n1_ n2_ n3_ n4_ n5_; (try clear hb); (try clear hb2); (try clear hk); (try clear hi); (try clear ho0); have hnb20 := NB362_361.out; have hnc20 := NB361_362.out; have hnb21 := NB362_353.out; have hnc21 := NB353_362.out; have hcz22_0 : w19.cell? ⟨gb362, 0, none⟩ = some (.int .i64 t354) := (blk_cell BK362.out 0).trans rfl; have hcz22_1 : w19.cell? ⟨gb362, 1, none⟩ = some (.int .i64 t355) := (blk_cell BK362.out 1).trans rfl; have hcz22_2 : w19.cell? ⟨gb362, 2, none⟩ = some (.int .i64 t356) := (blk_cell BK362.out 2).trans rfl; have hcz22_3 : w19.cell? ⟨gb362, 3, none⟩ = some (.slice Ao11 t357.length co11) := (blk_cell BK362.out 3).trans rfl; have hfz22_0 := blk_frozen BK362.out 0; have hfz22_1 := blk_frozen BK362.out 1; have hfz22_2 := blk_frozen BK362.out 2; have hfz22_3 := blk_frozen BK362.out 3; obtain ⟨Ao23, co23, eo23⟩ := Kd.R_slice HO370.out; subst eo23))
      go_meet
      case rel => exact ⟨_, (t365), (t366), (t367), (t368), (.slice Ao23 t368.length co23), H', ⟨by first | omega | exact Nat.le_refl _⟩, ⟨by (with_reducible repeat (first | apply Kd.R_alloc | apply Kd.R_drewN | apply Kd.R_drew)); exact Kd.R_mono (Kd.R_far (p := ⟨gb362, 3, none⟩) (Kd.R_far (p := ⟨gb362, 2, none⟩) (Kd.R_far (p := ⟨gb362, 1, none⟩) (Kd.R_far (p := ⟨gb362, 0, none⟩) (Kd.R_types HO359.out BK362.out (by decide)) (fun _ hk => hk.2) (.int .i64 t365)) (fun _ hk => hk.2) (.int .i64 t366)) (fun _ hk => hk.2) (.int .i64 t367)) (fun _ hk => hk.2) (.slice Ao23 t368.length co23)) (fun _ hk => by first | exact hk.1.2 | exact trivial)⟩, ⟨by (with_reducible repeat (first | apply Kd.R_alloc | apply Kd.R_drewN | apply Kd.R_drew)); exact Kd.R_mono (Kd.R_far (p := ⟨gb362, 3, none⟩) (Kd.R_far (p := ⟨gb362, 2, none⟩) (Kd.R_far (p := ⟨gb362, 1, none⟩) (Kd.R_far (p := ⟨gb362, 0, none⟩) (Kd.R_types HO370.out BK362.out (by decide)) (fun _ hk => hk.2) (.int .i64 t365)) (fun _ hk => hk.2) (.int .i64 t366)) (fun _ hk => hk.2) (.int .i64 t367)) (fun _ hk => hk.2) (.slice Ao23 t368.length co23)) (fun _ hk => by first | exact hk.1.2 | exact trivial)⟩, ⟨by (with_reducible repeat (first | refine blk_drewN ?_ _ | refine blk_drew ?_ | refine blk_alloc ?_ _)); refine blk_far ?_ NB361_362.out _; (with_reducible repeat (first | refine blk_drewN ?_ _ | refine blk_drew ?_ | refine blk_alloc ?_ _)); refine blk_far ?_ NB361_362.out _; (with_reducible repeat (first | refine blk_drewN ?_ _ | refine blk_drew ?_ | refine blk_alloc ?_ _)); refine blk_far ?_ NB361_362.out _; (with_reducible repeat (first | refine blk_drewN ?_ _ | refine blk_drew ?_ | refine blk_alloc ?_ _)); refine blk_far ?_ NB361_362.out _; (with_reducible repeat (first | refine blk_drewN ?_ _ | refine blk_drew ?_ | refine blk_alloc ?_ _)); exact BK361.out⟩, ⟨by (with_reducible repeat (first | refine blk_drewN ?_ _ | refine blk_drew ?_ | refine blk_alloc ?_ _)); refine blk_put (cs := #[.int .i64 t365, .int .i64 t366, .int .i64 t367, .slice Ao11 t357.length co11]) ?_ 3 _ rfl; (with_reducible repeat (first | refine blk_drewN ?_ _ | refine blk_drew ?_ | refine blk_alloc ?_ _)); refine blk_put (cs := #[.int .i64 t365, .int .i64 t366, .int .i64 t356, .slice Ao11 t357.length co11]) ?_ 2 _ rfl; (with_reducible repeat (first | refine blk_drewN ?_ _ | refine blk_drew ?_ | refine blk_alloc ?_ _)); refine blk_put (cs := #[.int .i64 t365, .int .i64 t355, .int .i64 t356, .slice Ao11 t357.length co11]) ?_ 1 _ rfl; (with_reducible repeat (first | refine blk_drewN ?_ _ | refine blk_drew ?_ | refine blk_alloc ?_ _)); refine blk_put (cs := #[.int .i64 t354, .int .i64 t355, .int .i64 t356, .slice Ao11 t357.length co11]) ?_ 0 _ rfl; (with_reducible repeat (first | refine blk_drewN ?_ _ | refine blk_drew ?_ | refine blk_alloc ?_ _)); exact BK362.out⟩, ⟨by repeat (first | (with_reducible first | exact HB.out | apply below_alloc | apply pw_below_drewN | apply below_drew1 | refine below_set ?_ (IsS103.ge HI353.out) | refine below_set ?_ GE361.out | refine below_set ?_ GE362.out) | exact HB.out)⟩⟩
    · rw [if_neg c17] at H
      have c17b0 : (t363 == 0) = false := beq_eq_false_iff_ne.mpr c17
      have c17b1 : (t363 != 0) = true := bne_iff_ne.mpr c17
      (first | rw [c17b0] | (simp only [i64_w, i32_w]; rw [c17b0]) | skip)
      by_cases c24 : t363 = 1
      · rw [if_pos c24] at H
        have c24b0 : (t363 == 1) = true := beq_iff_eq.mpr c24
        have c24b1 : (t363 != 1) = false := bne_eq_false_iff_eq.mpr c24
        clear c24
        replace H := Option.bind_eq_some_iff.mp H
        obtain ⟨⟨t372, t373⟩, A250, H⟩ := H
        replace H : (kauditlaw03_RecordDiffer.j0 k t354 t355 t356 t357 t354 (wrap64 (t355 + t372)) t356 t357) = some r := H
        have A25 := Aside0.mk A250
        clear A250
        have H' := Aside0.mk H
        clear H
        try go_wp2
        have n0_ := Aside0.mk (Kd.R_drew HO359.out)
        have n1_ := Aside0.mk (blk_drew BK361.out)
        have n2_ := Aside0.mk (blk_drew BK362.out)
        have n3_ := Aside0.mk (IsS103.drew HI353.out)
        have n4_ := Aside0.mk (below_drew1 HB.out)
        clear HO359
        clear BK361
        clear BK362
        clear HI353
        clear HB
        have HO359 := n0_
        have BK361 := n1_
        have BK362 := n2_
        have HI353 := n3_
        have HB := n4_
        clear n0_ n1_ n2_ n3_ n4_
        refine start_ (n := 7) (S := fun w' => w'.cell? ⟨gb362, 0, none⟩ = some (.int .i64 t354) ∧ w'.cell? ⟨gb362, 1, none⟩ = some (.int .i64 t355) ∧ w'.cell? ⟨gb362, 2, none⟩ = some (.int .i64 t356) ∧ w'.cell? ⟨gb362, 3, none⟩ = some (.slice Ao11 t357.length co11)) (ds := [6]) #[false, false, false, false, false, false, false] (by kernel_rfl) rfl rfl ⟨(blk_cell BK362.out 0).trans rfl, (blk_cell BK362.out 1).trans rfl, (blk_cell BK362.out 2).trans rfl, (blk_cell BK362.out 3).trans rfl⟩ (fun hHeld => ?_)
        generalize w16.drew = w26 at HO359 BK361 BK362 HI353 HB hHeld ⊢
        refine pure_ (i := 0) (N := some 23) (v := ?_) (a' := ?_) #[true, false, false, false, false, false, false] rfl rfl (by kernel_rfl) (fun _ _ _ h => h) (Or.inl ⟨by rfl, ?_⟩) ?_ ?_
        rotate_left
        · intro w'
          go_simp
          with_reducible rfl
        rotate_left
        · simp only [Act.put, List.setIfInBounds_toArray, List.set_cons_zero, List.set_cons_succ, i64_w, i32_w]
          rfl
        refine pure_ (i := 2) (N := some 25) (v := ?_) (a' := ?_) #[true, false, true, false, false, false, false] rfl rfl (by kernel_rfl) (fun _ _ _ h => h) (Or.inl ⟨by rfl, ?_⟩) ?_ ?_
        rotate_left
        · intro w'
          go_simp
          with_reducible rfl
        rotate_left
        · simp only [Act.put, List.setIfInBounds_toArray, List.set_cons_zero, List.set_cons_succ, i64_w, i32_w]
          rfl
        refine take_ (i := 1) (N := some 24) (v := ?_) (a' := ?_) #[true, true, true, false, false, false, false] rfl rfl (by kernel_rfl) (fun _ _ _ h => h) (Or.inl ⟨by rfl, ?_⟩) hHeld ?_ ?_
        rotate_left
        · rintro w' ⟨s0, s1, s2, s3⟩
          go_simp
          with_reducible rfl
        rotate_left
        · simp only [Act.put, List.setIfInBounds_toArray, List.set_cons_zero, List.set_cons_succ, i64_w, i32_w]
          rfl
        refine one_ (i := 3) (N := some 26) #[true, true, true, true, false, false, false] rfl rfl (by kernel_rfl) (by decide) (fun K hK => ?_)
        refine goes_ Tryd.func30 (by kernel_rfl) rfl #[.pointer (some ⟨g353, 0, none⟩), .int .i64 2] (by rfl) rfl rfl (by (try simp only [List.map_toArray, List.map_cons, List.map_nil]); first | done | rfl | (simp only [List.length_drop, List.length_take]; rfl)) ?_
        with_reducible refine (kauditmake_Src_N.calls g353 t351 t364 2 t372 t373 w _ ?side1 ?side2 A25.out).mono ?_
        (case side1 => repeat (first | (with_reducible first | exact HI353.out | apply IsS103.alloc | apply IsS103.drewN | apply IsS103.drew | apply IsS103.set_1 | refine IsS103.far ?_ NB353_361.out _ | refine IsS103.far ?_ NB353_362.out _) | exact HI353.out))
        (case side2 => repeat (first | (with_reducible first | exact HB.out | apply below_alloc | apply pw_below_drewN | apply below_drew1 | refine below_set ?_ (IsS103.ge HI353.out) | refine below_set ?_ GE361.out | refine below_set ?_ GE362.out) | exact HB.out))
        rintro e w27 ⟨rfl, hi, hb, hk⟩
        refine ⟨_, rfl, ?_⟩
        have n0_ := Aside0.mk (Kd.R_mono (Kd.R_keep (IsS103.apart (show IsS103 w _ g353 t351 t364 from by repeat (first | (with_reducible first | exact HI353.out | apply IsS103.alloc | apply IsS103.drewN | apply IsS103.drew | apply IsS103.set_1 | refine IsS103.far ?_ NB353_361.out _ | refine IsS103.far ?_ NB353_362.out _) | exact HI353.out)) (by (with_reducible repeat (first | apply Kd.R_alloc | apply Kd.R_drewN | apply Kd.R_drew)); exact HO359.out) (by decide)) hk (fun _ h => h.2)) (fun _ h => h.1))
        have n1_ := Aside0.mk (KeepBut.blk hk (g' := gb361) (o := .cells #[.int .i64 t354, .int .i64 t355, .int .i64 t356, .slice Ao11 t357.length co11] 43 (0, 0)) (by (with_reducible repeat (first | refine blk_drewN ?_ _ | refine blk_drew ?_ | refine blk_alloc ?_ _)); exact BK361.out) NB361_353.out (by simp))
        have n2_ := Aside0.mk (KeepBut.blk hk (g' := gb362) (o := .cells #[.int .i64 t354, .int .i64 t355, .int .i64 t356, .slice Ao11 t357.length co11] 43 (0, 0)) (by (with_reducible repeat (first | refine blk_drewN ?_ _ | refine blk_drew ?_ | refine blk_alloc ?_ _)); exact BK362.out) NB362_353.out (by simp))
        have n3_ := Aside0.mk (hb)
        have n4_ := Aside0.mk (hi)
        clear HO359
        clear BK361
        clear BK362
        clear HB
        clear HI353
        have HO359 := n0_
        have BK361 := n1_
        have BK362 := n2_
        have HB := n3_
        have HI353 := n4_
        clear n0_ n1_ n2_ n3_ n4_
        (try clear hb)
        (try clear hb2)
        (try clear hk)
        (try clear hi)
        refine hK.out _ _ ⟨(blk_cell BK362.out 0).trans rfl, (blk_cell BK362.out 1).trans rfl, (blk_cell BK362.out 2).trans rfl, (blk_cell BK362.out 3).trans rfl⟩ (fun hHeld => ?_)
        clear hK K
        refine norm_ (a' := ?_) ?_ ?_
        rotate_left
        · show Act.put _ (some 26) _ = _
          simp only [Act.put, List.setIfInBounds_toArray, List.set_cons_zero, List.set_cons_succ, i64_w, i32_w]
          rfl
        refine pure_ (i := 4) (N := some 27) (v := ?_) (a' := ?_) #[true, true, true, true, true, false, false] rfl rfl (by kernel_rfl) (fun _ _ _ h => h) (Or.inl ⟨by rfl, ?_⟩) ?_ ?_
        rotate_left
        · intro w'
          go_simp
          with_reducible rfl
        rotate_left
        · simp only [Act.put, List.setIfInBounds_toArray, List.set_cons_zero, List.set_cons_succ, i64_w, i32_w]
          rfl
        refine pure_ (i := 5) (N := some 28) (v := ?_) (a' := ?_) #[true, true, true, true, true, true, false] rfl rfl (by kernel_rfl) (fun _ _ _ h => h) (Or.inl ⟨by rfl, ?_⟩) ?_ ?_
        rotate_left
        · intro w'
          go_simp
          with_reducible rfl
        rotate_left
        · simp only [Act.put, List.setIfInBounds_toArray, List.set_cons_zero, List.set_cons_succ, i64_w, i32_w]
          rfl
        refine last_ (i := 6) (N := none) #[true, true, true, true, true, true, true] rfl rfl (by kernel_rfl) (by decide) (fun K hK => ?_)
        have hs28 : w27.cell? ⟨gb362, 1, none⟩ = some (.int .i64 t355) := (blk_cell BK362.out 1).trans rfl
        have hfs28 := blk_frozen BK362.out 1
        have hns28_0 := NB361_362.out
        have hms28_0 := NB362_361.out
        refine skip_ (w1 := ?_) (by rfl) rfl ?_ ?_
        rotate_left
        · go_simp
          rfl
        refine hK.out _ _ ?_
        clear hK K
        refine done_ (by kernel_rfl) ?_
        try go_wp2
        go_meet
        case rel => exact ⟨_, (t354), (wrap64 (t355 + t372)), (t356), (t357), (.slice Ao11 t357.length co11), H', ⟨by first | omega | exact Nat.le_refl _⟩, ⟨by (with_reducible repeat (first | apply Kd.R_alloc | apply Kd.R_drewN | apply Kd.R_drew)); exact Kd.R_mono (Kd.R_far (p := ⟨gb362, 1, none⟩) (Kd.R_types HO359.out BK362.out (by decide)) (fun _ hk => hk.2) (.int .i64 (wrap64 (t355 + t372)))) (fun _ hk => trivial)⟩, ⟨by (with_reducible repeat (first | apply Kd.R_alloc | apply Kd.R_drewN | apply Kd.R_drew)); exact Kd.R_mono (Kd.R_far (p := ⟨gb362, 1, none⟩) (Kd.R_types HO359.out BK362.out (by decide)) (fun _ hk => hk.2) (.int .i64 (wrap64 (t355 + t372)))) (fun _ hk => trivial)⟩, ⟨by (with_reducible repeat (first | refine blk_drewN ?_ _ | refine blk_drew ?_ | refine blk_alloc ?_ _)); refine blk_far ?_ NB361_362.out _; (with_reducible repeat (first | refine blk_drewN ?_ _ | refine blk_drew ?_ | refine blk_alloc ?_ _)); exact BK361.out⟩, ⟨by (with_reducible repeat (first | refine blk_drewN ?_ _ | refine blk_drew ?_ | refine blk_alloc ?_ _)); refine blk_put (cs := #[.int .i64 t354, .int .i64 t355, .int .i64 t356, .slice Ao11 t357.length co11]) ?_ 1 _ rfl; (with_reducible repeat (first | refine blk_drewN ?_ _ | refine blk_drew ?_ | refine blk_alloc ?_ _)); exact BK362.out⟩, ⟨by repeat (first | (with_reducible first | exact HB.out | apply below_alloc | apply pw_below_drewN | apply below_drew1 | refine below_set ?_ (IsS103.ge HI353.out) | refine below_set ?_ GE361.out | refine below_set ?_ GE362.out) | exact HB.out)⟩⟩
      · rw [if_neg c24] at H
        have c24b0 : (t363 == 1) = false := beq_eq_false_iff_ne.mpr c24
        have c24b1 : (t363 != 1) = true := bne_iff_ne.mpr c24
        by_cases c29 : t363 = 2
        · rw [if_pos c29] at H
          have c29b0 : (t363 == 2) = true := beq_iff_eq.mpr c29
          have c29b1 : (t363 != 2) = false := bne_eq_false_iff_eq.mpr c29
          clear c29
          by_cases c30 : ([] : List (S31)).length + t357.length < 2932031007402
          · rw [if_pos c30] at H
            have LMc30 := Aside0.mk c30
            clear c30
            obtain ⟨y374, hy374⟩ : ∃ y_ : List (S31), y_ = (([] : List (S31)) ++ t357) := ⟨_, rfl⟩
            replace H : ((kauditmake_Src_Pair.f k t351 t364).bind fun bt377 => (if y374.length < 2932031007402 then (kauditlaw03_RecordDiffer.j0 k t354 t355 t356 t357 t354 t355 t356 (y374 ++ [(⟨bt377.1, bt377.2.1, bt377.2.2.1, bt377.2.2.2.1⟩ : S31)])) else (none))) = some r := by first | (rw [hy374]; with_reducible exact H) | (have H2_ := (Option.bind_some _ _).symm.trans H; rw [hy374]; with_reducible exact H2_) | (have H2_ := (Option.bind_some _ _).symm.trans H; with_reducible exact H2_) | with_reducible exact H | (rw [hy374]; exact H) | exact H
            have Ny374 := Aside0.mk hy374
            clear hy374
            replace H := Option.bind_eq_some_iff.mp H
            obtain ⟨⟨t377, t378, t379, t380, t381⟩, A310, H⟩ := H
            replace H : (if y374.length < 2932031007402 then (kauditlaw03_RecordDiffer.j0 k t354 t355 t356 t357 t354 t355 t356 (y374 ++ [(⟨t377, t378, t379, t380⟩ : S31)])) else (none)) = some r := H
            have A31 := Aside0.mk A310
            clear A310
            by_cases c32 : y374.length < 2932031007402
            · rw [if_pos c32] at H
              have LMc32 := Aside0.mk c32
              clear c32
              obtain ⟨y382, hy382⟩ : ∃ y_ : List (S31), y_ = (y374 ++ [(⟨t377, t378, t379, t380⟩ : S31)]) := ⟨_, rfl⟩
              replace H : (kauditlaw03_RecordDiffer.j0 k t354 t355 t356 t357 t354 t355 t356 y382) = some r := by first | (rw [hy382]; with_reducible exact H) | (have H2_ := (Option.bind_some _ _).symm.trans H; rw [hy382]; with_reducible exact H2_) | (have H2_ := (Option.bind_some _ _).symm.trans H; with_reducible exact H2_) | with_reducible exact H | (rw [hy382]; exact H) | exact H
              have Ny382 := Aside0.mk hy382
              clear hy382
              have H' := Aside0.mk H
              clear H
              have hnb33 := NB361_362.out
              have hnc33 := NB362_361.out
              have hnb34 := NB361_353.out
              have hnc34 := NB353_361.out
              have hcz35_0 : w16.cell? ⟨gb361, 0, none⟩ = some (.int .i64 t354) := (blk_cell BK361.out 0).trans rfl
              have hcz35_1 : w16.cell? ⟨gb361, 1, none⟩ = some (.int .i64 t355) := (blk_cell BK361.out 1).trans rfl
              have hcz35_2 : w16.cell? ⟨gb361, 2, none⟩ = some (.int .i64 t356) := (blk_cell BK361.out 2).trans rfl
              have hcz35_3 : w16.cell? ⟨gb361, 3, none⟩ = some (.slice Ao11 t357.length co11) := (blk_cell BK361.out 3).trans rfl
              have hfz35_0 := blk_frozen BK361.out 0
              have hfz35_1 := blk_frozen BK361.out 1
              have hfz35_2 := blk_frozen BK361.out 2
              have hfz35_3 := blk_frozen BK361.out 3
              go_wp2_with (first | ((with_reducible refine gate_builtin (b := .append) (xs := #[.const (.slice none 0 0), .tmp 32]) rfl ?_); at_builtin; refine Kd.R_append_rows k31 (w0 := w) w.heap.size rfl (.const (.slice none 0 0)) (.tmp 32) 41 31 (.agg #[(.string ⟨#[]⟩), (.int .i64 0), (.int .i64 0), (.string ⟨#[]⟩)]) 48 rfl Tryd.underlying41 info31 rfl (by decide) (by omega) (.slice none 0 0) ([] : List (S31)) t357 _ _ _ (fun k_ => some k_ ≠ (.slice Ao11 t357.length co11 : Value).ownBlock) (fun _ => False) rfl rfl ?aO ?aR (fun _ _ h => h) (fun _ h => h.elim) ?aF ?aB ?aS ?aL ?_; (case aR => repeat (first | exact (Kd.R_reads' HO359.out).2.2 | (with_reducible refine Kd.C_alloc ?_ _) | (with_reducible refine Kd.C_drewN ?_ _) | (with_reducible refine Kd.C_drew ?_))); (case aB => exact (by repeat (first | (with_reducible first | exact HB.out | apply below_alloc | apply pw_below_drewN | apply below_drew1 | refine below_set ?_ (IsS103.ge HI353.out) | refine below_set ?_ GE361.out | refine below_set ?_ GE362.out) | exact HB.out))); (case aF => exact (fun k_ hk => Kd.fresh' (Kd.R_lt (by (with_reducible repeat (first | apply Kd.R_alloc | apply Kd.R_drewN | apply Kd.R_drew)); exact HO359.out)) k_ hk)); (case aO => exact ((Kd.R_nil _ _ _ _ (fun k_ => some k_ ≠ (.slice Ao11 t357.length co11 : Value).ownBlock)))); (case aS => exact (below_size (by repeat (first | (with_reducible first | exact HB.out | apply below_alloc | apply pw_below_drewN | apply below_drew1 | refine below_set ?_ (IsS103.ge HI353.out) | refine below_set ?_ GE361.out | refine below_set ?_ GE362.out) | exact HB.out)))); (case aL => have := LMc30.out; omega); intro v375 w36 ho hb hg hat; rw [← Ny374.out] at ho; have n0_ := Aside0.mk (IsS103.grown (by repeat (first | (with_reducible first | exact HI353.out | apply IsS103.alloc | apply IsS103.drewN | apply IsS103.drew | apply IsS103.set_1 | refine IsS103.far ?_ NB353_361.out _ | refine IsS103.far ?_ NB353_362.out _) | exact HI353.out)) hg (by simp [Value.ownBlock])); have n1_ := Aside0.mk (Kd.R_after (Kd.R_apart_nil (by (with_reducible repeat (first | apply Kd.R_alloc | apply Kd.R_drewN | apply Kd.R_drew)); exact HO359.out)) hg hat); have n2_ := Aside0.mk (blk_grown (g := gb361) (o := .cells #[.int .i64 t354, .int .i64 t355, .int .i64 t356, .slice Ao11 t357.length co11] 43 (0, 0)) (by (with_reducible repeat (first | refine blk_drewN ?_ _ | refine blk_drew ?_ | refine blk_alloc ?_ _)); exact BK361.out) hg (by simp [Value.ownBlock])); have n3_ := Aside0.mk (blk_grown (g := gb362) (o := .cells #[.int .i64 t354, .int .i64 t355, .int .i64 t356, .slice Ao11 t357.length co11] 43 (0, 0)) (by (with_reducible repeat (first | refine blk_drewN ?_ _ | refine blk_drew ?_ | refine blk_alloc ?_ _)); exact BK362.out) hg (by simp [Value.ownBlock])); have n4_ := Aside0.mk (hb); have n5_ := Aside0.mk (ho); clear HI353; clear HO359; clear BK361; clear BK362; clear HB; have HI353 := n0_; have HO359 := n1_; have BK361 := n2_; have BK362 := n3_; have HB := n4_; have HO376 := n5_; clear n0_ n1_ n2_ n3_ n4_ n5_; clear ho hb hg hat) | ((with_reducible refine gate_callee (f := 29) rfl ?_); refine goesL_ (some 35) rfl rfl Tryd.func29 (by kernel_rfl) rfl #[.pointer (some ⟨g353, 0, none⟩)] rfl (by (try simp only [List.map_toArray, List.map_cons, List.map_nil]); first | done | rfl | (simp only [List.length_drop, List.length_take]; rfl)) ?_; (with_reducible refine (kauditmake_Src_Pair.calls k g353 t351 t364 t377 t378 t379 t380 t381 w _ ?side1 ?side2 A31.out).mono ?_); (case side1 => repeat (first | (with_reducible first | exact HI353.out | apply IsS103.alloc | apply IsS103.drewN | apply IsS103.drew | apply IsS103.set_1 | refine IsS103.far ?_ NB353_361.out _ | refine IsS103.far ?_ NB353_362.out _) | exact HI353.out)); (case side2 => repeat (first | (with_reducible first | exact HB.out | apply below_alloc | apply pw_below_drewN | apply below_drew1 | refine below_set ?_ (IsS103.ge HI353.out) | refine below_set ?_ GE361.out | refine below_set ?_ GE362.out) | exact HB.out)); rintro e w37 ⟨rfl, hi, hb, hk⟩; refine ⟨_, rfl, ?_⟩; have n0_ := Aside0.mk (Kd.R_mono (Kd.R_keep (IsS103.apart (show IsS103 w _ g353 t351 t364 from by repeat (first | (with_reducible first | exact HI353.out | apply IsS103.alloc | apply IsS103.drewN | apply IsS103.drew | apply IsS103.set_1 | refine IsS103.far ?_ NB353_361.out _ | refine IsS103.far ?_ NB353_362.out _) | exact HI353.out)) (by (with_reducible repeat (first | apply Kd.R_alloc | apply Kd.R_drewN | apply Kd.R_drew)); exact HO359.out) (by decide)) hk (fun _ h => h.2)) (fun _ h => h.1)); have n1_ := Aside0.mk (KeepBut.blk hk (g' := gb361) (o := .cells #[.int .i64 t354, .int .i64 t355, .int .i64 t356, .slice Ao11 t357.length co11] 43 (0, 0)) (by (with_reducible repeat (first | refine blk_drewN ?_ _ | refine blk_drew ?_ | refine blk_alloc ?_ _)); exact BK361.out) NB361_353.out (by simp)); have n2_ := Aside0.mk (KeepBut.blk hk (g' := gb362) (o := .cells #[.int .i64 t354, .int .i64 t355, .int .i64 t356, .slice Ao11 t357.length co11] 43 (0, 0)) (by (with_reducible repeat (first | refine blk_drewN ?_ _ | refine blk_drew ?_ | refine blk_alloc ?_ _)); exact BK362.out) NB362_353.out (by simp)); have n3_ := Aside0.mk (Kd.R_mono (Kd.R_keep (IsS103.apart (show IsS103 w _ g353 t351 t364 from by repeat (first | (with_reducible first | exact HI353.out | apply IsS103.alloc | apply IsS103.drewN | apply IsS103.drew | apply IsS103.set_1 | refine IsS103.far ?_ NB353_361.out _ | refine IsS103.far ?_ NB353_362.out _) | exact HI353.out)) (by (with_reducible repeat (first | apply Kd.R_alloc | apply Kd.R_drewN | apply Kd.R_drew)); exact HO376.out) (by decide)) hk (fun _ h => h.2)) (fun _ h => h.1)); have n4_ := Aside0.mk (hb); have n5_ := Aside0.mk (hi); clear HO359; clear BK361; clear BK362; clear HO376; clear HB; clear HI353; have HO359 := n0_; have BK361 := n1_; have BK362 := n2_; have HO376 := n3_; have HB := n4_; have HI353 := n5_; clear n0_ n1_ n2_ n3_ n4_ n5_; (try clear hb); (try clear hb2); (try clear hk); (try clear hi)) | ((with_reducible refine gate_builtin (b := .append) (xs := #[.tmp 33, .tmp 36]) rfl ?_); at_builtin; refine Kd.R_append k31 (w0 := w) w.heap.size rfl (.tmp 33) (.tmp 36) 41 31 (.agg #[(.string ⟨#[]⟩), (.int .i64 0), (.int .i64 0), (.string ⟨#[]⟩)]) 48 rfl Tryd.underlying41 info31 rfl (by decide) (by omega) v375 y374 (⟨t377, t378, t379, t380⟩ : S31) [.string t377, .int .i64 t378, .int .i64 t379, .string t380] (fun k_ => some k_ ≠ (.slice Ao11 t357.length co11 : Value).ownBlock) (fun _ => False) rfl rfl ?aP (fun _ hk => hk.elim) ?aF ?aO ?aB ?aS ?aL ?_; (case aP => exact k31_mkM _ _ _ (⟨t377, t378, t379, t380⟩ : S31)); (case aB => exact (by repeat (first | (with_reducible first | exact HB.out | apply below_alloc | apply pw_below_drewN | apply below_drew1 | refine below_set ?_ (IsS103.ge HI353.out) | refine below_set ?_ GE361.out | refine below_set ?_ GE362.out) | exact HB.out))); (case aF => exact (fun k_ hk => Kd.fresh' (Kd.R_lt (by (with_reducible repeat (first | apply Kd.R_alloc | apply Kd.R_drewN | apply Kd.R_drew)); exact HO359.out)) k_ hk)); (case aO => exact (by (with_reducible repeat (first | apply Kd.R_alloc | apply Kd.R_drewN | apply Kd.R_drew)); exact HO376.out)); (case aS => exact (below_size (by repeat (first | (with_reducible first | exact HB.out | apply below_alloc | apply pw_below_drewN | apply below_drew1 | refine below_set ?_ (IsS103.ge HI353.out) | refine below_set ?_ GE361.out | refine below_set ?_ GE362.out) | exact HB.out)))); (case aL => have := LMc32.out; omega); intro v383 w38 ho hb hg hat; rw [← Ny382.out] at ho; have n0_ := Aside0.mk (IsS103.grown (by repeat (first | (with_reducible first | exact HI353.out | apply IsS103.alloc | apply IsS103.drewN | apply IsS103.drew | apply IsS103.set_1 | refine IsS103.far ?_ NB353_361.out _ | refine IsS103.far ?_ NB353_362.out _) | exact HI353.out)) hg (IsS103.own_ne HI353.out HO376.out (by decide))); have n1_ := Aside0.mk (Kd.R_after (ok := (fun _ => True)) (by (with_reducible repeat (first | apply Kd.R_alloc | apply Kd.R_drewN | apply Kd.R_drew)); exact HO359.out) hg hat); have n2_ := Aside0.mk (blk_grown (g := gb361) (o := .cells #[.int .i64 t354, .int .i64 t355, .int .i64 t356, .slice Ao11 t357.length co11] 43 (0, 0)) (by (with_reducible repeat (first | refine blk_drewN ?_ _ | refine blk_drew ?_ | refine blk_alloc ?_ _)); exact BK361.out) hg (Kd.R_ne HO376.out BK361.out (by decide))); have n3_ := Aside0.mk (blk_grown (g := gb362) (o := .cells #[.int .i64 t354, .int .i64 t355, .int .i64 t356, .slice Ao11 t357.length co11] 43 (0, 0)) (by (with_reducible repeat (first | refine blk_drewN ?_ _ | refine blk_drew ?_ | refine blk_alloc ?_ _)); exact BK362.out) hg (Kd.R_ne HO376.out BK362.out (by decide))); have n4_ := Aside0.mk (hb); have n5_ := Aside0.mk (ho); clear HI353; clear HO359; clear BK361; clear BK362; clear HB; clear HO376; have HI353 := n0_; have HO359 := n1_; have BK361 := n2_; have BK362 := n3_; have HB := n4_; have HO384 := n5_; clear n0_ n1_ n2_ n3_ n4_ n5_; clear ho hb hg hat; obtain ⟨Ao39, co39, eo39⟩ := Kd.R_slice HO384.out; subst eo39; have hnb40 := NB362_353.out; have hnc40 := NB353_362.out; have hcz41_0 : w38.cell? ⟨gb362, 0, none⟩ = some (.int .i64 t354) := (blk_cell BK362.out 0).trans rfl; have hcz41_1 : w38.cell? ⟨gb362, 1, none⟩ = some (.int .i64 t355) := (blk_cell BK362.out 1).trans rfl; have hcz41_2 : w38.cell? ⟨gb362, 2, none⟩ = some (.int .i64 t356) := (blk_cell BK362.out 2).trans rfl; have hcz41_3 : w38.cell? ⟨gb362, 3, none⟩ = some (.slice Ao11 t357.length co11) := (blk_cell BK362.out 3).trans rfl; have hfz41_0 := blk_frozen BK362.out 0; have hfz41_1 := blk_frozen BK362.out 1; have hfz41_2 := blk_frozen BK362.out 2; have hfz41_3 := blk_frozen BK362.out 3))
              go_meet
              case rel => exact ⟨_, (t354), (t355), (t356), (y382), (.slice Ao39 y382.length co39), H', ⟨by first | omega | exact Nat.le_refl _⟩, ⟨by (with_reducible repeat (first | apply Kd.R_alloc | apply Kd.R_drewN | apply Kd.R_drew)); exact Kd.R_mono (Kd.R_far (p := ⟨gb362, 3, none⟩) (Kd.R_types HO359.out BK362.out (by decide)) (fun _ hk => hk.2) (.slice Ao39 y382.length co39)) (fun _ hk => by first | exact hk.1.2 | exact trivial)⟩, ⟨by (with_reducible repeat (first | apply Kd.R_alloc | apply Kd.R_drewN | apply Kd.R_drew)); exact Kd.R_mono (Kd.R_far (p := ⟨gb362, 3, none⟩) (Kd.R_types HO384.out BK362.out (by decide)) (fun _ hk => hk.2) (.slice Ao39 y382.length co39)) (fun _ hk => by first | exact hk.1 | exact trivial)⟩, ⟨by (with_reducible repeat (first | refine blk_drewN ?_ _ | refine blk_drew ?_ | refine blk_alloc ?_ _)); refine blk_far ?_ NB361_362.out _; (with_reducible repeat (first | refine blk_drewN ?_ _ | refine blk_drew ?_ | refine blk_alloc ?_ _)); exact BK361.out⟩, ⟨by (with_reducible repeat (first | refine blk_drewN ?_ _ | refine blk_drew ?_ | refine blk_alloc ?_ _)); refine blk_put (cs := #[.int .i64 t354, .int .i64 t355, .int .i64 t356, .slice Ao11 t357.length co11]) ?_ 3 _ rfl; (with_reducible repeat (first | refine blk_drewN ?_ _ | refine blk_drew ?_ | refine blk_alloc ?_ _)); exact BK362.out⟩, ⟨by repeat (first | (with_reducible first | exact HB.out | apply below_alloc | apply pw_below_drewN | apply below_drew1 | refine below_set ?_ (IsS103.ge HI353.out) | refine below_set ?_ GE361.out | refine below_set ?_ GE362.out) | exact HB.out)⟩⟩
            · rw [if_neg c32] at H
              exact absurd H (by simp)
          · rw [if_neg c30] at H
            exact absurd H (by simp)
        · rw [if_neg c29] at H
          have c29b0 : (t363 == 2) = false := beq_eq_false_iff_ne.mpr c29
          have c29b1 : (t363 != 2) = true := bne_iff_ne.mpr c29
          have H' := Aside0.mk H
          clear H
          go_wp2
          go_meet
          case rel => exact ⟨_, (t354), (t355), (t356), (t357), (.slice Ao11 t357.length co11), H', ⟨by first | omega | exact Nat.le_refl _⟩, ⟨by (with_reducible repeat (first | apply Kd.R_alloc | apply Kd.R_drewN | apply Kd.R_drew)); exact HO359.out⟩, ⟨by (with_reducible repeat (first | apply Kd.R_alloc | apply Kd.R_drewN | apply Kd.R_drew)); exact HO359.out⟩, ⟨by (with_reducible repeat (first | refine blk_drewN ?_ _ | refine blk_drew ?_ | refine blk_alloc ?_ _)); exact BK361.out⟩, ⟨by (with_reducible repeat (first | refine blk_drewN ?_ _ | refine blk_drew ?_ | refine blk_alloc ?_ _)); exact BK362.out⟩, ⟨by repeat (first | (with_reducible first | exact HB.out | apply below_alloc | apply pw_below_drewN | apply below_drew1 | refine below_set ?_ (IsS103.ge HI353.out) | refine below_set ?_ GE361.out | refine below_set ?_ GE362.out) | exact HB.out)⟩⟩
  case rest =>
    clear HC5
    try clear c1
    try clear c2
    try clear p2
    try clear c3
    try clear c4
    try clear p6
    try clear c9
    try clear c13
    try clear c14
    try clear c17
    try clear c17b0
    try clear c17b1
    try clear c20
    try clear c21
    try clear c24
    try clear c24b0
    try clear c24b1
    try clear c28
    try clear c29
    try clear c29b0
    try clear c29b1
    try clear c30
    try clear c32
    try clear c33
    try clear c34
    try clear c40
    try clear hcz10_0
    try clear hcz10_1
    try clear hcz10_2
    try clear hcz10_3
    try clear hcz15_0
    try clear hcz15_1
    try clear hcz15_2
    try clear hcz15_3
    try clear hcz22_0
    try clear hcz22_1
    try clear hcz22_2
    try clear hcz22_3
    try clear hcz35_0
    try clear hcz35_1
    try clear hcz35_2
    try clear hcz35_3
    try clear hcz41_0
    try clear hcz41_1
    try clear hcz41_2
    try clear hcz41_3
    try clear hfz10_0
    try clear hfz10_1
    try clear hfz10_2
    try clear hfz10_3
    try clear hfz15_0
    try clear hfz15_1
    try clear hfz15_2
    try clear hfz15_3
    try clear hfz22_0
    try clear hfz22_1
    try clear hfz22_2
    try clear hfz22_3
    try clear hfz35_0
    try clear hfz35_1
    try clear hfz35_2
    try clear hfz35_3
    try clear hfz41_0
    try clear hfz41_1
    try clear hfz41_2
    try clear hfz41_3
    obtain ⟨kq, x363000_4, x363001_4, x363002_4, x363003_4, u363003, HA, HJ4, HO_362003, HO_363003, BK361, BK362, HB⟩ := hcut
    cases kq with
    | zero => exact absurd HA.out (by simp [kauditlaw03_RecordDiffer.j0])
    | succ kj4 =>
      have H := HA.out
      clear HA
      simp only [kauditlaw03_RecordDiffer.j0] at H
      replace H := Option.bind_eq_some_iff.mp H
      obtain ⟨⟨t385, t386⟩, A420, H⟩ := H
      replace H : ((record_Format.f x363000_4 x363001_4 x363002_4 x363003_4).bind fun bt387 => (if t386 = 0 then (if bt387.2 = 0 then ((kauditref03_Same.f kj4 t354 t355 t356 t357 x363000_4 x363001_4 x363002_4 x363003_4).bind fun t389 => (if ((t385.toList == bt387.1.toList) == t389) = true then ((kauditlaw03_awake.f).bind fun t390 => (some t390)) else (some false))) else ((kauditlaw03_awake.f).bind fun t391 => (some t391))) else ((kauditlaw03_awake.f).bind fun t392 => (some t392)))) = some r := H
      have A42 := Aside0.mk A420
      clear A420
      replace H := Option.bind_eq_some_iff.mp H
      obtain ⟨⟨t387, t388⟩, A430, H⟩ := H
      replace H : (if t386 = 0 then (if t388 = 0 then ((kauditref03_Same.f kj4 t354 t355 t356 t357 x363000_4 x363001_4 x363002_4 x363003_4).bind fun t389 => (if ((t385.toList == t387.toList) == t389) = true then ((kauditlaw03_awake.f).bind fun t390 => (some t390)) else (some false))) else ((kauditlaw03_awake.f).bind fun t391 => (some t391))) else ((kauditlaw03_awake.f).bind fun t392 => (some t392))) = some r := H
      have A43 := Aside0.mk A430
      clear A430
      by_cases c44 : t386 = 0
      · rw [if_pos c44] at H
        have c44b0 : (t386 == 0) = true := beq_iff_eq.mpr c44
        have c44b1 : (t386 != 0) = false := bne_eq_false_iff_eq.mpr c44
        clear c44
        by_cases c45 : t388 = 0
        · rw [if_pos c45] at H
          have c45b0 : (t388 == 0) = true := beq_iff_eq.mpr c45
          have c45b1 : (t388 != 0) = false := bne_eq_false_iff_eq.mpr c45
          clear c45
          replace H := Option.bind_eq_some_iff.mp H
          obtain ⟨t389, A460, H⟩ := H
          replace H : (if ((t385.toList == t387.toList) == t389) = true then ((kauditlaw03_awake.f).bind fun t390 => (some t390)) else (some false)) = some r := H
          have A46 := Aside0.mk A460
          clear A460
          by_cases c47 : ((t385.toList == t387.toList) == t389) = true
          · rw [if_pos c47] at H
            have c47b0 : ((t385.toList == t387.toList) == t389) = true := c47
            (try (have c47b1 : decide ((t385.toList == t387.toList) = t389) = true := by simpa using c47))
            (try (have c47b2 : ((t385.toList == t387.toList) == t389) = true := by simpa using c47))
            clear c47
            replace H := Option.bind_eq_some_iff.mp H
            obtain ⟨t390, A480, H⟩ := H
            replace H : (some t390) = some r := H
            have A48 := Aside0.mk A480
            clear A480
            obtain rfl := Option.some.inj H
            have hnb49 := NB361_362.out
            have hnc49 := NB362_361.out
            have hcz50_0 : wc.cell? ⟨gb361, 0, none⟩ = some (.int .i64 t354) := (blk_cell BK361.out 0).trans rfl
            have hcz50_1 : wc.cell? ⟨gb361, 1, none⟩ = some (.int .i64 t355) := (blk_cell BK361.out 1).trans rfl
            have hcz50_2 : wc.cell? ⟨gb361, 2, none⟩ = some (.int .i64 t356) := (blk_cell BK361.out 2).trans rfl
            have hcz50_3 : wc.cell? ⟨gb361, 3, none⟩ = some (.slice Ao11 t357.length co11) := (blk_cell BK361.out 3).trans rfl
            have hfz50_0 := blk_frozen BK361.out 0
            have hfz50_1 := blk_frozen BK361.out 1
            have hfz50_2 := blk_frozen BK361.out 2
            have hfz50_3 := blk_frozen BK361.out 3
            go_wp2_with (first | ((with_reducible refine gate_callee (f := 35) rfl ?_); refine goesL_ (some 41) rfl rfl Tryd.func35 (by kernel_rfl) rfl #[.agg #[.int .i64 t354, .int .i64 t355, .int .i64 t356, .slice Ao11 t357.length co11]] rfl (by (try simp only [List.map_toArray, List.map_cons, List.map_nil]); first | done | rfl | (simp only [List.length_drop, List.length_take]; rfl)) ?_; (with_reducible refine (record_Format.calls t354 t355 t356 _ _ t357 t385 t386 _ ?side1 ?side2 ?side3 A42.out).mono ?_); (case side1 => exact GT.below (by decide) HG.out (by repeat (first | (with_reducible first | exact HB.out | apply below_alloc | apply pw_below_drewN | apply below_drew1 | refine below_set ?_ GE361.out | refine below_set ?_ GE362.out) | exact HB.out))); (case side2 => repeat (first | exact (Kd.R_reads' HO_362003.out).2.2 | (with_reducible refine Kd.C_alloc ?_ _) | (with_reducible refine Kd.C_drewN ?_ _) | (with_reducible refine Kd.C_drew ?_))); (case side3 => exact (Kd.R_reads' HO_362003.out).2.1); rintro e w51 ⟨rfl, hb⟩; refine ⟨_, rfl, ?_⟩; have n0_ := Aside0.mk (Kd.R_below (by (with_reducible repeat (first | apply Kd.R_alloc | apply Kd.R_drewN | apply Kd.R_drew)); exact HO_362003.out) hb); have n1_ := Aside0.mk (Kd.R_below (by (with_reducible repeat (first | apply Kd.R_alloc | apply Kd.R_drewN | apply Kd.R_drew)); exact HO_363003.out) hb); have n2_ := Aside0.mk (blk_below (g := gb361) (o := .cells #[.int .i64 t354, .int .i64 t355, .int .i64 t356, .slice Ao11 t357.length co11] 43 (0, 0)) (by (with_reducible repeat (first | refine blk_drewN ?_ _ | refine blk_drew ?_ | refine blk_alloc ?_ _)); exact BK361.out) hb); have n3_ := Aside0.mk (blk_below (g := gb362) (o := .cells #[.int .i64 x363000_4, .int .i64 x363001_4, .int .i64 x363002_4, u363003] 43 (0, 0)) (by (with_reducible repeat (first | refine blk_drewN ?_ _ | refine blk_drew ?_ | refine blk_alloc ?_ _)); exact BK362.out) hb); have n4_ := Aside0.mk (below_step (by repeat (first | (with_reducible first | exact HB.out | apply below_alloc | apply pw_below_drewN | apply below_drew1 | refine below_set ?_ GE361.out | refine below_set ?_ GE362.out) | exact HB.out)) hb); clear HO_362003; clear HO_363003; clear BK361; clear BK362; clear HB; have HO_362003 := n0_; have HO_363003 := n1_; have BK361 := n2_; have BK362 := n3_; have HB := n4_; clear n0_ n1_ n2_ n3_ n4_; (try clear hb); (try clear hb2); (try clear hk); (try clear hi); have hcz52_0 : w51.cell? ⟨gb362, 0, none⟩ = some (.int .i64 x363000_4) := (blk_cell BK362.out 0).trans rfl; have hcz52_1 : w51.cell? ⟨gb362, 1, none⟩ = some (.int .i64 x363001_4) := (blk_cell BK362.out 1).trans rfl; have hcz52_2 : w51.cell? ⟨gb362, 2, none⟩ = some (.int .i64 x363002_4) := (blk_cell BK362.out 2).trans rfl; have hcz52_3 : w51.cell? ⟨gb362, 3, none⟩ = some (u363003) := (blk_cell BK362.out 3).trans rfl; have hfz52_0 := blk_frozen BK362.out 0; have hfz52_1 := blk_frozen BK362.out 1; have hfz52_2 := blk_frozen BK362.out 2; have hfz52_3 := blk_frozen BK362.out 3; obtain ⟨Ao53, co53, eo53⟩ := Kd.R_slice HO_363003.out; subst eo53) | ((with_reducible refine gate_callee (f := 35) rfl ?_); refine goesL_ (some 46) rfl rfl Tryd.func35 (by kernel_rfl) rfl #[.agg #[.int .i64 x363000_4, .int .i64 x363001_4, .int .i64 x363002_4, .slice Ao53 x363003_4.length co53]] rfl (by (try simp only [List.map_toArray, List.map_cons, List.map_nil]); first | done | rfl | (simp only [List.length_drop, List.length_take]; rfl)) ?_; (with_reducible refine (record_Format.calls x363000_4 x363001_4 x363002_4 _ _ x363003_4 t387 t388 _ ?side1 ?side2 ?side3 A43.out).mono ?_); (case side1 => exact GT.below (by decide) HG.out (by repeat (first | (with_reducible first | exact HB.out | apply below_alloc | apply pw_below_drewN | apply below_drew1 | refine below_set ?_ GE361.out | refine below_set ?_ GE362.out) | exact HB.out))); (case side2 => repeat (first | exact (Kd.R_reads' HO_363003.out).2.2 | (with_reducible refine Kd.C_alloc ?_ _) | (with_reducible refine Kd.C_drewN ?_ _) | (with_reducible refine Kd.C_drew ?_))); (case side3 => exact (Kd.R_reads' HO_363003.out).2.1); rintro e w54 ⟨rfl, hb⟩; refine ⟨_, rfl, ?_⟩; have n0_ := Aside0.mk (Kd.R_below (by (with_reducible repeat (first | apply Kd.R_alloc | apply Kd.R_drewN | apply Kd.R_drew)); exact HO_362003.out) hb); have n1_ := Aside0.mk (Kd.R_below (by (with_reducible repeat (first | apply Kd.R_alloc | apply Kd.R_drewN | apply Kd.R_drew)); exact HO_363003.out) hb); have n2_ := Aside0.mk (blk_below (g := gb361) (o := .cells #[.int .i64 t354, .int .i64 t355, .int .i64 t356, .slice Ao11 t357.length co11] 43 (0, 0)) (by (with_reducible repeat (first | refine blk_drewN ?_ _ | refine blk_drew ?_ | refine blk_alloc ?_ _)); exact BK361.out) hb); have n3_ := Aside0.mk (blk_below (g := gb362) (o := .cells #[.int .i64 x363000_4, .int .i64 x363001_4, .int .i64 x363002_4, .slice Ao53 x363003_4.length co53] 43 (0, 0)) (by (with_reducible repeat (first | refine blk_drewN ?_ _ | refine blk_drew ?_ | refine blk_alloc ?_ _)); exact BK362.out) hb); have n4_ := Aside0.mk (below_step (by repeat (first | (with_reducible first | exact HB.out | apply below_alloc | apply pw_below_drewN | apply below_drew1 | refine below_set ?_ GE361.out | refine below_set ?_ GE362.out) | exact HB.out)) hb); clear HO_362003; clear HO_363003; clear BK361; clear BK362; clear HB; have HO_362003 := n0_; have HO_363003 := n1_; have BK361 := n2_; have BK362 := n3_; have HB := n4_; clear n0_ n1_ n2_ n3_ n4_; (try clear hb); (try clear hb2); (try clear hk); (try clear hi); have hcz55_0 : w54.cell? ⟨gb361, 0, none⟩ = some (.int .i64 t354) := (blk_cell BK361.out 0).trans rfl; have hcz55_1 : w54.cell? ⟨gb361, 1, none⟩ = some (.int .i64 t355) := (blk_cell BK361.out 1).trans rfl; have hcz55_2 : w54.cell? ⟨gb361, 2, none⟩ = some (.int .i64 t356) := (blk_cell BK361.out 2).trans rfl; have hcz55_3 : w54.cell? ⟨gb361, 3, none⟩ = some (.slice Ao11 t357.length co11) := (blk_cell BK361.out 3).trans rfl; have hfz55_0 := blk_frozen BK361.out 0; have hfz55_1 := blk_frozen BK361.out 1; have hfz55_2 := blk_frozen BK361.out 2; have hfz55_3 := blk_frozen BK361.out 3; have hcz56_0 : w54.cell? ⟨gb362, 0, none⟩ = some (.int .i64 x363000_4) := (blk_cell BK362.out 0).trans rfl; have hcz56_1 : w54.cell? ⟨gb362, 1, none⟩ = some (.int .i64 x363001_4) := (blk_cell BK362.out 1).trans rfl; have hcz56_2 : w54.cell? ⟨gb362, 2, none⟩ = some (.int .i64 x363002_4) := (blk_cell BK362.out 2).trans rfl; have hcz56_3 : w54.cell? ⟨gb362, 3, none⟩ = some (.slice Ao53 x363003_4.length co53) := (blk_cell BK362.out 3).trans rfl; have hfz56_0 := blk_frozen BK362.out 0; have hfz56_1 := blk_frozen BK362.out 1; have hfz56_2 := blk_frozen BK362.out 2; have hfz56_3 := blk_frozen BK362.out 3) | (go_at_call 36; (with_reducible refine (kauditref03_Same.calls kj4 t354 t355 t356 _ _ t357 x363000_4 x363001_4 x363002_4 _ _ x363003_4 t389 _ ?side1 ?side2 ?side3 ?side4 A46.out).mono ?_); (case side1 => repeat (first | exact (Kd.R_reads' HO_362003.out).2.2 | (with_reducible refine Kd.C_alloc ?_ _) | (with_reducible refine Kd.C_drewN ?_ _) | (with_reducible refine Kd.C_drew ?_))); (case side2 => exact (Kd.R_reads' HO_362003.out).2.1); (case side3 => repeat (first | exact (Kd.R_reads' HO_363003.out).2.2 | (with_reducible refine Kd.C_alloc ?_ _) | (with_reducible refine Kd.C_drewN ?_ _) | (with_reducible refine Kd.C_drew ?_))); (case side4 => exact (Kd.R_reads' HO_363003.out).2.1); rintro e w57 ⟨rfl, hb⟩; have n0_ := Aside0.mk (Kd.R_below (by (with_reducible repeat (first | apply Kd.R_alloc | apply Kd.R_drewN | apply Kd.R_drew)); exact HO_362003.out) hb); have n1_ := Aside0.mk (Kd.R_below (by (with_reducible repeat (first | apply Kd.R_alloc | apply Kd.R_drewN | apply Kd.R_drew)); exact HO_363003.out) hb); have n2_ := Aside0.mk (blk_below (g := gb361) (o := .cells #[.int .i64 t354, .int .i64 t355, .int .i64 t356, .slice Ao11 t357.length co11] 43 (0, 0)) (by (with_reducible repeat (first | refine blk_drewN ?_ _ | refine blk_drew ?_ | refine blk_alloc ?_ _)); exact BK361.out) hb); have n3_ := Aside0.mk (blk_below (g := gb362) (o := .cells #[.int .i64 x363000_4, .int .i64 x363001_4, .int .i64 x363002_4, .slice Ao53 x363003_4.length co53] 43 (0, 0)) (by (with_reducible repeat (first | refine blk_drewN ?_ _ | refine blk_drew ?_ | refine blk_alloc ?_ _)); exact BK362.out) hb); have n4_ := Aside0.mk (below_step (by repeat (first | (with_reducible first | exact HB.out | apply below_alloc | apply pw_below_drewN | apply below_drew1 | refine below_set ?_ GE361.out | refine below_set ?_ GE362.out) | exact HB.out)) hb); clear HO_362003; clear HO_363003; clear BK361; clear BK362; clear HB; have HO_362003 := n0_; have HO_363003 := n1_; have BK361 := n2_; have BK362 := n3_; have HB := n4_; clear n0_ n1_ n2_ n3_ n4_; (try clear hb); (try clear hb2); (try clear hk); (try clear hi)) | (go_at_call 32; (with_reducible refine (kauditlaw03_awake.calls  t390 _ ?side1 A48.out).mono ?_); (case side1 => exact GT.below (by decide) HG.out (by repeat (first | (with_reducible first | exact HB.out | apply below_alloc | apply pw_below_drewN | apply below_drew1 | refine below_set ?_ GE361.out | refine below_set ?_ GE362.out) | exact HB.out))); rintro e w58 ⟨rfl, hb⟩; have n0_ := Aside0.mk (Kd.R_below (by (with_reducible repeat (first | apply Kd.R_alloc | apply Kd.R_drewN | apply Kd.R_drew)); exact HO_362003.out) hb); have n1_ := Aside0.mk (Kd.R_below (by (with_reducible repeat (first | apply Kd.R_alloc | apply Kd.R_drewN | apply Kd.R_drew)); exact HO_363003.out) hb); have n2_ := Aside0.mk (blk_below (g := gb361) (o := .cells #[.int .i64 t354, .int .i64 t355, .int .i64 t356, .slice Ao11 t357.length co11] 43 (0, 0)) (by (with_reducible repeat (first | refine blk_drewN ?_ _ | refine blk_drew ?_ | refine blk_alloc ?_ _)); exact BK361.out) hb); have n3_ := Aside0.mk (blk_below (g := gb362) (o := .cells #[.int .i64 x363000_4, .int .i64 x363001_4, .int .i64 x363002_4, .slice Ao53 x363003_4.length co53] 43 (0, 0)) (by (with_reducible repeat (first | refine blk_drewN ?_ _ | refine blk_drew ?_ | refine blk_alloc ?_ _)); exact BK362.out) hb); have n4_ := Aside0.mk (below_step (by repeat (first | (with_reducible first | exact HB.out | apply below_alloc | apply pw_below_drewN | apply below_drew1 | refine below_set ?_ GE361.out | refine below_set ?_ GE362.out) | exact HB.out)) hb); clear HO_362003; clear HO_363003; clear BK361; clear BK362; clear HB; have HO_362003 := n0_; have HO_363003 := n1_; have BK361 := n2_; have BK362 := n3_; have HB := n4_; clear n0_ n1_ n2_ n3_ n4_; (try clear hb); (try clear hb2); (try clear hk); (try clear hi)))
            go_ret
            exact ⟨by first | rfl | (simp [errW_none, errW_some] <;> rfl) | (simp [*, errW_none, errW_some] <;> rfl), by repeat (first | (with_reducible first | exact HB.out | apply below_alloc | apply pw_below_drewN | apply below_drew1 | refine below_set ?_ GE361.out | refine below_set ?_ GE362.out) | exact HB.out)⟩
          · rw [if_neg c47] at H
            have c47b0 : ((t385.toList == t387.toList) == t389) = false := by simpa using c47
            (try (have c47b1 : decide ((t385.toList == t387.toList) = t389) = false := by simpa using c47))
            (try (have c47b2 : ((t385.toList == t387.toList) == t389) = false := by simpa using c47))
            (try (have c47b3 : ¬ ((t385.toList == t387.toList) = t389) := by simpa using c47))
            clear c47
            obtain rfl := Option.some.inj H
            have hnb59 := NB361_362.out
            have hnc59 := NB362_361.out
            have hcz60_0 : wc.cell? ⟨gb361, 0, none⟩ = some (.int .i64 t354) := (blk_cell BK361.out 0).trans rfl
            have hcz60_1 : wc.cell? ⟨gb361, 1, none⟩ = some (.int .i64 t355) := (blk_cell BK361.out 1).trans rfl
            have hcz60_2 : wc.cell? ⟨gb361, 2, none⟩ = some (.int .i64 t356) := (blk_cell BK361.out 2).trans rfl
            have hcz60_3 : wc.cell? ⟨gb361, 3, none⟩ = some (.slice Ao11 t357.length co11) := (blk_cell BK361.out 3).trans rfl
            have hfz60_0 := blk_frozen BK361.out 0
            have hfz60_1 := blk_frozen BK361.out 1
            have hfz60_2 := blk_frozen BK361.out 2
            have hfz60_3 := blk_frozen BK361.out 3
            go_wp2_with (first | ((with_reducible refine gate_callee (f := 35) rfl ?_); refine goesL_ (some 41) rfl rfl Tryd.func35 (by kernel_rfl) rfl #[.agg #[.int .i64 t354, .int .i64 t355, .int .i64 t356, .slice Ao11 t357.length co11]] rfl (by (try simp only [List.map_toArray, List.map_cons, List.map_nil]); first | done | rfl | (simp only [List.length_drop, List.length_take]; rfl)) ?_; (with_reducible refine (record_Format.calls t354 t355 t356 _ _ t357 t385 t386 _ ?side1 ?side2 ?side3 A42.out).mono ?_); (case side1 => exact GT.below (by decide) HG.out (by repeat (first | (with_reducible first | exact HB.out | apply below_alloc | apply pw_below_drewN | apply below_drew1 | refine below_set ?_ GE361.out | refine below_set ?_ GE362.out) | exact HB.out))); (case side2 => repeat (first | exact (Kd.R_reads' HO_362003.out).2.2 | (with_reducible refine Kd.C_alloc ?_ _) | (with_reducible refine Kd.C_drewN ?_ _) | (with_reducible refine Kd.C_drew ?_))); (case side3 => exact (Kd.R_reads' HO_362003.out).2.1); rintro e w61 ⟨rfl, hb⟩; refine ⟨_, rfl, ?_⟩; have n0_ := Aside0.mk (Kd.R_below (by (with_reducible repeat (first | apply Kd.R_alloc | apply Kd.R_drewN | apply Kd.R_drew)); exact HO_362003.out) hb); have n1_ := Aside0.mk (Kd.R_below (by (with_reducible repeat (first | apply Kd.R_alloc | apply Kd.R_drewN | apply Kd.R_drew)); exact HO_363003.out) hb); have n2_ := Aside0.mk (blk_below (g := gb361) (o := .cells #[.int .i64 t354, .int .i64 t355, .int .i64 t356, .slice Ao11 t357.length co11] 43 (0, 0)) (by (with_reducible repeat (first | refine blk_drewN ?_ _ | refine blk_drew ?_ | refine blk_alloc ?_ _)); exact BK361.out) hb); have n3_ := Aside0.mk (blk_below (g := gb362) (o := .cells #[.int .i64 x363000_4, .int .i64 x363001_4, .int .i64 x363002_4, u363003] 43 (0, 0)) (by (with_reducible repeat (first | refine blk_drewN ?_ _ | refine blk_drew ?_ | refine blk_alloc ?_ _)); exact BK362.out) hb); have n4_ := Aside0.mk (below_step (by repeat (first | (with_reducible first | exact HB.out | apply below_alloc | apply pw_below_drewN | apply below_drew1 | refine below_set ?_ GE361.out | refine below_set ?_ GE362.out) | exact HB.out)) hb); clear HO_362003; clear HO_363003; clear BK361; clear BK362; clear HB; have HO_362003 := n0_; have HO_363003 := n1_; have BK361 := n2_; have BK362 := n3_; have HB := n4_; clear n0_ n1_ n2_ n3_ n4_; (try clear hb); (try clear hb2); (try clear hk); (try clear hi); have hcz62_0 : w61.cell? ⟨gb362, 0, none⟩ = some (.int .i64 x363000_4) := (blk_cell BK362.out 0).trans rfl; have hcz62_1 : w61.cell? ⟨gb362, 1, none⟩ = some (.int .i64 x363001_4) := (blk_cell BK362.out 1).trans rfl; have hcz62_2 : w61.cell? ⟨gb362, 2, none⟩ = some (.int .i64 x363002_4) := (blk_cell BK362.out 2).trans rfl; have hcz62_3 : w61.cell? ⟨gb362, 3, none⟩ = some (u363003) := (blk_cell BK362.out 3).trans rfl; have hfz62_0 := blk_frozen BK362.out 0; have hfz62_1 := blk_frozen BK362.out 1; have hfz62_2 := blk_frozen BK362.out 2; have hfz62_3 := blk_frozen BK362.out 3; obtain ⟨Ao63, co63, eo63⟩ := Kd.R_slice HO_363003.out; subst eo63) | ((with_reducible refine gate_callee (f := 35) rfl ?_); refine goesL_ (some 46) rfl rfl Tryd.func35 (by kernel_rfl) rfl #[.agg #[.int .i64 x363000_4, .int .i64 x363001_4, .int .i64 x363002_4, .slice Ao63 x363003_4.length co63]] rfl (by (try simp only [List.map_toArray, List.map_cons, List.map_nil]); first | done | rfl | (simp only [List.length_drop, List.length_take]; rfl)) ?_; (with_reducible refine (record_Format.calls x363000_4 x363001_4 x363002_4 _ _ x363003_4 t387 t388 _ ?side1 ?side2 ?side3 A43.out).mono ?_); (case side1 => exact GT.below (by decide) HG.out (by repeat (first | (with_reducible first | exact HB.out | apply below_alloc | apply pw_below_drewN | apply below_drew1 | refine below_set ?_ GE361.out | refine below_set ?_ GE362.out) | exact HB.out))); (case side2 => repeat (first | exact (Kd.R_reads' HO_363003.out).2.2 | (with_reducible refine Kd.C_alloc ?_ _) | (with_reducible refine Kd.C_drewN ?_ _) | (with_reducible refine Kd.C_drew ?_))); (case side3 => exact (Kd.R_reads' HO_363003.out).2.1); rintro e w64 ⟨rfl, hb⟩; refine ⟨_, rfl, ?_⟩; have n0_ := Aside0.mk (Kd.R_below (by (with_reducible repeat (first | apply Kd.R_alloc | apply Kd.R_drewN | apply Kd.R_drew)); exact HO_362003.out) hb); have n1_ := Aside0.mk (Kd.R_below (by (with_reducible repeat (first | apply Kd.R_alloc | apply Kd.R_drewN | apply Kd.R_drew)); exact HO_363003.out) hb); have n2_ := Aside0.mk (blk_below (g := gb361) (o := .cells #[.int .i64 t354, .int .i64 t355, .int .i64 t356, .slice Ao11 t357.length co11] 43 (0, 0)) (by (with_reducible repeat (first | refine blk_drewN ?_ _ | refine blk_drew ?_ | refine blk_alloc ?_ _)); exact BK361.out) hb); have n3_ := Aside0.mk (blk_below (g := gb362) (o := .cells #[.int .i64 x363000_4, .int .i64 x363001_4, .int .i64 x363002_4, .slice Ao63 x363003_4.length co63] 43 (0, 0)) (by (with_reducible repeat (first | refine blk_drewN ?_ _ | refine blk_drew ?_ | refine blk_alloc ?_ _)); exact BK362.out) hb); have n4_ := Aside0.mk (below_step (by repeat (first | (with_reducible first | exact HB.out | apply below_alloc | apply pw_below_drewN | apply below_drew1 | refine below_set ?_ GE361.out | refine below_set ?_ GE362.out) | exact HB.out)) hb); clear HO_362003; clear HO_363003; clear BK361; clear BK362; clear HB; have HO_362003 := n0_; have HO_363003 := n1_; have BK361 := n2_; have BK362 := n3_; have HB := n4_; clear n0_ n1_ n2_ n3_ n4_; (try clear hb); (try clear hb2); (try clear hk); (try clear hi); have hcz65_0 : w64.cell? ⟨gb361, 0, none⟩ = some (.int .i64 t354) := (blk_cell BK361.out 0).trans rfl; have hcz65_1 : w64.cell? ⟨gb361, 1, none⟩ = some (.int .i64 t355) := (blk_cell BK361.out 1).trans rfl; have hcz65_2 : w64.cell? ⟨gb361, 2, none⟩ = some (.int .i64 t356) := (blk_cell BK361.out 2).trans rfl; have hcz65_3 : w64.cell? ⟨gb361, 3, none⟩ = some (.slice Ao11 t357.length co11) := (blk_cell BK361.out 3).trans rfl; have hfz65_0 := blk_frozen BK361.out 0; have hfz65_1 := blk_frozen BK361.out 1; have hfz65_2 := blk_frozen BK361.out 2; have hfz65_3 := blk_frozen BK361.out 3; have hcz66_0 : w64.cell? ⟨gb362, 0, none⟩ = some (.int .i64 x363000_4) := (blk_cell BK362.out 0).trans rfl; have hcz66_1 : w64.cell? ⟨gb362, 1, none⟩ = some (.int .i64 x363001_4) := (blk_cell BK362.out 1).trans rfl; have hcz66_2 : w64.cell? ⟨gb362, 2, none⟩ = some (.int .i64 x363002_4) := (blk_cell BK362.out 2).trans rfl; have hcz66_3 : w64.cell? ⟨gb362, 3, none⟩ = some (.slice Ao63 x363003_4.length co63) := (blk_cell BK362.out 3).trans rfl; have hfz66_0 := blk_frozen BK362.out 0; have hfz66_1 := blk_frozen BK362.out 1; have hfz66_2 := blk_frozen BK362.out 2; have hfz66_3 := blk_frozen BK362.out 3) | (go_at_call 36; (with_reducible refine (kauditref03_Same.calls kj4 t354 t355 t356 _ _ t357 x363000_4 x363001_4 x363002_4 _ _ x363003_4 t389 _ ?side1 ?side2 ?side3 ?side4 A46.out).mono ?_); (case side1 => repeat (first | exact (Kd.R_reads' HO_362003.out).2.2 | (with_reducible refine Kd.C_alloc ?_ _) | (with_reducible refine Kd.C_drewN ?_ _) | (with_reducible refine Kd.C_drew ?_))); (case side2 => exact (Kd.R_reads' HO_362003.out).2.1); (case side3 => repeat (first | exact (Kd.R_reads' HO_363003.out).2.2 | (with_reducible refine Kd.C_alloc ?_ _) | (with_reducible refine Kd.C_drewN ?_ _) | (with_reducible refine Kd.C_drew ?_))); (case side4 => exact (Kd.R_reads' HO_363003.out).2.1); rintro e w67 ⟨rfl, hb⟩; have n0_ := Aside0.mk (Kd.R_below (by (with_reducible repeat (first | apply Kd.R_alloc | apply Kd.R_drewN | apply Kd.R_drew)); exact HO_362003.out) hb); have n1_ := Aside0.mk (Kd.R_below (by (with_reducible repeat (first | apply Kd.R_alloc | apply Kd.R_drewN | apply Kd.R_drew)); exact HO_363003.out) hb); have n2_ := Aside0.mk (blk_below (g := gb361) (o := .cells #[.int .i64 t354, .int .i64 t355, .int .i64 t356, .slice Ao11 t357.length co11] 43 (0, 0)) (by (with_reducible repeat (first | refine blk_drewN ?_ _ | refine blk_drew ?_ | refine blk_alloc ?_ _)); exact BK361.out) hb); have n3_ := Aside0.mk (blk_below (g := gb362) (o := .cells #[.int .i64 x363000_4, .int .i64 x363001_4, .int .i64 x363002_4, .slice Ao63 x363003_4.length co63] 43 (0, 0)) (by (with_reducible repeat (first | refine blk_drewN ?_ _ | refine blk_drew ?_ | refine blk_alloc ?_ _)); exact BK362.out) hb); have n4_ := Aside0.mk (below_step (by repeat (first | (with_reducible first | exact HB.out | apply below_alloc | apply pw_below_drewN | apply below_drew1 | refine below_set ?_ GE361.out | refine below_set ?_ GE362.out) | exact HB.out)) hb); clear HO_362003; clear HO_363003; clear BK361; clear BK362; clear HB; have HO_362003 := n0_; have HO_363003 := n1_; have BK361 := n2_; have BK362 := n3_; have HB := n4_; clear n0_ n1_ n2_ n3_ n4_; (try clear hb); (try clear hb2); (try clear hk); (try clear hi)))
            go_ret
            exact ⟨by first | rfl | (simp [errW_none, errW_some] <;> rfl) | (simp [*, errW_none, errW_some] <;> rfl), by repeat (first | (with_reducible first | exact HB.out | apply below_alloc | apply pw_below_drewN | apply below_drew1 | refine below_set ?_ GE361.out | refine below_set ?_ GE362.out) | exact HB.out)⟩
        · rw [if_neg c45] at H
          have c45b0 : (t388 == 0) = false := beq_eq_false_iff_ne.mpr c45
          have c45b1 : (t388 != 0) = true := bne_iff_ne.mpr c45
          replace H := Option.bind_eq_some_iff.mp H
          obtain ⟨t391, A680, H⟩ := H
          replace H : (some t391) = some r := H
          have A68 := Aside0.mk A680
          clear A680
          obtain rfl := Option.some.inj H
          have hnb69 := NB361_362.out
          have hnc69 := NB362_361.out
          have hcz70_0 : wc.cell? ⟨gb361, 0, none⟩ = some (.int .i64 t354) := (blk_cell BK361.out 0).trans rfl
          have hcz70_1 : wc.cell? ⟨gb361, 1, none⟩ = some (.int .i64 t355) := (blk_cell BK361.out 1).trans rfl
          have hcz70_2 : wc.cell? ⟨gb361, 2, none⟩ = some (.int .i64 t356) := (blk_cell BK361.out 2).trans rfl
          have hcz70_3 : wc.cell? ⟨gb361, 3, none⟩ = some (.slice Ao11 t357.length co11) := (blk_cell BK361.out 3).trans rfl
          have hfz70_0 := blk_frozen BK361.out 0
          have hfz70_1 := blk_frozen BK361.out 1
          have hfz70_2 := blk_frozen BK361.out 2
          have hfz70_3 := blk_frozen BK361.out 3
          go_wp2_with (first | ((with_reducible refine gate_callee (f := 35) rfl ?_); refine goesL_ (some 41) rfl rfl Tryd.func35 (by kernel_rfl) rfl #[.agg #[.int .i64 t354, .int .i64 t355, .int .i64 t356, .slice Ao11 t357.length co11]] rfl (by (try simp only [List.map_toArray, List.map_cons, List.map_nil]); first | done | rfl | (simp only [List.length_drop, List.length_take]; rfl)) ?_; (with_reducible refine (record_Format.calls t354 t355 t356 _ _ t357 t385 t386 _ ?side1 ?side2 ?side3 A42.out).mono ?_); (case side1 => exact GT.below (by decide) HG.out (by repeat (first | (with_reducible first | exact HB.out | apply below_alloc | apply pw_below_drewN | apply below_drew1 | refine below_set ?_ GE361.out | refine below_set ?_ GE362.out) | exact HB.out))); (case side2 => repeat (first | exact (Kd.R_reads' HO_362003.out).2.2 | (with_reducible refine Kd.C_alloc ?_ _) | (with_reducible refine Kd.C_drewN ?_ _) | (with_reducible refine Kd.C_drew ?_))); (case side3 => exact (Kd.R_reads' HO_362003.out).2.1); rintro e w71 ⟨rfl, hb⟩; refine ⟨_, rfl, ?_⟩; have n0_ := Aside0.mk (Kd.R_below (by (with_reducible repeat (first | apply Kd.R_alloc | apply Kd.R_drewN | apply Kd.R_drew)); exact HO_362003.out) hb); have n1_ := Aside0.mk (Kd.R_below (by (with_reducible repeat (first | apply Kd.R_alloc | apply Kd.R_drewN | apply Kd.R_drew)); exact HO_363003.out) hb); have n2_ := Aside0.mk (blk_below (g := gb361) (o := .cells #[.int .i64 t354, .int .i64 t355, .int .i64 t356, .slice Ao11 t357.length co11] 43 (0, 0)) (by (with_reducible repeat (first | refine blk_drewN ?_ _ | refine blk_drew ?_ | refine blk_alloc ?_ _)); exact BK361.out) hb); have n3_ := Aside0.mk (blk_below (g := gb362) (o := .cells #[.int .i64 x363000_4, .int .i64 x363001_4, .int .i64 x363002_4, u363003] 43 (0, 0)) (by (with_reducible repeat (first | refine blk_drewN ?_ _ | refine blk_drew ?_ | refine blk_alloc ?_ _)); exact BK362.out) hb); have n4_ := Aside0.mk (below_step (by repeat (first | (with_reducible first | exact HB.out | apply below_alloc | apply pw_below_drewN | apply below_drew1 | refine below_set ?_ GE361.out | refine below_set ?_ GE362.out) | exact HB.out)) hb); clear HO_362003; clear HO_363003; clear BK361; clear BK362; clear HB; have HO_362003 := n0_; have HO_363003 := n1_; have BK361 := n2_; have BK362 := n3_; have HB := n4_; clear n0_ n1_ n2_ n3_ n4_; (try clear hb); (try clear hb2); (try clear hk); (try clear hi); have hcz72_0 : w71.cell? ⟨gb362, 0, none⟩ = some (.int .i64 x363000_4) := (blk_cell BK362.out 0).trans rfl; have hcz72_1 : w71.cell? ⟨gb362, 1, none⟩ = some (.int .i64 x363001_4) := (blk_cell BK362.out 1).trans rfl; have hcz72_2 : w71.cell? ⟨gb362, 2, none⟩ = some (.int .i64 x363002_4) := (blk_cell BK362.out 2).trans rfl; have hcz72_3 : w71.cell? ⟨gb362, 3, none⟩ = some (u363003) := (blk_cell BK362.out 3).trans rfl; have hfz72_0 := blk_frozen BK362.out 0; have hfz72_1 := blk_frozen BK362.out 1; have hfz72_2 := blk_frozen BK362.out 2; have hfz72_3 := blk_frozen BK362.out 3; obtain ⟨Ao73, co73, eo73⟩ := Kd.R_slice HO_363003.out; subst eo73) | ((with_reducible refine gate_callee (f := 35) rfl ?_); refine goesL_ (some 46) rfl rfl Tryd.func35 (by kernel_rfl) rfl #[.agg #[.int .i64 x363000_4, .int .i64 x363001_4, .int .i64 x363002_4, .slice Ao73 x363003_4.length co73]] rfl (by (try simp only [List.map_toArray, List.map_cons, List.map_nil]); first | done | rfl | (simp only [List.length_drop, List.length_take]; rfl)) ?_; (with_reducible refine (record_Format.calls x363000_4 x363001_4 x363002_4 _ _ x363003_4 t387 t388 _ ?side1 ?side2 ?side3 A43.out).mono ?_); (case side1 => exact GT.below (by decide) HG.out (by repeat (first | (with_reducible first | exact HB.out | apply below_alloc | apply pw_below_drewN | apply below_drew1 | refine below_set ?_ GE361.out | refine below_set ?_ GE362.out) | exact HB.out))); (case side2 => repeat (first | exact (Kd.R_reads' HO_363003.out).2.2 | (with_reducible refine Kd.C_alloc ?_ _) | (with_reducible refine Kd.C_drewN ?_ _) | (with_reducible refine Kd.C_drew ?_))); (case side3 => exact (Kd.R_reads' HO_363003.out).2.1); rintro e w74 ⟨rfl, hb⟩; refine ⟨_, rfl, ?_⟩; have n0_ := Aside0.mk (Kd.R_below (by (with_reducible repeat (first | apply Kd.R_alloc | apply Kd.R_drewN | apply Kd.R_drew)); exact HO_362003.out) hb); have n1_ := Aside0.mk (Kd.R_below (by (with_reducible repeat (first | apply Kd.R_alloc | apply Kd.R_drewN | apply Kd.R_drew)); exact HO_363003.out) hb); have n2_ := Aside0.mk (blk_below (g := gb361) (o := .cells #[.int .i64 t354, .int .i64 t355, .int .i64 t356, .slice Ao11 t357.length co11] 43 (0, 0)) (by (with_reducible repeat (first | refine blk_drewN ?_ _ | refine blk_drew ?_ | refine blk_alloc ?_ _)); exact BK361.out) hb); have n3_ := Aside0.mk (blk_below (g := gb362) (o := .cells #[.int .i64 x363000_4, .int .i64 x363001_4, .int .i64 x363002_4, .slice Ao73 x363003_4.length co73] 43 (0, 0)) (by (with_reducible repeat (first | refine blk_drewN ?_ _ | refine blk_drew ?_ | refine blk_alloc ?_ _)); exact BK362.out) hb); have n4_ := Aside0.mk (below_step (by repeat (first | (with_reducible first | exact HB.out | apply below_alloc | apply pw_below_drewN | apply below_drew1 | refine below_set ?_ GE361.out | refine below_set ?_ GE362.out) | exact HB.out)) hb); clear HO_362003; clear HO_363003; clear BK361; clear BK362; clear HB; have HO_362003 := n0_; have HO_363003 := n1_; have BK361 := n2_; have BK362 := n3_; have HB := n4_; clear n0_ n1_ n2_ n3_ n4_; (try clear hb); (try clear hb2); (try clear hk); (try clear hi)) | (go_at_call 32; (with_reducible refine (kauditlaw03_awake.calls  t391 _ ?side1 A68.out).mono ?_); (case side1 => exact GT.below (by decide) HG.out (by repeat (first | (with_reducible first | exact HB.out | apply below_alloc | apply pw_below_drewN | apply below_drew1 | refine below_set ?_ GE361.out | refine below_set ?_ GE362.out) | exact HB.out))); rintro e w75 ⟨rfl, hb⟩; have n0_ := Aside0.mk (Kd.R_below (by (with_reducible repeat (first | apply Kd.R_alloc | apply Kd.R_drewN | apply Kd.R_drew)); exact HO_362003.out) hb); have n1_ := Aside0.mk (Kd.R_below (by (with_reducible repeat (first | apply Kd.R_alloc | apply Kd.R_drewN | apply Kd.R_drew)); exact HO_363003.out) hb); have n2_ := Aside0.mk (blk_below (g := gb361) (o := .cells #[.int .i64 t354, .int .i64 t355, .int .i64 t356, .slice Ao11 t357.length co11] 43 (0, 0)) (by (with_reducible repeat (first | refine blk_drewN ?_ _ | refine blk_drew ?_ | refine blk_alloc ?_ _)); exact BK361.out) hb); have n3_ := Aside0.mk (blk_below (g := gb362) (o := .cells #[.int .i64 x363000_4, .int .i64 x363001_4, .int .i64 x363002_4, .slice Ao73 x363003_4.length co73] 43 (0, 0)) (by (with_reducible repeat (first | refine blk_drewN ?_ _ | refine blk_drew ?_ | refine blk_alloc ?_ _)); exact BK362.out) hb); have n4_ := Aside0.mk (below_step (by repeat (first | (with_reducible first | exact HB.out | apply below_alloc | apply pw_below_drewN | apply below_drew1 | refine below_set ?_ GE361.out | refine below_set ?_ GE362.out) | exact HB.out)) hb); clear HO_362003; clear HO_363003; clear BK361; clear BK362; clear HB; have HO_362003 := n0_; have HO_363003 := n1_; have BK361 := n2_; have BK362 := n3_; have HB := n4_; clear n0_ n1_ n2_ n3_ n4_; (try clear hb); (try clear hb2); (try clear hk); (try clear hi)))
          go_ret
          exact ⟨by first | rfl | (simp [errW_none, errW_some] <;> rfl) | (simp [*, errW_none, errW_some] <;> rfl), by repeat (first | (with_reducible first | exact HB.out | apply below_alloc | apply pw_below_drewN | apply below_drew1 | refine below_set ?_ GE361.out | refine below_set ?_ GE362.out) | exact HB.out)⟩
      · rw [if_neg c44] at H
        have c44b0 : (t386 == 0) = false := beq_eq_false_iff_ne.mpr c44
        have c44b1 : (t386 != 0) = true := bne_iff_ne.mpr c44
        replace H := Option.bind_eq_some_iff.mp H
        obtain ⟨t392, A760, H⟩ := H
        replace H : (some t392) = some r := H
        have A76 := Aside0.mk A760
        clear A760
        obtain rfl := Option.some.inj H
        have hnb77 := NB361_362.out
        have hnc77 := NB362_361.out
        have hcz78_0 : wc.cell? ⟨gb361, 0, none⟩ = some (.int .i64 t354) := (blk_cell BK361.out 0).trans rfl
        have hcz78_1 : wc.cell? ⟨gb361, 1, none⟩ = some (.int .i64 t355) := (blk_cell BK361.out 1).trans rfl
        have hcz78_2 : wc.cell? ⟨gb361, 2, none⟩ = some (.int .i64 t356) := (blk_cell BK361.out 2).trans rfl
        have hcz78_3 : wc.cell? ⟨gb361, 3, none⟩ = some (.slice Ao11 t357.length co11) := (blk_cell BK361.out 3).trans rfl
        have hfz78_0 := blk_frozen BK361.out 0
        have hfz78_1 := blk_frozen BK361.out 1
        have hfz78_2 := blk_frozen BK361.out 2
        have hfz78_3 := blk_frozen BK361.out 3
        go_wp2_with (first | ((with_reducible refine gate_callee (f := 35) rfl ?_); refine goesL_ (some 41) rfl rfl Tryd.func35 (by kernel_rfl) rfl #[.agg #[.int .i64 t354, .int .i64 t355, .int .i64 t356, .slice Ao11 t357.length co11]] rfl (by (try simp only [List.map_toArray, List.map_cons, List.map_nil]); first | done | rfl | (simp only [List.length_drop, List.length_take]; rfl)) ?_; (with_reducible refine (record_Format.calls t354 t355 t356 _ _ t357 t385 t386 _ ?side1 ?side2 ?side3 A42.out).mono ?_); (case side1 => exact GT.below (by decide) HG.out (by repeat (first | (with_reducible first | exact HB.out | apply below_alloc | apply pw_below_drewN | apply below_drew1 | refine below_set ?_ GE361.out | refine below_set ?_ GE362.out) | exact HB.out))); (case side2 => repeat (first | exact (Kd.R_reads' HO_362003.out).2.2 | (with_reducible refine Kd.C_alloc ?_ _) | (with_reducible refine Kd.C_drewN ?_ _) | (with_reducible refine Kd.C_drew ?_))); (case side3 => exact (Kd.R_reads' HO_362003.out).2.1); rintro e w79 ⟨rfl, hb⟩; refine ⟨_, rfl, ?_⟩; have n0_ := Aside0.mk (Kd.R_below (by (with_reducible repeat (first | apply Kd.R_alloc | apply Kd.R_drewN | apply Kd.R_drew)); exact HO_362003.out) hb); have n1_ := Aside0.mk (Kd.R_below (by (with_reducible repeat (first | apply Kd.R_alloc | apply Kd.R_drewN | apply Kd.R_drew)); exact HO_363003.out) hb); have n2_ := Aside0.mk (blk_below (g := gb361) (o := .cells #[.int .i64 t354, .int .i64 t355, .int .i64 t356, .slice Ao11 t357.length co11] 43 (0, 0)) (by (with_reducible repeat (first | refine blk_drewN ?_ _ | refine blk_drew ?_ | refine blk_alloc ?_ _)); exact BK361.out) hb); have n3_ := Aside0.mk (blk_below (g := gb362) (o := .cells #[.int .i64 x363000_4, .int .i64 x363001_4, .int .i64 x363002_4, u363003] 43 (0, 0)) (by (with_reducible repeat (first | refine blk_drewN ?_ _ | refine blk_drew ?_ | refine blk_alloc ?_ _)); exact BK362.out) hb); have n4_ := Aside0.mk (below_step (by repeat (first | (with_reducible first | exact HB.out | apply below_alloc | apply pw_below_drewN | apply below_drew1 | refine below_set ?_ GE361.out | refine below_set ?_ GE362.out) | exact HB.out)) hb); clear HO_362003; clear HO_363003; clear BK361; clear BK362; clear HB; have HO_362003 := n0_; have HO_363003 := n1_; have BK361 := n2_; have BK362 := n3_; have HB := n4_; clear n0_ n1_ n2_ n3_ n4_; (try clear hb); (try clear hb2); (try clear hk); (try clear hi); have hcz80_0 : w79.cell? ⟨gb362, 0, none⟩ = some (.int .i64 x363000_4) := (blk_cell BK362.out 0).trans rfl; have hcz80_1 : w79.cell? ⟨gb362, 1, none⟩ = some (.int .i64 x363001_4) := (blk_cell BK362.out 1).trans rfl; have hcz80_2 : w79.cell? ⟨gb362, 2, none⟩ = some (.int .i64 x363002_4) := (blk_cell BK362.out 2).trans rfl; have hcz80_3 : w79.cell? ⟨gb362, 3, none⟩ = some (u363003) := (blk_cell BK362.out 3).trans rfl; have hfz80_0 := blk_frozen BK362.out 0; have hfz80_1 := blk_frozen BK362.out 1; have hfz80_2 := blk_frozen BK362.out 2; have hfz80_3 := blk_frozen BK362.out 3; obtain ⟨Ao81, co81, eo81⟩ := Kd.R_slice HO_363003.out; subst eo81) | ((with_reducible refine gate_callee (f := 35) rfl ?_); refine goesL_ (some 46) rfl rfl Tryd.func35 (by kernel_rfl) rfl #[.agg #[.int .i64 x363000_4, .int .i64 x363001_4, .int .i64 x363002_4, .slice Ao81 x363003_4.length co81]] rfl (by (try simp only [List.map_toArray, List.map_cons, List.map_nil]); first | done | rfl | (simp only [List.length_drop, List.length_take]; rfl)) ?_; (with_reducible refine (record_Format.calls x363000_4 x363001_4 x363002_4 _ _ x363003_4 t387 t388 _ ?side1 ?side2 ?side3 A43.out).mono ?_); (case side1 => exact GT.below (by decide) HG.out (by repeat (first | (with_reducible first | exact HB.out | apply below_alloc | apply pw_below_drewN | apply below_drew1 | refine below_set ?_ GE361.out | refine below_set ?_ GE362.out) | exact HB.out))); (case side2 => repeat (first | exact (Kd.R_reads' HO_363003.out).2.2 | (with_reducible refine Kd.C_alloc ?_ _) | (with_reducible refine Kd.C_drewN ?_ _) | (with_reducible refine Kd.C_drew ?_))); (case side3 => exact (Kd.R_reads' HO_363003.out).2.1); rintro e w82 ⟨rfl, hb⟩; refine ⟨_, rfl, ?_⟩; have n0_ := Aside0.mk (Kd.R_below (by (with_reducible repeat (first | apply Kd.R_alloc | apply Kd.R_drewN | apply Kd.R_drew)); exact HO_362003.out) hb); have n1_ := Aside0.mk (Kd.R_below (by (with_reducible repeat (first | apply Kd.R_alloc | apply Kd.R_drewN | apply Kd.R_drew)); exact HO_363003.out) hb); have n2_ := Aside0.mk (blk_below (g := gb361) (o := .cells #[.int .i64 t354, .int .i64 t355, .int .i64 t356, .slice Ao11 t357.length co11] 43 (0, 0)) (by (with_reducible repeat (first | refine blk_drewN ?_ _ | refine blk_drew ?_ | refine blk_alloc ?_ _)); exact BK361.out) hb); have n3_ := Aside0.mk (blk_below (g := gb362) (o := .cells #[.int .i64 x363000_4, .int .i64 x363001_4, .int .i64 x363002_4, .slice Ao81 x363003_4.length co81] 43 (0, 0)) (by (with_reducible repeat (first | refine blk_drewN ?_ _ | refine blk_drew ?_ | refine blk_alloc ?_ _)); exact BK362.out) hb); have n4_ := Aside0.mk (below_step (by repeat (first | (with_reducible first | exact HB.out | apply below_alloc | apply pw_below_drewN | apply below_drew1 | refine below_set ?_ GE361.out | refine below_set ?_ GE362.out) | exact HB.out)) hb); clear HO_362003; clear HO_363003; clear BK361; clear BK362; clear HB; have HO_362003 := n0_; have HO_363003 := n1_; have BK361 := n2_; have BK362 := n3_; have HB := n4_; clear n0_ n1_ n2_ n3_ n4_; (try clear hb); (try clear hb2); (try clear hk); (try clear hi)) | (go_at_call 32; (with_reducible refine (kauditlaw03_awake.calls  t392 _ ?side1 A76.out).mono ?_); (case side1 => exact GT.below (by decide) HG.out (by repeat (first | (with_reducible first | exact HB.out | apply below_alloc | apply pw_below_drewN | apply below_drew1 | refine below_set ?_ GE361.out | refine below_set ?_ GE362.out) | exact HB.out))); rintro e w83 ⟨rfl, hb⟩; have n0_ := Aside0.mk (Kd.R_below (by (with_reducible repeat (first | apply Kd.R_alloc | apply Kd.R_drewN | apply Kd.R_drew)); exact HO_362003.out) hb); have n1_ := Aside0.mk (Kd.R_below (by (with_reducible repeat (first | apply Kd.R_alloc | apply Kd.R_drewN | apply Kd.R_drew)); exact HO_363003.out) hb); have n2_ := Aside0.mk (blk_below (g := gb361) (o := .cells #[.int .i64 t354, .int .i64 t355, .int .i64 t356, .slice Ao11 t357.length co11] 43 (0, 0)) (by (with_reducible repeat (first | refine blk_drewN ?_ _ | refine blk_drew ?_ | refine blk_alloc ?_ _)); exact BK361.out) hb); have n3_ := Aside0.mk (blk_below (g := gb362) (o := .cells #[.int .i64 x363000_4, .int .i64 x363001_4, .int .i64 x363002_4, .slice Ao81 x363003_4.length co81] 43 (0, 0)) (by (with_reducible repeat (first | refine blk_drewN ?_ _ | refine blk_drew ?_ | refine blk_alloc ?_ _)); exact BK362.out) hb); have n4_ := Aside0.mk (below_step (by repeat (first | (with_reducible first | exact HB.out | apply below_alloc | apply pw_below_drewN | apply below_drew1 | refine below_set ?_ GE361.out | refine below_set ?_ GE362.out) | exact HB.out)) hb); clear HO_362003; clear HO_363003; clear BK361; clear BK362; clear HB; have HO_362003 := n0_; have HO_363003 := n1_; have BK361 := n2_; have BK362 := n3_; have HB := n4_; clear n0_ n1_ n2_ n3_ n4_; (try clear hb); (try clear hb2); (try clear hk); (try clear hi)))
        go_ret
        exact ⟨by first | rfl | (simp [errW_none, errW_some] <;> rfl) | (simp [*, errW_none, errW_some] <;> rfl), by repeat (first | (with_reducible first | exact HB.out | apply below_alloc | apply pw_below_drewN | apply below_drew1 | refine below_set ?_ GE361.out | refine below_set ?_ GE362.out) | exact HB.out)⟩
/-! ### record_Get: function 37 -/
def record_Get.l0 : Nat → ByteArray → List (S31) → Int → Int → Option (ByteArray × Int × Int × ByteArray × Bool)
  | 0, _, _, _, _ => none
  | k + 1, x1, x9, x10, x11 => if x11 < x10 then (if 0 ≤ x11 then (if x11 < (x9.length : Int) then (if ((rd_T31 x9 x11).f0).toList = x1.toList then (some ((rd_T31 x9 x11).f0, (rd_T31 x9 x11).f1, (rd_T31 x9 x11).f2, (rd_T31 x9 x11).f3, true)) else (record_Get.l0 k x1 x9 x10 (wrap64 (x11 + 1)))) else (none)) else (none)) else (some ((⟨#[]⟩ : ByteArray), 0, 0, (⟨#[]⟩ : ByteArray), false))
def record_Get.f (k : Nat) (a0_0 : Int) (a0_1 : Int) (a0_2 : Int) (l0_3 : List (S31)) (a1 : ByteArray) : Option (ByteArray × Int × Int × ByteArray × Bool) := record_Get.l0 k a1 l0_3 (l0_3.length : Int) 0
theorem record_Get.mono_l : ∀ k, (∀ y0 y1 y2 y3, LeO (record_Get.l0 k y0 y1 y2 y3) (record_Get.l0 (k + 1) y0 y1 y2 y3))
  | 0 => fun _ _ _ _ r h => by simp [record_Get.l0] at h
  | k + 1 => by
    have ih0 := record_Get.mono_l k
    · intro y0 y1 y2 y3
      unfold record_Get.l0
      repeat' first
      | (with_reducible exact ih0 _ _ _ _)
      | (with_reducible exact LeO.refl _)
      | (with_reducible exact LeO.none _)
      | (with_reducible refine LeO.ite ?_ ?_)
      | (with_reducible refine LeO.bind ?_ (fun _ => ?_))
      | exact ih0 _ _ _ _
      | exact LeO.none _
      | refine LeO.ite ?_ ?_
      | refine LeO.bind ?_ (fun _ => ?_)
theorem record_Get.mono : ∀ a0 a1 a2 a3 a4 k, LeO (record_Get.f k a0 a1 a2 a3 a4) (record_Get.f (k + 1) a0 a1 a2 a3 a4) := by
  intro a0 a1 a2 a3 a4 k
  have ih0 := record_Get.mono_l k
  unfold record_Get.f
  repeat' first
      | (with_reducible exact ih0 _ _ _ _)
      | (with_reducible exact LeO.refl _)
      | (with_reducible exact LeO.none _)
      | (with_reducible refine LeO.ite ?_ ?_)
      | (with_reducible refine LeO.bind ?_ (fun _ => ?_))
      | exact ih0 _ _ _ _
      | exact LeO.none _
      | refine LeO.ite ?_ ?_
      | refine LeO.bind ?_ (fun _ => ?_)
/-! ### kauditref03_Get: function 38 -/
def kauditref03_Get.l0 : Nat → ByteArray → Int → Int → Int → Int → List (S31) → Option (ByteArray × Int × Int × ByteArray × Bool)
  | 0, _, _, _, _, _, _ => none
  | k + 1, x1, x6, x398000, x398001, x398002, x398003 => if x6 < (x398003.length : Int) then (if 0 ≤ x6 then (if ((rd_T31 x398003 x6).f0).toList = x1.toList then (some ((rd_T31 x398003 x6).f0, (rd_T31 x398003 x6).f1, (rd_T31 x398003 x6).f2, (rd_T31 x398003 x6).f3, true)) else (kauditref03_Get.l0 k x1 (wrap64 (x6 + 1)) x398000 x398001 x398002 x398003)) else (none)) else (some ((⟨#[]⟩ : ByteArray), 0, 0, (⟨#[]⟩ : ByteArray), false))
def kauditref03_Get.f (k : Nat) (a0_0 : Int) (a0_1 : Int) (a0_2 : Int) (l0_3 : List (S31)) (a1 : ByteArray) : Option (ByteArray × Int × Int × ByteArray × Bool) := kauditref03_Get.l0 k a1 0 a0_0 a0_1 a0_2 l0_3
theorem kauditref03_Get.mono_l : ∀ k, (∀ y0 y1 y2 y3 y4 y5, LeO (kauditref03_Get.l0 k y0 y1 y2 y3 y4 y5) (kauditref03_Get.l0 (k + 1) y0 y1 y2 y3 y4 y5))
  | 0 => fun _ _ _ _ _ _ r h => by simp [kauditref03_Get.l0] at h
  | k + 1 => by
    have ih0 := kauditref03_Get.mono_l k
    · intro y0 y1 y2 y3 y4 y5
      unfold kauditref03_Get.l0
      repeat' first
      | (with_reducible exact ih0 _ _ _ _ _ _)
      | (with_reducible exact LeO.refl _)
      | (with_reducible exact LeO.none _)
      | (with_reducible refine LeO.ite ?_ ?_)
      | (with_reducible refine LeO.bind ?_ (fun _ => ?_))
      | exact ih0 _ _ _ _ _ _
      | exact LeO.none _
      | refine LeO.ite ?_ ?_
      | refine LeO.bind ?_ (fun _ => ?_)
theorem kauditref03_Get.mono : ∀ a0 a1 a2 a3 a4 k, LeO (kauditref03_Get.f k a0 a1 a2 a3 a4) (kauditref03_Get.f (k + 1) a0 a1 a2 a3 a4) := by
  intro a0 a1 a2 a3 a4 k
  have ih0 := kauditref03_Get.mono_l k
  unfold kauditref03_Get.f
  repeat' first
      | (with_reducible exact ih0 _ _ _ _ _ _)
      | (with_reducible exact LeO.refl _)
      | (with_reducible exact LeO.none _)
      | (with_reducible refine LeO.ite ?_ ?_)
      | (with_reducible refine LeO.bind ?_ (fun _ => ?_))
      | exact ih0 _ _ _ _ _ _
      | exact LeO.none _
      | refine LeO.ite ?_ ?_
      | refine LeO.bind ?_ (fun _ => ?_)
end Go.Proofs.YtkfddpbmclbdhaaDoor.PA
