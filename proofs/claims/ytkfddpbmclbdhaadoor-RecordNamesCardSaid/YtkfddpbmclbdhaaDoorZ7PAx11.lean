/- Contracts of functions of the program: written by pr2.py (ours, round the print of the kit) out of the translation; conditions: each contract names its own. -/
import Derived.Test.YtkfddpbmclbdhaaDoorZ7PAx0
import Derived.Test.YtkfddpbmclbdhaaDoorZ7PAx1
import Derived.Test.YtkfddpbmclbdhaaDoorZ7PAx3
import Derived.Test.YtkfddpbmclbdhaaDoorZ7PAx7
import Derived.Test.YtkfddpbmclbdhaaDoorZ7PAx10
import Derived.Test.YtkfddpbmclbdhaaDoorZ7GT
import Derived.Test.YtkfddpbmclbdhaaDoorZ7EForm
namespace Go.Proofs.YtkfddpbmclbdhaaDoor.PA
open Go.RowKit Go.Proofs.YtkfddpbmclbdhaaDoorW.PrintWords Go.Proofs.YtkfddpbmclbdhaaDoorW.PrintLast Go.Proofs.YtkfddpbmclbdhaaDoorW.PrintMore
attribute [local go_sem] max2_int min2_int max_two min_two max_three min_three max_four min_four   -- for this text's walks alone
set_option linter.unusedVariables false
set_option linter.unusedSimpArgs false
attribute [local go_sem high] eqA31
/-! ### kauditlaw02_ValueDiffer: function 7 -/
def kauditlaw02_ValueDiffer.f (k : Nat) (l0 : List Int) : Option (Bool) := (kauditmake_New.f l0).bind fun bt225 => ((kauditmake_Src_Pair.f k bt225.1 bt225.2).bind fun bt228 => ((kauditmake_Src_Pair.f k bt225.1 bt228.2.2.2.2).bind fun bt233 => ((kauditmake_Src_N.f bt225.1 bt233.2.2.2.2 3).bind fun bt240 => (if bt240.1 = 0 then ((value_Format.f k bt228.1 bt228.2.1 bt228.2.2.1 bt228.2.2.2.1).bind fun bt242 => ((value_Format.f k bt228.1 bt233.2.1 bt233.2.2.1 bt233.2.2.2.1).bind fun bt244 => (if bt242.2 = 0 then (if bt244.2 = 0 then (if ((bt242.1.toList == bt244.1.toList) == (bt228.2.1 == bt233.2.1 && (bt228.2.2.1 == bt233.2.2.1 && (bt228.2.2.2.1.toList == bt233.2.2.2.1.toList)))) = true then ((kauditlaw02_awake.f).bind fun t246 => (some t246)) else (some false)) else ((kauditlaw02_awake.f).bind fun t247 => (some t247))) else ((kauditlaw02_awake.f).bind fun t248 => (some t248))))) else ((value_Format.f k bt228.1 bt228.2.1 bt228.2.2.1 bt228.2.2.2.1).bind fun bt249 => ((value_Format.f k bt233.1 bt233.2.1 bt233.2.2.1 bt233.2.2.2.1).bind fun bt251 => (if bt249.2 = 0 then (if bt251.2 = 0 then (if ((bt249.1.toList == bt251.1.toList) == (bt228.1.toList == bt233.1.toList && (bt228.2.1 == bt233.2.1 && (bt228.2.2.1 == bt233.2.2.1 && (bt228.2.2.2.1.toList == bt233.2.2.2.1.toList))))) = true then ((kauditlaw02_awake.f).bind fun t253 => (some t253)) else (some false)) else ((kauditlaw02_awake.f).bind fun t254 => (some t254))) else ((kauditlaw02_awake.f).bind fun t255 => (some t255)))))))))
theorem kauditlaw02_ValueDiffer.mono : ∀ a0 k, LeO (kauditlaw02_ValueDiffer.f k a0) (kauditlaw02_ValueDiffer.f (k + 1) a0) := by
  intro a0 k
  unfold kauditlaw02_ValueDiffer.f
  repeat' first
      | (with_reducible exact kauditmake_Src_Pair.mono _ _ _)
      | (with_reducible exact value_Format.mono _ _ _ _ _)
      | (with_reducible exact LeO.refl _)
      | (with_reducible exact LeO.none _)
      | (with_reducible refine LeO.ite ?_ ?_)
      | (with_reducible refine LeO.bind ?_ (fun _ => ?_))
      | exact kauditmake_Src_Pair.mono _ _ _
      | exact value_Format.mono _ _ _ _ _
      | exact LeO.none _
      | refine LeO.ite ?_ ?_
      | refine LeO.bind ?_ (fun _ => ?_)
/-! ### kauditlaw03_light: function 31 -/
def kauditlaw03_light.l0 : Nat → Int → Int → Int → Int → List (S31) → Option (Bool)
  | 0, _, _, _, _, _ => none
  | k + 1, x3, x257000, x257001, x257002, x257003 => if x3 < (x257003.length : Int) then (if 0 ≤ x3 then (if (((rd_T31 x257003 x3).f0).size : Int) > 40 then (some false) else (if (((rd_T31 x257003 x3).f3).size : Int) > 700 then (some false) else (kauditlaw03_light.l0 k (wrap64 (x3 + 1)) x257000 x257001 x257002 x257003))) else (none)) else (some true)
def kauditlaw03_light.f (k : Nat) (a0_0 : Int) (a0_1 : Int) (a0_2 : Int) (l0_3 : List (S31)) : Option (Bool) := if (l0_3.length : Int) > 40 then (some false) else (kauditlaw03_light.l0 k 0 a0_0 a0_1 a0_2 l0_3)
theorem kauditlaw03_light.mono_l : ∀ k, (∀ y0 y1 y2 y3 y4, LeO (kauditlaw03_light.l0 k y0 y1 y2 y3 y4) (kauditlaw03_light.l0 (k + 1) y0 y1 y2 y3 y4))
  | 0 => fun _ _ _ _ _ r h => by simp [kauditlaw03_light.l0] at h
  | k + 1 => by
    have ih0 := kauditlaw03_light.mono_l k
    · intro y0 y1 y2 y3 y4
      unfold kauditlaw03_light.l0
      repeat' first
      | (with_reducible exact ih0 _ _ _ _ _)
      | (with_reducible exact LeO.refl _)
      | (with_reducible exact LeO.none _)
      | (with_reducible refine LeO.ite ?_ ?_)
      | (with_reducible refine LeO.bind ?_ (fun _ => ?_))
      | exact ih0 _ _ _ _ _
      | exact LeO.none _
      | refine LeO.ite ?_ ?_
      | refine LeO.bind ?_ (fun _ => ?_)
theorem kauditlaw03_light.mono : ∀ a0 a1 a2 a3 k, LeO (kauditlaw03_light.f k a0 a1 a2 a3) (kauditlaw03_light.f (k + 1) a0 a1 a2 a3) := by
  intro a0 a1 a2 a3 k
  have ih0 := kauditlaw03_light.mono_l k
  unfold kauditlaw03_light.f
  repeat' first
      | (with_reducible exact ih0 _ _ _ _ _)
      | (with_reducible exact LeO.refl _)
      | (with_reducible exact LeO.none _)
      | (with_reducible refine LeO.ite ?_ ?_)
      | (with_reducible refine LeO.bind ?_ (fun _ => ?_))
      | exact ih0 _ _ _ _ _
      | exact LeO.none _
      | refine LeO.ite ?_ ?_
      | refine LeO.bind ?_ (fun _ => ?_)
/-! ### kauditlaw03_awake: function 32 -/
def kauditlaw03_awake.f  : Option (Bool) := (record_Format.f 1307 12345 7 (([(⟨(⟨#[99, 119, 100]⟩ : ByteArray), 2, 0, (⟨#[47, 116, 109, 112]⟩ : ByteArray)⟩ : S31)] : List (S31)))).bind fun bt262 => (if bt262.2 = 0 then (some (bt262.1.toList == ([116, 121, 112, 101, 61, 67, 87, 68, 32, 109, 115, 103, 61, 97, 117, 100, 105, 116, 40, 49, 50, 46, 51, 52, 53, 58, 55, 41, 58, 32, 99, 119, 100, 61, 34, 47, 116, 109, 112, 34] : List UInt8))) else (some false))
set_option maxHeartbeats 8000000 in
set_option maxRecDepth 100000 in
theorem kauditlaw03_awake.calls  (r : Bool) (w : World) (hG : GT 2 w) (h : kauditlaw03_awake.f  = some r) :
    Calls Tryd.prog 32 #[] w fun e w' => e = .returned (.bool r) ∧ Below w.heap.size w w' := by
  have hu31 := Tryd.underlying31
  have hu43 := Tryd.underlying43
  have HG := Aside0.mk hG
  clear hG
  have HB := Aside0.mk (Below.refl w.heap.size w)
  have H : ((record_Format.f 1307 12345 7 (([(⟨(⟨#[99, 119, 100]⟩ : ByteArray), 2, 0, (⟨#[47, 116, 109, 112]⟩ : ByteArray)⟩ : S31)] : List (S31)))).bind fun bt262 => (if bt262.2 = 0 then (some (bt262.1.toList == ([116, 121, 112, 101, 61, 67, 87, 68, 32, 109, 115, 103, 61, 97, 117, 100, 105, 116, 40, 49, 50, 46, 51, 52, 53, 58, 55, 41, 58, 32, 99, 119, 100, 61, 34, 47, 116, 109, 112, 34] : List UInt8))) else (some false))) = some r := h
  clear h
  obtain ⟨y259, hy259⟩ : ∃ y_ : List (S31), y_ = (([(⟨(⟨#[99, 119, 100]⟩ : ByteArray), 2, 0, (⟨#[47, 116, 109, 112]⟩ : ByteArray)⟩ : S31)] : List (S31))) := ⟨_, rfl⟩
  replace H : ((record_Format.f 1307 12345 7 y259).bind fun bt262 => (if bt262.2 = 0 then (some (bt262.1.toList == ([116, 121, 112, 101, 61, 67, 87, 68, 32, 109, 115, 103, 61, 97, 117, 100, 105, 116, 40, 49, 50, 46, 51, 52, 53, 58, 55, 41, 58, 32, 99, 119, 100, 61, 34, 47, 116, 109, 112, 34] : List UInt8))) else (some false))) = some r := by first | (rw [hy259]; with_reducible exact H) | (have H2_ := (Option.bind_some _ _).symm.trans H; rw [hy259]; with_reducible exact H2_) | (have H2_ := (Option.bind_some _ _).symm.trans H; with_reducible exact H2_) | with_reducible exact H | (rw [hy259]; exact H) | exact H
  have Ny259 := Aside0.mk hy259
  clear hy259
  replace H := Option.bind_eq_some_iff.mp H
  obtain ⟨⟨t262, t263⟩, A10, H⟩ := H
  replace H : (if t263 = 0 then (some (t262.toList == ([116, 121, 112, 101, 61, 67, 87, 68, 32, 109, 115, 103, 61, 97, 117, 100, 105, 116, 40, 49, 50, 46, 51, 52, 53, 58, 55, 41, 58, 32, 99, 119, 100, 61, 34, 47, 116, 109, 112, 34] : List UInt8))) else (some false)) = some r := H
  have A1 := Aside0.mk A10
  clear A10
  by_cases c2 : t263 = 0
  · rw [if_pos c2] at H
    have c2b0 : (t263 == 0) = true := beq_iff_eq.mpr c2
    have c2b1 : (t263 != 0) = false := bne_eq_false_iff_eq.mpr c2
    clear c2
    obtain rfl := Option.some.inj H
    go_enter Tryd.func32, Tryd.ntmps32
    go_wp2_with (first | ((with_reducible refine gate_dst (N := 5) rfl ?_); refine Kd.R_lit k31 _ 31 ?hg (N := 5) ?hd (xs := ([(⟨(⟨#[99, 119, 100]⟩ : ByteArray), 2, 0, (⟨#[47, 116, 109, 112]⟩ : ByteArray)⟩ : S31)] : List (S31))) (inner := [.string (⟨#[99, 119, 100]⟩ : ByteArray), .int .i64 2, .int .i64 0, .string (⟨#[47, 116, 109, 112]⟩ : ByteArray)]) (ok := fun _ => True) (okp := fun _ => True) ?hr ?hp (fun _ hk => hk) trivial (Below.refl _ _) (Nat.le_refl _) (by simp) ?_; (case hd => rfl); (case hg => rfl); (case hr => first | (go_simp; done) | (go_simp; rfl)); (case hp => exact (Reps.c4 (show Kd.M k31 _ _ _ (⟨(⟨#[99, 119, 100]⟩ : ByteArray), 2, 0, (⟨#[47, 116, 109, 112]⟩ : ByteArray)⟩ : S31) [.string (⟨#[99, 119, 100]⟩ : ByteArray), .int .i64 2, .int .i64 0, .string (⟨#[47, 116, 109, 112]⟩ : ByteArray)] from (k31_mkM _ _ _ (⟨(⟨#[99, 119, 100]⟩ : ByteArray), 2, 0, (⟨#[47, 116, 109, 112]⟩ : ByteArray)⟩ : S31) )) (Reps.none _ _))); intro v260 w3 ho4 hb hg_ hnew_; clear hg_ hnew_; (first | rw [← Ny259.out] at ho4 | (simp only [Int.reduceToNat] at ho4; rw [← Ny259.out] at ho4)); have n0_ := Aside0.mk (Kd.R_lower ho4 (below_size (by repeat (first | (with_reducible first | exact HB.out | apply below_alloc | apply pw_below_drewN | apply below_drew1) | exact HB.out)))); have n1_ := Aside0.mk (below_step (by repeat (first | (with_reducible first | exact HB.out | apply below_alloc | apply pw_below_drewN | apply below_drew1) | exact HB.out)) hb); clear HB; have HO261 := n0_; have HB := n1_; clear n0_ n1_; clear hb ho4; obtain ⟨Ao5, co5, eo5⟩ := Kd.R_slice HO261.out; subst eo5) | ((with_reducible refine gate_callee (f := 35) rfl ?_); refine goesL_ (some 7) rfl rfl Tryd.func35 (by kernel_rfl) rfl #[.agg #[.int .i64 1307, .int .i64 12345, .int .i64 7, .slice Ao5 y259.length co5]] rfl (by (try simp only [List.map_toArray, List.map_cons, List.map_nil]); first | done | rfl | (simp only [List.length_drop, List.length_take]; rfl)) ?_; (with_reducible refine (record_Format.calls 1307 12345 7 _ _ y259 t262 t263 _ ?side1 ?side2 ?side3 A1.out).mono ?_); (case side1 => exact GT.below (by decide) HG.out (by repeat (first | (with_reducible first | exact HB.out | apply below_alloc | apply pw_below_drewN | apply below_drew1) | exact HB.out))); (case side2 => repeat (first | exact (Kd.R_reads' HO261.out).2.2 | (with_reducible refine Kd.C_alloc ?_ _) | (with_reducible refine Kd.C_drewN ?_ _) | (with_reducible refine Kd.C_drew ?_))); (case side3 => exact (Kd.R_reads' HO261.out).2.1); rintro e w6 ⟨rfl, hb⟩; refine ⟨_, rfl, ?_⟩; have n0_ := Aside0.mk (Kd.R_below (by (with_reducible repeat (first | apply Kd.R_alloc | apply Kd.R_drewN | apply Kd.R_drew)); exact HO261.out) hb); have n1_ := Aside0.mk (below_step (by repeat (first | (with_reducible first | exact HB.out | apply below_alloc | apply pw_below_drewN | apply below_drew1) | exact HB.out)) hb); clear HO261; clear HB; have HO261 := n0_; have HB := n1_; clear n0_ n1_; (try clear hb); (try clear hb2); (try clear hk); (try clear hi)))
    go_ret
    exact ⟨by first | rfl | (simp [errW_none, errW_some] <;> rfl) | (simp [*, errW_none, errW_some] <;> rfl), by repeat (first | (with_reducible first | exact HB.out | apply below_alloc | apply pw_below_drewN | apply below_drew1) | exact HB.out)⟩
  · rw [if_neg c2] at H
    have c2b0 : (t263 == 0) = false := beq_eq_false_iff_ne.mpr c2
    have c2b1 : (t263 != 0) = true := bne_iff_ne.mpr c2
    obtain rfl := Option.some.inj H
    go_enter Tryd.func32, Tryd.ntmps32
    go_wp2_with (first | ((with_reducible refine gate_dst (N := 5) rfl ?_); refine Kd.R_lit k31 _ 31 ?hg (N := 5) ?hd (xs := ([(⟨(⟨#[99, 119, 100]⟩ : ByteArray), 2, 0, (⟨#[47, 116, 109, 112]⟩ : ByteArray)⟩ : S31)] : List (S31))) (inner := [.string (⟨#[99, 119, 100]⟩ : ByteArray), .int .i64 2, .int .i64 0, .string (⟨#[47, 116, 109, 112]⟩ : ByteArray)]) (ok := fun _ => True) (okp := fun _ => True) ?hr ?hp (fun _ hk => hk) trivial (Below.refl _ _) (Nat.le_refl _) (by simp) ?_; (case hd => rfl); (case hg => rfl); (case hr => first | (go_simp; done) | (go_simp; rfl)); (case hp => exact (Reps.c4 (show Kd.M k31 _ _ _ (⟨(⟨#[99, 119, 100]⟩ : ByteArray), 2, 0, (⟨#[47, 116, 109, 112]⟩ : ByteArray)⟩ : S31) [.string (⟨#[99, 119, 100]⟩ : ByteArray), .int .i64 2, .int .i64 0, .string (⟨#[47, 116, 109, 112]⟩ : ByteArray)] from (k31_mkM _ _ _ (⟨(⟨#[99, 119, 100]⟩ : ByteArray), 2, 0, (⟨#[47, 116, 109, 112]⟩ : ByteArray)⟩ : S31) )) (Reps.none _ _))); intro v260 w7 ho8 hb hg_ hnew_; clear hg_ hnew_; (first | rw [← Ny259.out] at ho8 | (simp only [Int.reduceToNat] at ho8; rw [← Ny259.out] at ho8)); have n0_ := Aside0.mk (Kd.R_lower ho8 (below_size (by repeat (first | (with_reducible first | exact HB.out | apply below_alloc | apply pw_below_drewN | apply below_drew1) | exact HB.out)))); have n1_ := Aside0.mk (below_step (by repeat (first | (with_reducible first | exact HB.out | apply below_alloc | apply pw_below_drewN | apply below_drew1) | exact HB.out)) hb); clear HB; have HO261 := n0_; have HB := n1_; clear n0_ n1_; clear hb ho8; obtain ⟨Ao9, co9, eo9⟩ := Kd.R_slice HO261.out; subst eo9) | ((with_reducible refine gate_callee (f := 35) rfl ?_); refine goesL_ (some 7) rfl rfl Tryd.func35 (by kernel_rfl) rfl #[.agg #[.int .i64 1307, .int .i64 12345, .int .i64 7, .slice Ao9 y259.length co9]] rfl (by (try simp only [List.map_toArray, List.map_cons, List.map_nil]); first | done | rfl | (simp only [List.length_drop, List.length_take]; rfl)) ?_; (with_reducible refine (record_Format.calls 1307 12345 7 _ _ y259 t262 t263 _ ?side1 ?side2 ?side3 A1.out).mono ?_); (case side1 => exact GT.below (by decide) HG.out (by repeat (first | (with_reducible first | exact HB.out | apply below_alloc | apply pw_below_drewN | apply below_drew1) | exact HB.out))); (case side2 => repeat (first | exact (Kd.R_reads' HO261.out).2.2 | (with_reducible refine Kd.C_alloc ?_ _) | (with_reducible refine Kd.C_drewN ?_ _) | (with_reducible refine Kd.C_drew ?_))); (case side3 => exact (Kd.R_reads' HO261.out).2.1); rintro e w10 ⟨rfl, hb⟩; refine ⟨_, rfl, ?_⟩; have n0_ := Aside0.mk (Kd.R_below (by (with_reducible repeat (first | apply Kd.R_alloc | apply Kd.R_drewN | apply Kd.R_drew)); exact HO261.out) hb); have n1_ := Aside0.mk (below_step (by repeat (first | (with_reducible first | exact HB.out | apply below_alloc | apply pw_below_drewN | apply below_drew1) | exact HB.out)) hb); clear HO261; clear HB; have HO261 := n0_; have HB := n1_; clear n0_ n1_; (try clear hb); (try clear hb2); (try clear hk); (try clear hi)))
    go_ret
    exact ⟨by first | rfl | (simp [errW_none, errW_some] <;> rfl) | (simp [*, errW_none, errW_some] <;> rfl), by repeat (first | (with_reducible first | exact HB.out | apply below_alloc | apply pw_below_drewN | apply below_drew1) | exact HB.out)⟩
/-! ### kauditref03_kinds: function 87 -/
def kauditref03_kinds.f  : Option ((List (S123))) := some (([(⟨(⟨#[85, 83, 69, 82]⟩ : ByteArray), 1005, true⟩ : S123), (⟨(⟨#[68, 65, 69, 77, 79, 78]⟩ : ByteArray), 1200, true⟩ : S123), (⟨(⟨#[83, 89, 83, 67, 65, 76, 76]⟩ : ByteArray), 1300, false⟩ : S123), (⟨(⟨#[80, 65, 84, 72]⟩ : ByteArray), 1302, false⟩ : S123), (⟨(⟨#[67, 79, 78, 70, 73, 71]⟩ : ByteArray), 1305, true⟩ : S123), (⟨(⟨#[83, 79, 67, 75, 65, 68, 68, 82]⟩ : ByteArray), 1306, false⟩ : S123), (⟨(⟨#[67, 87, 68]⟩ : ByteArray), 1307, false⟩ : S123), (⟨(⟨#[69, 88, 69, 67, 86, 69]⟩ : ByteArray), 1309, false⟩ : S123), (⟨(⟨#[69, 79, 69]⟩ : ByteArray), 1320, false⟩ : S123), (⟨(⟨#[76, 79, 83, 83]⟩ : ByteArray), 1331, true⟩ : S123)] : List (S123)))
set_option maxHeartbeats 8000000 in
set_option maxRecDepth 100000 in
theorem kauditref03_kinds.calls  (r : List (S123)) (w : World) (h : kauditref03_kinds.f  = some r) :
    Calls Tryd.prog 87 #[] w fun e w' => ∃ v0_ : Value, e = .returned (v0_) ∧ Kd.R k123 123 w' w.heap.size (fun _ => True) v0_ r ∧ Below w.heap.size w w' := by
  have hu123 := Tryd.underlying123
  have HB := Aside0.mk (Below.refl w.heap.size w)
  have H : (some (([(⟨(⟨#[85, 83, 69, 82]⟩ : ByteArray), 1005, true⟩ : S123), (⟨(⟨#[68, 65, 69, 77, 79, 78]⟩ : ByteArray), 1200, true⟩ : S123), (⟨(⟨#[83, 89, 83, 67, 65, 76, 76]⟩ : ByteArray), 1300, false⟩ : S123), (⟨(⟨#[80, 65, 84, 72]⟩ : ByteArray), 1302, false⟩ : S123), (⟨(⟨#[67, 79, 78, 70, 73, 71]⟩ : ByteArray), 1305, true⟩ : S123), (⟨(⟨#[83, 79, 67, 75, 65, 68, 68, 82]⟩ : ByteArray), 1306, false⟩ : S123), (⟨(⟨#[67, 87, 68]⟩ : ByteArray), 1307, false⟩ : S123), (⟨(⟨#[69, 88, 69, 67, 86, 69]⟩ : ByteArray), 1309, false⟩ : S123), (⟨(⟨#[69, 79, 69]⟩ : ByteArray), 1320, false⟩ : S123), (⟨(⟨#[76, 79, 83, 83]⟩ : ByteArray), 1331, true⟩ : S123)] : List (S123)))) = some r := h
  clear h
  obtain ⟨y264, hy264⟩ : ∃ y_ : List (S123), y_ = (([(⟨(⟨#[85, 83, 69, 82]⟩ : ByteArray), 1005, true⟩ : S123), (⟨(⟨#[68, 65, 69, 77, 79, 78]⟩ : ByteArray), 1200, true⟩ : S123), (⟨(⟨#[83, 89, 83, 67, 65, 76, 76]⟩ : ByteArray), 1300, false⟩ : S123), (⟨(⟨#[80, 65, 84, 72]⟩ : ByteArray), 1302, false⟩ : S123), (⟨(⟨#[67, 79, 78, 70, 73, 71]⟩ : ByteArray), 1305, true⟩ : S123), (⟨(⟨#[83, 79, 67, 75, 65, 68, 68, 82]⟩ : ByteArray), 1306, false⟩ : S123), (⟨(⟨#[67, 87, 68]⟩ : ByteArray), 1307, false⟩ : S123), (⟨(⟨#[69, 88, 69, 67, 86, 69]⟩ : ByteArray), 1309, false⟩ : S123), (⟨(⟨#[69, 79, 69]⟩ : ByteArray), 1320, false⟩ : S123), (⟨(⟨#[76, 79, 83, 83]⟩ : ByteArray), 1331, true⟩ : S123)] : List (S123))) := ⟨_, rfl⟩
  replace H : (some y264) = some r := by first | (rw [hy264]; with_reducible exact H) | (have H2_ := (Option.bind_some _ _).symm.trans H; rw [hy264]; with_reducible exact H2_) | (have H2_ := (Option.bind_some _ _).symm.trans H; with_reducible exact H2_) | with_reducible exact H | (rw [hy264]; exact H) | exact H
  have Ny264 := Aside0.mk hy264
  clear hy264
  obtain rfl := Option.some.inj H
  go_enter Tryd.func87, Tryd.ntmps87
  go_wp2_with (first | ((with_reducible refine gate_dst (N := 11) rfl ?_); refine Kd.R_lit k123 _ 123 ?hg (N := 11) ?hd (xs := ([(⟨(⟨#[85, 83, 69, 82]⟩ : ByteArray), 1005, true⟩ : S123), (⟨(⟨#[68, 65, 69, 77, 79, 78]⟩ : ByteArray), 1200, true⟩ : S123), (⟨(⟨#[83, 89, 83, 67, 65, 76, 76]⟩ : ByteArray), 1300, false⟩ : S123), (⟨(⟨#[80, 65, 84, 72]⟩ : ByteArray), 1302, false⟩ : S123), (⟨(⟨#[67, 79, 78, 70, 73, 71]⟩ : ByteArray), 1305, true⟩ : S123), (⟨(⟨#[83, 79, 67, 75, 65, 68, 68, 82]⟩ : ByteArray), 1306, false⟩ : S123), (⟨(⟨#[67, 87, 68]⟩ : ByteArray), 1307, false⟩ : S123), (⟨(⟨#[69, 88, 69, 67, 86, 69]⟩ : ByteArray), 1309, false⟩ : S123), (⟨(⟨#[69, 79, 69]⟩ : ByteArray), 1320, false⟩ : S123), (⟨(⟨#[76, 79, 83, 83]⟩ : ByteArray), 1331, true⟩ : S123)] : List (S123))) (inner := [.string (⟨#[85, 83, 69, 82]⟩ : ByteArray), .int .i64 1005, .bool true, .string (⟨#[68, 65, 69, 77, 79, 78]⟩ : ByteArray), .int .i64 1200, .bool true, .string (⟨#[83, 89, 83, 67, 65, 76, 76]⟩ : ByteArray), .int .i64 1300, .bool false, .string (⟨#[80, 65, 84, 72]⟩ : ByteArray), .int .i64 1302, .bool false, .string (⟨#[67, 79, 78, 70, 73, 71]⟩ : ByteArray), .int .i64 1305, .bool true, .string (⟨#[83, 79, 67, 75, 65, 68, 68, 82]⟩ : ByteArray), .int .i64 1306, .bool false, .string (⟨#[67, 87, 68]⟩ : ByteArray), .int .i64 1307, .bool false, .string (⟨#[69, 88, 69, 67, 86, 69]⟩ : ByteArray), .int .i64 1309, .bool false, .string (⟨#[69, 79, 69]⟩ : ByteArray), .int .i64 1320, .bool false, .string (⟨#[76, 79, 83, 83]⟩ : ByteArray), .int .i64 1331, .bool true]) (ok := fun _ => True) (okp := fun _ => True) ?hr ?hp (fun _ hk => hk) trivial (Below.refl _ _) (Nat.le_refl _) (by simp) ?_; (case hd => rfl); (case hg => rfl); (case hr => first | (go_simp; done) | (go_simp; rfl)); (case hp => exact (Reps.c3 (show Kd.M k123 _ _ _ (⟨(⟨#[85, 83, 69, 82]⟩ : ByteArray), 1005, true⟩ : S123) [.string (⟨#[85, 83, 69, 82]⟩ : ByteArray), .int .i64 1005, .bool true] from (k123_mkM _ _ _ (⟨(⟨#[85, 83, 69, 82]⟩ : ByteArray), 1005, true⟩ : S123) )) (Reps.c3 (show Kd.M k123 _ _ _ (⟨(⟨#[68, 65, 69, 77, 79, 78]⟩ : ByteArray), 1200, true⟩ : S123) [.string (⟨#[68, 65, 69, 77, 79, 78]⟩ : ByteArray), .int .i64 1200, .bool true] from (k123_mkM _ _ _ (⟨(⟨#[68, 65, 69, 77, 79, 78]⟩ : ByteArray), 1200, true⟩ : S123) )) (Reps.c3 (show Kd.M k123 _ _ _ (⟨(⟨#[83, 89, 83, 67, 65, 76, 76]⟩ : ByteArray), 1300, false⟩ : S123) [.string (⟨#[83, 89, 83, 67, 65, 76, 76]⟩ : ByteArray), .int .i64 1300, .bool false] from (k123_mkM _ _ _ (⟨(⟨#[83, 89, 83, 67, 65, 76, 76]⟩ : ByteArray), 1300, false⟩ : S123) )) (Reps.c3 (show Kd.M k123 _ _ _ (⟨(⟨#[80, 65, 84, 72]⟩ : ByteArray), 1302, false⟩ : S123) [.string (⟨#[80, 65, 84, 72]⟩ : ByteArray), .int .i64 1302, .bool false] from (k123_mkM _ _ _ (⟨(⟨#[80, 65, 84, 72]⟩ : ByteArray), 1302, false⟩ : S123) )) (Reps.c3 (show Kd.M k123 _ _ _ (⟨(⟨#[67, 79, 78, 70, 73, 71]⟩ : ByteArray), 1305, true⟩ : S123) [.string (⟨#[67, 79, 78, 70, 73, 71]⟩ : ByteArray), .int .i64 1305, .bool true] from (k123_mkM _ _ _ (⟨(⟨#[67, 79, 78, 70, 73, 71]⟩ : ByteArray), 1305, true⟩ : S123) )) (Reps.c3 (show Kd.M k123 _ _ _ (⟨(⟨#[83, 79, 67, 75, 65, 68, 68, 82]⟩ : ByteArray), 1306, false⟩ : S123) [.string (⟨#[83, 79, 67, 75, 65, 68, 68, 82]⟩ : ByteArray), .int .i64 1306, .bool false] from (k123_mkM _ _ _ (⟨(⟨#[83, 79, 67, 75, 65, 68, 68, 82]⟩ : ByteArray), 1306, false⟩ : S123) )) (Reps.c3 (show Kd.M k123 _ _ _ (⟨(⟨#[67, 87, 68]⟩ : ByteArray), 1307, false⟩ : S123) [.string (⟨#[67, 87, 68]⟩ : ByteArray), .int .i64 1307, .bool false] from (k123_mkM _ _ _ (⟨(⟨#[67, 87, 68]⟩ : ByteArray), 1307, false⟩ : S123) )) (Reps.c3 (show Kd.M k123 _ _ _ (⟨(⟨#[69, 88, 69, 67, 86, 69]⟩ : ByteArray), 1309, false⟩ : S123) [.string (⟨#[69, 88, 69, 67, 86, 69]⟩ : ByteArray), .int .i64 1309, .bool false] from (k123_mkM _ _ _ (⟨(⟨#[69, 88, 69, 67, 86, 69]⟩ : ByteArray), 1309, false⟩ : S123) )) (Reps.c3 (show Kd.M k123 _ _ _ (⟨(⟨#[69, 79, 69]⟩ : ByteArray), 1320, false⟩ : S123) [.string (⟨#[69, 79, 69]⟩ : ByteArray), .int .i64 1320, .bool false] from (k123_mkM _ _ _ (⟨(⟨#[69, 79, 69]⟩ : ByteArray), 1320, false⟩ : S123) )) (Reps.c3 (show Kd.M k123 _ _ _ (⟨(⟨#[76, 79, 83, 83]⟩ : ByteArray), 1331, true⟩ : S123) [.string (⟨#[76, 79, 83, 83]⟩ : ByteArray), .int .i64 1331, .bool true] from (k123_mkM _ _ _ (⟨(⟨#[76, 79, 83, 83]⟩ : ByteArray), 1331, true⟩ : S123) )) (Reps.none _ _)))))))))))); intro v265 w1 ho2 hb hg_ hnew_; clear hg_ hnew_; (first | rw [← Ny264.out] at ho2 | (simp only [Int.reduceToNat] at ho2; rw [← Ny264.out] at ho2)); have n0_ := Aside0.mk (Kd.R_lower ho2 (below_size (by repeat (first | (with_reducible first | exact HB.out | apply below_alloc | apply pw_below_drewN | apply below_drew1) | exact HB.out)))); have n1_ := Aside0.mk (below_step (by repeat (first | (with_reducible first | exact HB.out | apply below_alloc | apply pw_below_drewN | apply below_drew1) | exact HB.out)) hb); clear HB; have HO266 := n0_; have HB := n1_; clear n0_ n1_; clear hb ho2))
  go_ret
  exact ⟨_, by first | rfl | (simp [errW_none, errW_some] <;> rfl) | (simp [*, errW_none, errW_some] <;> rfl), by (with_reducible repeat (first | apply Kd.R_alloc | apply Kd.R_drewN | apply Kd.R_drew)); exact HO266.out, by repeat (first | (with_reducible first | exact HB.out | apply below_alloc | apply pw_below_drewN | apply below_drew1) | exact HB.out)⟩
/-! ### kauditref03_find: function 90 -/
def kauditref03_find.l0 : Nat → Int → List (S123) → Int → Option (ByteArray × Int × Bool × Bool)
  | 0, _, _, _ => none
  | k + 1, x0, x4, x5 => if x5 < (x4.length : Int) then (if 0 ≤ x5 then (if ((rd_T123 x4 x5).f1) = x0 then (some ((rd_T123 x4 x5).f0, (rd_T123 x4 x5).f1, (rd_T123 x4 x5).f2, true)) else (kauditref03_find.l0 k x0 x4 (wrap64 (x5 + 1)))) else (none)) else (some ((⟨#[]⟩ : ByteArray), 0, false, false))
def kauditref03_find.f (k : Nat) (a0 : Int) : Option (ByteArray × Int × Bool × Bool) := (kauditref03_kinds.f).bind fun t268 => (kauditref03_find.l0 k a0 t268 0)
theorem kauditref03_find.mono_l : ∀ k, (∀ y0 y1 y2, LeO (kauditref03_find.l0 k y0 y1 y2) (kauditref03_find.l0 (k + 1) y0 y1 y2))
  | 0 => fun _ _ _ r h => by simp [kauditref03_find.l0] at h
  | k + 1 => by
    have ih0 := kauditref03_find.mono_l k
    · intro y0 y1 y2
      unfold kauditref03_find.l0
      repeat' first
      | (with_reducible exact ih0 _ _ _)
      | (with_reducible exact LeO.refl _)
      | (with_reducible exact LeO.none _)
      | (with_reducible refine LeO.ite ?_ ?_)
      | (with_reducible refine LeO.bind ?_ (fun _ => ?_))
      | exact ih0 _ _ _
      | exact LeO.none _
      | refine LeO.ite ?_ ?_
      | refine LeO.bind ?_ (fun _ => ?_)
theorem kauditref03_find.mono : ∀ a0 k, LeO (kauditref03_find.f k a0) (kauditref03_find.f (k + 1) a0) := by
  intro a0 k
  have ih0 := kauditref03_find.mono_l k
  unfold kauditref03_find.f
  repeat' first
      | (with_reducible exact ih0 _ _ _)
      | (with_reducible exact LeO.refl _)
      | (with_reducible exact LeO.none _)
      | (with_reducible refine LeO.ite ?_ ?_)
      | (with_reducible refine LeO.bind ?_ (fun _ => ?_))
      | exact ih0 _ _ _
      | exact LeO.none _
      | refine LeO.ite ?_ ?_
      | refine LeO.bind ?_ (fun _ => ?_)
set_option maxHeartbeats 8000000 in
set_option maxRecDepth 100000 in
theorem kauditref03_find.calls (k : Nat) (a0 : Int) (r1 : ByteArray) (r2 : Int) (r3 : Bool) (r4 : Bool) (w : World) (h : kauditref03_find.f k a0 = some (r1, r2, r3, r4)) :
    Calls Tryd.prog 90 #[.int .i64 a0] w fun e w' => e = .returned (.tuple #[.agg #[.string r1, .int .i64 r2, .bool r3], .bool r4]) ∧ Below w.heap.size w w' := by
  have hu123 := Tryd.underlying123
  have HB := Aside0.mk (Below.refl w.heap.size w)
  have H : ((kauditref03_kinds.f).bind fun t268 => (kauditref03_find.l0 k a0 t268 0)) = some (r1, r2, r3, r4) := h
  clear h
  replace H := Option.bind_eq_some_iff.mp H
  obtain ⟨t268, A20, H⟩ := H
  replace H : (kauditref03_find.l0 k a0 t268 0) = some (r1, r2, r3, r4) := H
  have A2 := Aside0.mk A20
  clear A20
  have H' := Aside0.mk H
  clear H
  go_enter Tryd.func90, Tryd.ntmps90
  go_wp2_with (first | ((with_reducible refine gate_dst (N := 2) rfl ?_); refine box_event ?hg (N := 2) ?hd (cs := #[.string (⟨#[]⟩ : ByteArray), .int .i64 0, .bool false]) (t := 123) ?hr ?_; (case hd => rfl); (case hg => rfl); (case hr => first | (go_simp; done) | (go_simp; rfl)); intro gb267 hg w3 hbox hb; have n0_ := Aside0.mk (below_step (by repeat (first | (with_reducible first | exact HB.out | apply below_alloc | apply pw_below_drewN | apply below_drew1) | exact HB.out)) hb); have n1_ := Aside0.mk (hbox); have n2_ := Aside0.mk ((by rw [hg]; exact (below_size (by repeat (first | (with_reducible first | exact HB.out | apply below_alloc | apply pw_below_drewN | apply below_drew1) | exact HB.out))) : w.heap.size ≤ gb267)); have n3_ := Aside0.mk ((by rw [hg]; exact (below_size (by repeat (first | (with_reducible first | exact HB.out | apply below_alloc | apply pw_below_drewN | apply below_drew1) | exact HB.out))) : w.heap.size ≤ gb267)); clear HB; have HB := n0_; have BK267 := n1_; have GW267 := n2_; have GE267 := n3_; clear n0_ n1_ n2_ n3_; clear hb hbox hg) | ((with_reducible refine gate_callee (f := 87) rfl ?_); refine goesL_ (some 6) rfl rfl Tryd.func87 (by kernel_rfl) rfl #[] rfl (by (try simp only [List.map_toArray, List.map_cons, List.map_nil]); first | done | rfl | (simp only [List.length_drop, List.length_take]; rfl)) ?_; (with_reducible refine (kauditref03_kinds.calls  t268 _ A2.out).mono ?_); rintro e w4 ⟨v269, rfl, ho0, hb⟩; refine ⟨_, rfl, ?_⟩; have n0_ := Aside0.mk (Kd.R_lower (Kd.R_newB ho0 (g := gb267) (o := .cells #[.string (⟨#[]⟩ : ByteArray), .int .i64 0, .bool false] 123 (0, 0)) (by (with_reducible repeat (first | refine blk_drewN ?_ _ | refine blk_drew ?_ | refine blk_alloc ?_ _)); exact BK267.out)) (below_size (by repeat (first | (with_reducible first | exact HB.out | apply below_alloc | apply pw_below_drewN | apply below_drew1 | refine below_set ?_ GE267.out) | exact HB.out)))); have n1_ := Aside0.mk (blk_below (g := gb267) (o := .cells #[.string (⟨#[]⟩ : ByteArray), .int .i64 0, .bool false] 123 (0, 0)) (by (with_reducible repeat (first | refine blk_drewN ?_ _ | refine blk_drew ?_ | refine blk_alloc ?_ _)); exact BK267.out) hb); have n2_ := Aside0.mk (below_step (by repeat (first | (with_reducible first | exact HB.out | apply below_alloc | apply pw_below_drewN | apply below_drew1 | refine below_set ?_ GE267.out) | exact HB.out)) hb); clear BK267; clear HB; have HO270 := n0_; have BK267 := n1_; have HB := n2_; clear n0_ n1_ n2_; (try clear hb); (try clear hb2); (try clear hk); (try clear hi); (try clear ho0)))
  go_loopg [5] k (fun kq v5 w' => ∃ (x5_1 : Int) (x268000_1 : ByteArray) (x268001_1 : Int) (x268002_1 : Bool), v5 = .int .i64 x5_1 ∧ Aside0 (kauditref03_find.l0 kq a0 t268 x5_1 = some (r1, r2, r3, r4)) ∧ Aside0 (kq ≤ k) ∧ Aside0 (Kd.R k123 123 w' w.heap.size (fun k_ => k_ ≠ gb267) v269 t268) ∧ Aside0 (w'.heap[gb267]? = some (.cells #[.string x268000_1, .int .i64 x268001_1, .bool x268002_1] 123 (0, 0))) ∧ Aside0 (Below w.heap.size w w'))
  case atStart => exact ⟨(0), ((⟨#[]⟩ : ByteArray)), (0), (false), (by first | rfl | (simp; done) | (simp [*]; done)), H', ⟨Nat.le_refl _⟩, ⟨by (with_reducible repeat (first | apply Kd.R_alloc | apply Kd.R_drewN | apply Kd.R_drew)); exact Kd.R_mono HO270.out (fun _ hk => hk.2)⟩, ⟨by (with_reducible repeat (first | refine blk_drewN ?_ _ | refine blk_drew ?_ | refine blk_alloc ?_ _)); exact BK267.out⟩, ⟨by repeat (first | (with_reducible first | exact HB.out | apply below_alloc | apply pw_below_drewN | apply below_drew1 | refine below_set ?_ GE267.out) | exact HB.out)⟩⟩
  case round =>
    clear H'
    try clear p2
    obtain ⟨x5_1, x268000_1, x268001_1, x268002_1, rfl, HA, HK1, HO_4, BK267, HB⟩ := hrel
    cases gk with
    | zero => exact absurd HA.out (by simp [kauditref03_find.l0])
    | succ k1 =>
      have H := HA.out
      clear HA
      simp only [kauditref03_find.l0] at H
      by_cases c5 : x5_1 < (t268.length : Int)
      · rw [if_pos c5] at H
        have c5b0 : decide (x5_1 < (t268.length : Int)) = true := decide_eq_true c5
        clear c5
        by_cases c6 : 0 ≤ x5_1
        · rw [if_pos c6] at H
          have c6b0 : decide (0 ≤ x5_1) = true := decide_eq_true c6
          clear c6
          by_cases c7 : ((rd_T123 t268 x5_1).f1) = a0
          · rw [if_pos c7] at H
            have c7b0 : (((rd_T123 t268 x5_1).f1) == a0) = true := beq_iff_eq.mpr c7
            have c7b1 : (((rd_T123 t268 x5_1).f1) != a0) = false := bne_eq_false_iff_eq.mpr c7
            clear c7
            simp only [Option.some.injEq, Prod.mk.injEq] at H
            obtain ⟨rfl, rfl, rfl, rfl⟩ := H
            obtain ⟨Ao8, co8, eo8⟩ := Kd.R_slice HO_4.out
            subst eo8
            have p271 : 0 ≤ (x5_1 : Int) := of_decide_eq_true (by first | (with_reducible assumption) | assumption)
            have q271 : x5_1 < (t268.length : Int) := of_decide_eq_true (by first | (with_reducible assumption) | assumption)
            obtain ⟨ad271, e271, hx271_0, hx271_1, hx271_2⟩ := at_T123 (Kd.R_reads' HO_4.out).2.2 x5_1 p271 q271
            cases e271
            replace p271 := eq_true p271
            replace q271 := eq_true q271
            have p272 : 0 ≤ (x5_1 : Int) := of_decide_eq_true (by first | (with_reducible assumption) | assumption)
            have q272 : x5_1 < (t268.length : Int) := of_decide_eq_true (by first | (with_reducible assumption) | assumption)
            obtain ⟨ad272, e272, hx272_0, hx272_1, hx272_2⟩ := at_T123 (Kd.R_reads' HO_4.out).2.2 x5_1 p272 q272
            obtain rfl : ad271 = ad272 := (by injection e272)
            replace p272 := eq_true p272
            replace q272 := eq_true q272
            have hcz9_0 : wr.cell? ⟨gb267, 0, none⟩ = some (.string x268000_1) := (blk_cell BK267.out 0).trans rfl
            have hcz9_1 : wr.cell? ⟨gb267, 1, none⟩ = some (.int .i64 x268001_1) := (blk_cell BK267.out 1).trans rfl
            have hcz9_2 : wr.cell? ⟨gb267, 2, none⟩ = some (.bool x268002_1) := (blk_cell BK267.out 2).trans rfl
            have hfz9_0 := blk_frozen BK267.out 0
            have hfz9_1 := blk_frozen BK267.out 1
            have hfz9_2 := blk_frozen BK267.out 2
            go_wp2
            refine bodyPost_ret (results_ct rfl _ _ gb267 123 #[.string ((rd_T123 t268 x5_1).f0), .int .i64 ((rd_T123 t268 x5_1).f1), .bool ((rd_T123 t268 x5_1).f2)] (0, 0) _ rfl (by (with_reducible repeat (first | refine blk_drewN ?_ _ | refine blk_drew ?_ | refine blk_alloc ?_ _)); refine blk_put (cs := #[.string ((rd_T123 t268 x5_1).f0), .int .i64 ((rd_T123 t268 x5_1).f1), .bool x268002_1]) ?_ 2 _ rfl; (with_reducible repeat (first | refine blk_drewN ?_ _ | refine blk_drew ?_ | refine blk_alloc ?_ _)); refine blk_put (cs := #[.string ((rd_T123 t268 x5_1).f0), .int .i64 x268001_1, .bool x268002_1]) ?_ 1 _ rfl; (with_reducible repeat (first | refine blk_drewN ?_ _ | refine blk_drew ?_ | refine blk_alloc ?_ _)); refine blk_put (cs := #[.string x268000_1, .int .i64 x268001_1, .bool x268002_1]) ?_ 0 _ rfl; (with_reducible repeat (first | refine blk_drewN ?_ _ | refine blk_drew ?_ | refine blk_alloc ?_ _)); exact BK267.out) Tryd.underlying123 rfl (by kernel_rfl)) rfl ?_
            exact ⟨by first | rfl | (simp [errW_none, errW_some] <;> rfl) | (simp [*, errW_none, errW_some] <;> rfl), by repeat (first | (with_reducible first | exact HB.out | apply below_alloc | apply pw_below_drewN | apply below_drew1 | refine below_set ?_ GE267.out) | exact HB.out)⟩
          · rw [if_neg c7] at H
            have c7b0 : (((rd_T123 t268 x5_1).f1) == a0) = false := beq_eq_false_iff_ne.mpr c7
            have c7b1 : (((rd_T123 t268 x5_1).f1) != a0) = true := bne_iff_ne.mpr c7
            have H' := Aside0.mk H
            clear H
            obtain ⟨Ao10, co10, eo10⟩ := Kd.R_slice HO_4.out
            subst eo10
            have p271 : 0 ≤ (x5_1 : Int) := of_decide_eq_true (by first | (with_reducible assumption) | assumption)
            have q271 : x5_1 < (t268.length : Int) := of_decide_eq_true (by first | (with_reducible assumption) | assumption)
            obtain ⟨ad271, e271, hx271_0, hx271_1, hx271_2⟩ := at_T123 (Kd.R_reads' HO_4.out).2.2 x5_1 p271 q271
            cases e271
            replace p271 := eq_true p271
            replace q271 := eq_true q271
            go_wp2
            go_roundg k1
            case measure => have := HK1.out; omega
            case rel => exact ⟨(wrap64 (x5_1 + 1)), (x268000_1), (x268001_1), (x268002_1), (by first | rfl | (simp; done) | (simp [*]; done)), H', ⟨by have := HK1.out; omega⟩, ⟨by (with_reducible repeat (first | apply Kd.R_alloc | apply Kd.R_drewN | apply Kd.R_drew)); exact HO_4.out⟩, ⟨by (with_reducible repeat (first | refine blk_drewN ?_ _ | refine blk_drew ?_ | refine blk_alloc ?_ _)); exact BK267.out⟩, ⟨by repeat (first | (with_reducible first | exact HB.out | apply below_alloc | apply pw_below_drewN | apply below_drew1 | refine below_set ?_ GE267.out) | exact HB.out)⟩⟩
        · rw [if_neg c6] at H
          exact absurd H (by simp)
      · rw [if_neg c5] at H
        have c5b0 : decide (x5_1 < (t268.length : Int)) = false := decide_eq_false c5
        clear c5
        simp only [Option.some.injEq, Prod.mk.injEq] at H
        obtain ⟨rfl, rfl, rfl, rfl⟩ := H
        obtain ⟨Ao11, co11, eo11⟩ := Kd.R_slice HO_4.out
        subst eo11
        have hcz12_0 : wr.cell? ⟨gb267, 0, none⟩ = some (.string x268000_1) := (blk_cell BK267.out 0).trans rfl
        have hcz12_1 : wr.cell? ⟨gb267, 1, none⟩ = some (.int .i64 x268001_1) := (blk_cell BK267.out 1).trans rfl
        have hcz12_2 : wr.cell? ⟨gb267, 2, none⟩ = some (.bool x268002_1) := (blk_cell BK267.out 2).trans rfl
        have hfz12_0 := blk_frozen BK267.out 0
        have hfz12_1 := blk_frozen BK267.out 1
        have hfz12_2 := blk_frozen BK267.out 2
        go_wp2
        refine bodyPost_ret (results_ct rfl _ _ gb267 123 #[.string (⟨#[]⟩ : ByteArray), .int .i64 0, .bool false] (0, 0) _ rfl (by (with_reducible repeat (first | refine blk_drewN ?_ _ | refine blk_drew ?_ | refine blk_alloc ?_ _)); refine blk_put (cs := #[.string (⟨#[]⟩ : ByteArray), .int .i64 0, .bool x268002_1]) ?_ 2 _ rfl; (with_reducible repeat (first | refine blk_drewN ?_ _ | refine blk_drew ?_ | refine blk_alloc ?_ _)); refine blk_put (cs := #[.string (⟨#[]⟩ : ByteArray), .int .i64 x268001_1, .bool x268002_1]) ?_ 1 _ rfl; (with_reducible repeat (first | refine blk_drewN ?_ _ | refine blk_drew ?_ | refine blk_alloc ?_ _)); refine blk_put (cs := #[.string x268000_1, .int .i64 x268001_1, .bool x268002_1]) ?_ 0 _ rfl; (with_reducible repeat (first | refine blk_drewN ?_ _ | refine blk_drew ?_ | refine blk_alloc ?_ _)); exact BK267.out) Tryd.underlying123 rfl (by kernel_rfl)) rfl ?_
        exact ⟨by first | rfl | (simp [errW_none, errW_some] <;> rfl) | (simp [*, errW_none, errW_some] <;> rfl), by repeat (first | (with_reducible first | exact HB.out | apply below_alloc | apply pw_below_drewN | apply below_drew1 | refine below_set ?_ GE267.out) | exact HB.out)⟩
/-! ### kauditref03_Name: function 42 -/
def kauditref03_Name.f (k : Nat) (a0 : Int) : Option (ByteArray) := (kauditref03_find.f k a0).bind fun bt273 => (some bt273.1)
theorem kauditref03_Name.mono : ∀ a0 k, LeO (kauditref03_Name.f k a0) (kauditref03_Name.f (k + 1) a0) := by
  intro a0 k
  unfold kauditref03_Name.f
  repeat' first
      | (with_reducible exact kauditref03_find.mono _ _)
      | (with_reducible exact LeO.refl _)
      | (with_reducible exact LeO.none _)
      | (with_reducible refine LeO.ite ?_ ?_)
      | (with_reducible refine LeO.bind ?_ (fun _ => ?_))
      | exact kauditref03_find.mono _ _
      | exact LeO.none _
      | refine LeO.ite ?_ ?_
      | refine LeO.bind ?_ (fun _ => ?_)
set_option maxHeartbeats 8000000 in
set_option maxRecDepth 100000 in
theorem kauditref03_Name.calls (k : Nat) (a0 : Int) (r : ByteArray) (w : World) (h : kauditref03_Name.f k a0 = some r) :
    Calls Tryd.prog 42 #[.int .i64 a0] w fun e w' => e = .returned (.string r) ∧ Below w.heap.size w w' := by
  have hu123 := Tryd.underlying123
  have HB := Aside0.mk (Below.refl w.heap.size w)
  have H : ((kauditref03_find.f k a0).bind fun bt273 => (some bt273.1)) = some r := h
  clear h
  replace H := Option.bind_eq_some_iff.mp H
  obtain ⟨⟨t273, t274, t275, t276⟩, A20, H⟩ := H
  replace H : (some t273) = some r := H
  have A2 := Aside0.mk A20
  clear A20
  obtain rfl := Option.some.inj H
  go_enter Tryd.func42, Tryd.ntmps42
  go_wp2_with (first | ((with_reducible refine gate_callee (f := 90) rfl ?_); refine goesL_ (some 7) rfl rfl Tryd.func90 (by kernel_rfl) rfl #[.int .i64 a0] rfl (by (try simp only [List.map_toArray, List.map_cons, List.map_nil]); first | done | rfl | (simp only [List.length_drop, List.length_take]; rfl)) ?_; (with_reducible refine (kauditref03_find.calls k a0 t273 t274 t275 t276 _ A2.out).mono ?_); rintro e w3 ⟨rfl, hb⟩; refine ⟨_, rfl, ?_⟩; have n0_ := Aside0.mk (below_step (by repeat (first | (with_reducible first | exact HB.out | apply below_alloc | apply pw_below_drewN | apply below_drew1) | exact HB.out)) hb); clear HB; have HB := n0_; clear n0_; (try clear hb); (try clear hb2); (try clear hk); (try clear hi)) | ((with_reducible refine gate_dst (N := 3) rfl ?_); refine box_event ?hg (N := 3) ?hd (cs := #[.string (⟨#[]⟩ : ByteArray), .int .i64 0, .bool false]) (t := 123) ?hr ?_; (case hd => rfl); (case hg => rfl); (case hr => first | (go_simp; done) | (go_simp; rfl)); intro gb277 hg w4 hbox hb; have n0_ := Aside0.mk (below_step (by repeat (first | (with_reducible first | exact HB.out | apply below_alloc | apply pw_below_drewN | apply below_drew1) | exact HB.out)) hb); have n1_ := Aside0.mk (hbox); have n2_ := Aside0.mk ((by rw [hg]; exact (below_size (by repeat (first | (with_reducible first | exact HB.out | apply below_alloc | apply pw_below_drewN | apply below_drew1) | exact HB.out))) : w.heap.size ≤ gb277)); have n3_ := Aside0.mk ((by rw [hg]; exact (below_size (by repeat (first | (with_reducible first | exact HB.out | apply below_alloc | apply pw_below_drewN | apply below_drew1) | exact HB.out))) : w.heap.size ≤ gb277)); clear HB; have HB := n0_; have BK277 := n1_; have GW277 := n2_; have GE277 := n3_; clear n0_ n1_ n2_ n3_; clear hb hbox hg; have hcz5_0 : w4.cell? ⟨gb277, 0, none⟩ = some (.string (⟨#[]⟩ : ByteArray)) := (blk_cell BK277.out 0).trans rfl; have hcz5_1 : w4.cell? ⟨gb277, 1, none⟩ = some (.int .i64 0) := (blk_cell BK277.out 1).trans rfl; have hcz5_2 : w4.cell? ⟨gb277, 2, none⟩ = some (.bool false) := (blk_cell BK277.out 2).trans rfl; have hfz5_0 := blk_frozen BK277.out 0; have hfz5_1 := blk_frozen BK277.out 1; have hfz5_2 := blk_frozen BK277.out 2))
  go_ret
  exact ⟨by first | rfl | (simp [errW_none, errW_some] <;> rfl) | (simp [*, errW_none, errW_some] <;> rfl), by repeat (first | (with_reducible first | exact HB.out | apply below_alloc | apply pw_below_drewN | apply below_drew1 | refine below_set ?_ GE277.out) | exact HB.out)⟩
end Go.Proofs.YtkfddpbmclbdhaaDoor.PA
