/- Contracts of functions of the program: written by pr2.py (ours, round the print of the kit) out of the translation; conditions: each contract names its own. -/
import Derived.Test.YtodbabeldolcbaaGreatDoorY9PAx0
namespace Go.Proofs.YtodbabeldolcbaaGreatDoor.PA
open Go.RowKit Go.Proofs.YtodbabeldolcbaaGreatDoorW.PrintWords Go.Proofs.YtodbabeldolcbaaGreatDoorW.PrintLast Go.Proofs.YtodbabeldolcbaaGreatDoorW.PrintMore
attribute [local go_sem] Zbg Zbe Zbs Zbr Za8 Za7 Zbf Zbd   -- for this text's walks alone
set_option linter.unusedVariables false
set_option linter.unusedSimpArgs false
def Zaj (w0 W : World) (g : Nat) (f0 : List Int) (f1 : Int) : Prop := ∃ A0 c0, W.heap[g]? = some (.cells #[.slice A0 f0.length c0, .int .i64 f1] 85 (0, 0)) ∧ w0.heap.size ≤ g ∧ Kd.C (Kd.int .i64) w0 A0 f0.length f0
theorem Zaj.grown {w0 W : World} {g : Nat} {f0 : List Int} {f1 : Int} {W1 : World} {row : Option Nat} (h : Zaj w0 W g f0 f1) (hw : W.grownBy W1 row) (hne : some g ≠ row) : Zaj w0 W1 g f0 f1 := by
 obtain ⟨A0, c0, hb, hg, hr0⟩ := h
 exact ⟨A0, c0, Zb2 hb hw hne, hg, hr0⟩
theorem Zaj.kept {w0 W : World} {g : Nat} {f0 : List Int} {f1 : Int} {W1 : World} {S : Nat → Prop} (h : Zaj w0 W g f0 f1) (hk : Kept W W1 S) (hne : ¬ S g) : Zaj w0 W1 g f0 f1 := by
 obtain ⟨A0, c0, hb, hg, hr0⟩ := h
 exact ⟨A0, c0, blk_kept hb hk hne, hg, hr0⟩
theorem Zaj.below {w0 W : World} {g : Nat} {f0 : List Int} {f1 : Int} {W1 : World} (h : Zaj w0 W g f0 f1) (hw : Below W.heap.size W W1) : Zaj w0 W1 g f0 f1 := h.grown (grown_of_below hw none) (by simp)
theorem Zaj.alloc {w0 W : World} {g : Nat} {f0 : List Int} {f1 : Int} (h : Zaj w0 W g f0 f1) (o : Obj) : Zaj w0 (W.alloc o) g f0 f1 := h.below (Zal (Below.refl _ _) o)
theorem Zaj.drewN {w0 W : World} {g : Nat} {f0 : List Int} {f1 : Int} (h : Zaj w0 W g f0 f1) (m : Nat) : Zaj w0 (W.drewN m) g f0 f1 := h
theorem Zaj.drew {w0 W : World} {g : Nat} {f0 : List Int} {f1 : Int} (h : Zaj w0 W g f0 f1) : Zaj w0 W.drew g f0 f1 := h
theorem Zaj.at_ {w0 W : World} {g : Nat} {f0 : List Int} {f1 : Int} {w' : World} {m : Nat} (hq : W.drewN m = w') (h : Zaj w0 W g f0 f1) : Zaj w0 w' g f0 f1 := by subst hq; exact Zaj.drewN h m
theorem Zaj.apart {w0 W : World} {g : Nat} {f0 : List Int} {f1 : Int} {α : Type} {d : Kd α} {e : Nat} {base : Nat} {ok : Nat → Prop} {v : Value} {xs : List α} (h : Zaj w0 W g f0 f1) (ho : d.R e W base ok v xs) (ht : ∀ q, q ∈ e :: d.E → q ≠ 85) : d.R e W base (fun k => ok k ∧ k ≠ g) v xs := by
 obtain ⟨A0, c0, hb, hg, hr0⟩ := h
 exact Kd.R_types ho hb ht
theorem Zaj.own_ne {w0 W : World} {g : Nat} {f0 : List Int} {f1 : Int} {α : Type} {d : Kd α} {e : Nat} {base : Nat} {ok : Nat → Prop} {v : Value} {xs : List α} (h : Zaj w0 W g f0 f1) (ho : d.R e W base ok v xs) (ht : e ≠ 85) : some g ≠ v.ownBlock := by
 obtain ⟨A0, c0, hb, hg, hr0⟩ := h
 exact Kd.R_ne ho hb ht
theorem Zaj.lt {w0 W : World} {g : Nat} {f0 : List Int} {f1 : Int} (h : Zaj w0 W g f0 f1) : g < W.heap.size := by
 obtain ⟨A0, c0, hb, hg, hr0⟩ := h
 exact Za3 hb
theorem Zaj.ge {w0 W : World} {g : Nat} {f0 : List Int} {f1 : Int} (h : Zaj w0 W g f0 f1) : w0.heap.size ≤ g := by
 obtain ⟨A0, c0, hb, hg, hr0⟩ := h
 exact hg
theorem Zaj.far {w0 W : World} {g : Nat} {f0 : List Int} {f1 : Int} {p : Addr} (h : Zaj w0 W g f0 f1) (hne : g ≠ p.block) (u : Value) : Zaj w0 (W.setCell p u) g f0 f1 := by
 obtain ⟨A0, c0, hb, hg, hr0⟩ := h
 exact ⟨A0, c0, Zaq hb hne u, hg, hr0⟩
theorem cellS85_0 {W : World} {g : Nat} {A0 : Option Addr} {c0 : Nat} {f0 : List Int} {f1 : Int} (h : W.heap[g]? = some (.cells #[.slice A0 f0.length c0, .int .i64 f1] 85 (0, 0))) : W.cell? ⟨g, 0, none⟩ = some (.slice A0 f0.length c0) := (Zaf h 0).trans rfl
theorem cellS85_1 {W : World} {g : Nat} {A0 : Option Addr} {c0 : Nat} {f0 : List Int} {f1 : Int} (h : W.heap[g]? = some (.cells #[.slice A0 f0.length c0, .int .i64 f1] 85 (0, 0))) : W.cell? ⟨g, 1, none⟩ = some (.int .i64 f1) := (Zaf h 1).trans rfl
theorem Zaj.set_1 {w0 W : World} {g : Nat} {f0 : List Int} {f1 : Int} (h : Zaj w0 W g f0 f1) (x : Int) : Zaj w0 (W.setCell ⟨g, 1, none⟩ (.int .i64 x)) g f0 x := by
 obtain ⟨A0, c0, hb, hg, hr0⟩ := h
 exact ⟨A0, c0, by simpa using Zan hb 1 (.int .i64 x), hg, hr0⟩
def kauditmake_New.f (l0 : List Int) : Option (List Int × Int) := some (l0, 0)
set_option maxHeartbeats 8000000 in
set_option maxRecDepth 100000 in
theorem kauditmake_New.calls (A0 : Option Addr) (c0 : Nat) (l0 : List Int) (r1 : List Int) (r2 : Int) (w0 w : World) (hB : Below w0.heap.size w0 w) (hr0 : Kd.C (Kd.int .i64) w0 A0 l0.length l0) (hc0 : l0.length ≤ c0) (h : kauditmake_New.f l0 = some (r1, r2)) :
  Calls Tryz.prog 14 #[.slice A0 l0.length c0] w fun e w' => ∃ g_ : Nat, e = .returned (.pointer (some ⟨g_, 0, none⟩)) ∧ Zaj w0 w' g_ r1 r2 ∧ Below w0.heap.size w0 w' ∧ Below w.heap.size w w' := by
 have hu85 := Tryz.underlying85
 have HR0 := Zaa.mk hr0
 have HC0 := Zaa.mk hc0
 clear hr0 hc0
 have HBW := Zaa.mk (Below.refl w.heap.size w)
 have HW0 := Zaa.mk hB.size
 have HB := Zaa.mk hB
 clear hB
 unfold kauditmake_New.f at h
 have H := h
 clear h
 simp only [Option.some.injEq, Prod.mk.injEq] at H
 obtain ⟨rfl, rfl⟩ := H
 go_enter Tryz.func14, Tryz.ntmps14
 go_wp2_with (first | ((with_reducible refine Zav (N := 5) rfl ?_); refine Zaw ?hg (N := 5) ?hd (cs := #[.slice A0 l0.length c0, .int .i64 0]) (t := 85) ?hr ?_; (case hd => rfl); (case hg => rfl); (case hr => first | (go_simp; done) | (go_simp; rfl)); intro gb101 hg w2 hbox hb; replace HB := Zaa.mk (Zae (zb1 HB) hb); have BK101 := Zaa.mk (hbox); have GW101 := Zaa.mk ((by rw [hg]; exact (Zai (zb1 HBW)) : w.heap.size ≤ gb101)); have GE101 := Zaa.mk ((Nat.le_trans HW0.out (by rw [hg]; exact (Zai (zb1 HBW)) : w.heap.size ≤ gb101) : w0.heap.size ≤ gb101)); replace HBW := Zaa.mk (Zae HBW.out hb); clear hb hbox hg))
 go_ret
 exact ⟨_, rfl, (show Zaj w0 _ gb101 l0 0 from ⟨_, _, by (with_reducible repeat (first | refine Zac ?_ _ | refine Zad ?_ | refine Zab ?_ _)); exact BK101.out, GE101.out, HR0.out⟩), (zb2 HB GE101.out), (zb2 HBW GW101.out)⟩
def kauditmake_Src_N.f (s0_0 : List Int) (s0_1 : Int) (a1 : Int) : Option (Int × Int) := if a1 < 1 then (some (0, s0_1)) else (if (wrap64 (s0_1 + 1)) ≤ (s0_0.length : Int) then (if 0 ≤ (wrap64 ((wrap64 (s0_1 + 1)) - 1)) then (if (wrap64 ((wrap64 (s0_1 + 1)) - 1)) < (s0_0.length : Int) then (if a1 = 0 then (none) else (if (Int.tmod (rd s0_0 (wrap64 ((wrap64 (s0_1 + 1)) - 1))) a1) < 0 then (some (wrap64 ((Int.tmod (rd s0_0 (wrap64 ((wrap64 (s0_1 + 1)) - 1))) a1) + a1), wrap64 (s0_1 + 1))) else (some (Int.tmod (rd s0_0 (wrap64 ((wrap64 (s0_1 + 1)) - 1))) a1, wrap64 (s0_1 + 1))))) else (none)) else (none)) else (if a1 = 0 then (none) else (if (Int.tmod (wrap64 ((wrap64 (s0_1 + 1)) * 7)) a1) < 0 then (some (wrap64 ((Int.tmod (wrap64 ((wrap64 (s0_1 + 1)) * 7)) a1) + a1), wrap64 (s0_1 + 1))) else (some (Int.tmod (wrap64 ((wrap64 (s0_1 + 1)) * 7)) a1, wrap64 (s0_1 + 1))))))
theorem zl3 {p q : Prop} (x : Zaa q) (h : q → p := by intro h_; repeat (first | (with_reducible first | exact h_ | apply Zaj.alloc | apply Zaj.drewN | apply Zaj.drew | apply Zaj.set_1) | exact h_)) : p := h x.out
theorem zl4 {p q : Prop} (x : Zaa q) (h : q → p := by intro h_; repeat (first | (with_reducible first | exact h_ | apply Zap.set_ | apply keep_drewN | apply keep_drew | apply keep_alloc) | exact h_)) : p := h x.out
set_option maxHeartbeats 8000000 in
set_option maxRecDepth 100000 in
theorem kauditmake_Src_N.calls (g : Nat) (s0_0 : List Int) (s0_1 : Int) (a1 : Int) (r1 : Int) (r2 : Int) (w0 w : World) (hI : Zaj w0 w g s0_0 s0_1) (hB : Below w0.heap.size w0 w) (h : kauditmake_Src_N.f s0_0 s0_1 a1 = some (r1, r2)) :
  Calls Tryz.prog 19 #[.pointer (some ⟨g, 0, none⟩), .int .i64 a1] w fun e w' => e = .returned (.int .i64 r1) ∧ Zaj w0 w' g s0_0 r2 ∧ Below w0.heap.size w0 w' ∧ Zap w w' g none := by
 have HI0 := Zaa.mk hI
 have HK := Zaa.mk (Zap.refl w g none)
 have HL := Zaa.mk hB.size
 clear hI
 have HW0 := Zaa.mk hB.size
 have HB := Zaa.mk hB
 clear hB
 unfold kauditmake_Src_N.f at h
 have H := h
 clear h
 by_cases c3 : a1 < 1
 ·rw [if_pos c3] at H
  have c3b0 : decide (a1 < 1) = true := decide_eq_true c3
  clear c3
  simp only [Option.some.injEq, Prod.mk.injEq] at H
  obtain ⟨rfl, rfl⟩ := H
  go_enter Tryz.func19, Tryz.ntmps19
  go_wp2
  repeat (go_quiet (fail); try go_wp2)
  go_ret
  exact ⟨by first | rfl | (simp [errW_none, errW_some] <;> rfl) | (simp [*, errW_none, errW_some] <;> rfl), (zl3 HI0), (zb2 HB (Zaj.ge HI0.out)), (zl4 HK)⟩
 ·rw [if_neg c3] at H
  have c3b0 : decide (a1 < 1) = false := decide_eq_false c3
  clear c3
  by_cases c4 : (wrap64 (s0_1 + 1)) ≤ (s0_0.length : Int)
  ·rw [if_pos c4] at H
   have c4b0 : decide ((wrap64 (s0_1 + 1)) ≤ (s0_0.length : Int)) = true := decide_eq_true c4
   clear c4
   obtain ⟨ji5, hji5⟩ : ∃ j_ : Int, (wrap64 ((wrap64 (s0_1 + 1)) - 1)) = j_ := ⟨_, rfl⟩
   replace H : (if 0 ≤ (ji5) then (if (ji5) < (s0_0.length : Int) then (if a1 = 0 then (none) else (if (Int.tmod (rd s0_0 (ji5)) a1) < 0 then (some (wrap64 ((Int.tmod (rd s0_0 (ji5)) a1) + a1), wrap64 (s0_1 + 1))) else (some (Int.tmod (rd s0_0 (ji5)) a1, wrap64 (s0_1 + 1))))) else (none)) else (none)) = some (r1, r2) := by first | (rw [hji5] at H; exact H) | (simp only [hji5] at H ⊢; exact H)
   have hji5w : (IntKind.i64.wrap ((wrap64 (s0_1 + 1)) - 1)) = ji5 := (Zax _).trans hji5
   by_cases c6 : 0 ≤ (ji5)
   ·rw [if_pos c6] at H
    have c6b0 : decide (0 ≤ (ji5)) = true := decide_eq_true c6
    clear c6
    by_cases c7 : (ji5) < (s0_0.length : Int)
    ·rw [if_pos c7] at H
     have c7b0 : decide ((ji5) < (s0_0.length : Int)) = true := decide_eq_true c7
     clear c7
     by_cases c8 : a1 = 0
     ·rw [if_pos c8] at H
      exact absurd H (by simp)
     ·rw [if_neg c8] at H
      have c8b0 : (a1 == 0) = false := beq_eq_false_iff_ne.mpr c8
      have c8b1 : (a1 != 0) = true := bne_iff_ne.mpr c8
      by_cases c9 : (Int.tmod (rd s0_0 (ji5)) a1) < 0
      ·rw [if_pos c9] at H
       have c9b0 : decide ((Int.tmod (rd s0_0 (ji5)) a1) < 0) = true := decide_eq_true c9
       clear c9
       simp only [Option.some.injEq, Prod.mk.injEq] at H
       obtain ⟨rfl, rfl⟩ := H
       obtain ⟨ASz10_0, cSz10_0, HGz10, hgz10, HSz10_0⟩ := HI0.out
       have hcz10_0 := cellS85_0 HGz10
       have hcz10_1 := cellS85_1 HGz10
       have hfz10_1 := Zak HGz10 1
       clear HGz10 hgz10
       have p102 : 0 ≤ ((ji5) : Int) := zod
       have q102 : (ji5) < (s0_0.length : Int) := zod
       obtain ⟨ad102, e102, hx102_0⟩ := Kd.at_int HSz10_0 (ji5) p102 q102
       cases e102
       have hn102_0 : ad102.block ≠ g := Nat.ne_of_lt (Nat.lt_of_lt_of_le (by have := World.block_lt_of_cell? _ _ hx102_0; first | rwa [Zbj] at this | exact this) (Zaj.ge HI0.out))
       replace hx102_0 := pw_cell_below HB.out hx102_0
       replace hx102_0 := (cell_far (p := ⟨g, 1, none⟩) (by first | (rw [Zbj]; exact hn102_0) | (show (Addr.add _ _).block ≠ _; rw [Zbj]; exact hn102_0) | exact hn102_0) (.int .i64 (wrap64 (s0_1 + 1)))).trans hx102_0
       (try have hy102_0 := fun (n_ : Nat) => (show (((w.drewN n_).setCell ⟨g, 1, none⟩ (.int .i64 (wrap64 (s0_1 + 1))))).cell? _ = some _ from hx102_0))
       clear hn102_0
       replace p102 := eq_true p102
       replace q102 := eq_true q102
       go_enter Tryz.func19, Tryz.ntmps19
       go_wp2
       repeat (go_quiet (fail); try go_wp2)
       go_ret
       exact ⟨by first | rfl | (simp [errW_none, errW_some] <;> rfl) | (simp only [← hji5]; first | rfl | (simp [errW_none, errW_some] <;> rfl)) | (simp [*, errW_none, errW_some] <;> rfl), (zl3 HI0), (zb2 HB (Zaj.ge HI0.out)), (zl4 HK)⟩
      ·rw [if_neg c9] at H
       have c9b0 : decide ((Int.tmod (rd s0_0 (ji5)) a1) < 0) = false := decide_eq_false c9
       clear c9
       simp only [Option.some.injEq, Prod.mk.injEq] at H
       obtain ⟨rfl, rfl⟩ := H
       obtain ⟨ASz11_0, cSz11_0, HGz11, hgz11, HSz11_0⟩ := HI0.out
       have hcz11_0 := cellS85_0 HGz11
       have hcz11_1 := cellS85_1 HGz11
       have hfz11_1 := Zak HGz11 1
       clear HGz11 hgz11
       have p102 : 0 ≤ ((ji5) : Int) := zod
       have q102 : (ji5) < (s0_0.length : Int) := zod
       obtain ⟨ad102, e102, hx102_0⟩ := Kd.at_int HSz11_0 (ji5) p102 q102
       cases e102
       have hn102_0 : ad102.block ≠ g := Nat.ne_of_lt (Nat.lt_of_lt_of_le (by have := World.block_lt_of_cell? _ _ hx102_0; first | rwa [Zbj] at this | exact this) (Zaj.ge HI0.out))
       replace hx102_0 := pw_cell_below HB.out hx102_0
       replace hx102_0 := (cell_far (p := ⟨g, 1, none⟩) (by first | (rw [Zbj]; exact hn102_0) | (show (Addr.add _ _).block ≠ _; rw [Zbj]; exact hn102_0) | exact hn102_0) (.int .i64 (wrap64 (s0_1 + 1)))).trans hx102_0
       (try have hy102_0 := fun (n_ : Nat) => (show (((w.drewN n_).setCell ⟨g, 1, none⟩ (.int .i64 (wrap64 (s0_1 + 1))))).cell? _ = some _ from hx102_0))
       clear hn102_0
       replace p102 := eq_true p102
       replace q102 := eq_true q102
       go_enter Tryz.func19, Tryz.ntmps19
       go_wp2
       repeat (go_quiet (fail); try go_wp2)
       go_ret
       exact ⟨by first | rfl | (simp [errW_none, errW_some] <;> rfl) | (simp only [← hji5]; first | rfl | (simp [errW_none, errW_some] <;> rfl)) | (simp [*, errW_none, errW_some] <;> rfl), (zl3 HI0), (zb2 HB (Zaj.ge HI0.out)), (zl4 HK)⟩
    ·rw [if_neg c7] at H
     exact absurd H (by simp)
   ·rw [if_neg c6] at H
    exact absurd H (by simp)
  ·rw [if_neg c4] at H
   have c4b0 : decide ((wrap64 (s0_1 + 1)) ≤ (s0_0.length : Int)) = false := decide_eq_false c4
   clear c4
   by_cases c12 : a1 = 0
   ·rw [if_pos c12] at H
    exact absurd H (by simp)
   ·rw [if_neg c12] at H
    have c12b0 : (a1 == 0) = false := beq_eq_false_iff_ne.mpr c12
    have c12b1 : (a1 != 0) = true := bne_iff_ne.mpr c12
    by_cases c13 : (Int.tmod (wrap64 ((wrap64 (s0_1 + 1)) * 7)) a1) < 0
    ·rw [if_pos c13] at H
     have c13b0 : decide ((Int.tmod (wrap64 ((wrap64 (s0_1 + 1)) * 7)) a1) < 0) = true := decide_eq_true c13
     clear c13
     simp only [Option.some.injEq, Prod.mk.injEq] at H
     obtain ⟨rfl, rfl⟩ := H
     obtain ⟨ASz14_0, cSz14_0, HGz14, hgz14, HSz14_0⟩ := HI0.out
     have hcz14_0 := cellS85_0 HGz14
     have hcz14_1 := cellS85_1 HGz14
     have hfz14_1 := Zak HGz14 1
     clear HGz14 hgz14
     go_enter Tryz.func19, Tryz.ntmps19
     go_wp2
     repeat (go_quiet (fail); try go_wp2)
     go_ret
     exact ⟨by first | rfl | (simp [errW_none, errW_some] <;> rfl) | (simp [*, errW_none, errW_some] <;> rfl), (zl3 HI0), (zb2 HB (Zaj.ge HI0.out)), (zl4 HK)⟩
    ·rw [if_neg c13] at H
     have c13b0 : decide ((Int.tmod (wrap64 ((wrap64 (s0_1 + 1)) * 7)) a1) < 0) = false := decide_eq_false c13
     clear c13
     simp only [Option.some.injEq, Prod.mk.injEq] at H
     obtain ⟨rfl, rfl⟩ := H
     obtain ⟨ASz15_0, cSz15_0, HGz15, hgz15, HSz15_0⟩ := HI0.out
     have hcz15_0 := cellS85_0 HGz15
     have hcz15_1 := cellS85_1 HGz15
     have hfz15_1 := Zak HGz15 1
     clear HGz15 hgz15
     go_enter Tryz.func19, Tryz.ntmps19
     go_wp2
     repeat (go_quiet (fail); try go_wp2)
     go_ret
     exact ⟨by first | rfl | (simp [errW_none, errW_some] <;> rfl) | (simp [*, errW_none, errW_some] <;> rfl), (zl3 HI0), (zb2 HB (Zaj.ge HI0.out)), (zl4 HK)⟩
def kauditmake_Src_Pick.f (s0_0 : List Int) (s0_1 : Int) (l1 : List Int) : Option (Int × Int) := (kauditmake_Src_N.f s0_0 s0_1 (l1.length : Int)).bind fun bt103 => (if 0 ≤ bt103.1 then (if bt103.1 < (l1.length : Int) then (some (rd l1 bt103.1, bt103.2)) else (none)) else (none))
set_option maxHeartbeats 8000000 in
set_option maxRecDepth 100000 in
theorem kauditmake_Src_Pick.calls (g : Nat) (s0_0 : List Int) (s0_1 : Int) (A1 : Option Addr) (c1 : Nat) (l1 : List Int) (r1 : Int) (r2 : Int) (w0 w : World) (hI : Zaj w0 w g s0_0 s0_1) (hB : Below w0.heap.size w0 w) (hr1 : Kd.C (Kd.int .i64) w A1 l1.length l1) (hc1 : l1.length ≤ c1) (hf1 : ∀ ad, A1 = some ad → 0 < l1.length → ad.block ≠ g) (h : kauditmake_Src_Pick.f s0_0 s0_1 l1 = some (r1, r2)) :
  Calls Tryz.prog 38 #[.pointer (some ⟨g, 0, none⟩), .slice A1 l1.length c1] w fun e w' => e = .returned (.int .i64 r1) ∧ Zaj w0 w' g s0_0 r2 ∧ Below w0.heap.size w0 w' ∧ Zap w w' g none := by
 have HR1 := Zaa.mk hr1
 have HC1 := Zaa.mk hc1
 clear hr1 hc1
 have HI0 := Zaa.mk hI
 have HK := Zaa.mk (Zap.refl w g none)
 have HL := Zaa.mk hB.size
 clear hI
 have HW0 := Zaa.mk hB.size
 have HB := Zaa.mk hB
 clear hB
 unfold kauditmake_Src_Pick.f at h
 have H := h
 clear h
 replace H := Option.bind_eq_some_iff.mp H
 obtain ⟨⟨t103, t104⟩, A30, H⟩ := H
 try dsimp only at H
 have A3 := Zaa.mk A30
 clear A30
 by_cases c4 : 0 ≤ t103
 ·rw [if_pos c4] at H
  have c4b0 : decide (0 ≤ t103) = true := decide_eq_true c4
  clear c4
  by_cases c5 : t103 < (l1.length : Int)
  ·rw [if_pos c5] at H
   have c5b0 : decide (t103 < (l1.length : Int)) = true := decide_eq_true c5
   clear c5
   simp only [Option.some.injEq, Prod.mk.injEq] at H
   obtain ⟨rfl, rfl⟩ := H
   go_enter Tryz.func38, Tryz.ntmps38
   go_wp2_with (first | ((with_reducible refine Zam (f := 19) rfl ?_); refine Za1 (some 9) rfl rfl Tryz.func19 (by kernel_rfl) rfl #[.pointer (some ⟨g, 0, none⟩), .int .i64 (l1.length : Int)] rfl zam ?_; (with_reducible refine (kauditmake_Src_N.calls g s0_0 s0_1 (l1.length : Int) t103 t104 w0 _ ?side1 ?side2 A3.out).mono ?_); (case side1 => repeat (first | (with_reducible first | exact HI0.out | apply Zaj.alloc | apply Zaj.drewN | apply Zaj.drew | apply Zaj.set_1) | exact HI0.out)); (case side2 => repeat (first | (with_reducible first | exact HB.out | apply Zal | apply Zar | apply Zau | refine Zag ?_ (Zaj.ge HI0.out)) | exact HB.out)); rintro e w6 ⟨rfl, hi, hb, hk⟩; refine ⟨_, rfl, ?_⟩; replace HK := Zaa.mk (Zap.trans (zl4 HK) hk (.inl rfl)); replace HB := Zaa.mk (hb); replace HI0 := Zaa.mk (hi); (try clear hb); (try clear hk); (try clear hi); have p105 : 0 ≤ (t103 : Int) := zod; have q105 : t103 < (l1.length : Int) := zod; obtain ⟨ad105, e105, hx105_0⟩ := Kd.at_int HR1.out t103 p105 q105; cases e105; replace hx105_0 := keep_cell HK.out hx105_0 (by first | (rw [Zbj]; exact hf1 _ rfl (by omega)) | exact hf1 _ rfl (by omega) | exact hf1 ad105 rfl (by omega)); replace p105 := eq_true p105; replace q105 := eq_true q105))
   go_ret
   exact ⟨by first | rfl | (simp [errW_none, errW_some] <;> rfl) | (simp [*, errW_none, errW_some] <;> rfl), (zl3 HI0), (zb2 HB (Zaj.ge HI0.out)), (zl4 HK)⟩
  ·rw [if_neg c5] at H
   exact absurd H (by simp)
 ·rw [if_neg c4] at H
  exact absurd H (by simp)
def kauditmake_Src_Range.f (s0_0 : List Int) (s0_1 : Int) (a1 : Int) (a2 : Int) : Option (Int × Int) := (kauditmake_Src_N.f s0_0 s0_1 (wrap64 ((wrap64 (a2 - a1)) + 1))).bind fun bt106 => (some (wrap64 (a1 + bt106.1), bt106.2))
set_option maxHeartbeats 8000000 in
set_option maxRecDepth 100000 in
theorem kauditmake_Src_Range.calls (g : Nat) (s0_0 : List Int) (s0_1 : Int) (a1 : Int) (a2 : Int) (r1 : Int) (r2 : Int) (w0 w : World) (hI : Zaj w0 w g s0_0 s0_1) (hB : Below w0.heap.size w0 w) (h : kauditmake_Src_Range.f s0_0 s0_1 a1 a2 = some (r1, r2)) :
  Calls Tryz.prog 40 #[.pointer (some ⟨g, 0, none⟩), .int .i64 a1, .int .i64 a2] w fun e w' => e = .returned (.int .i64 r1) ∧ Zaj w0 w' g s0_0 r2 ∧ Below w0.heap.size w0 w' ∧ Zap w w' g none := by
 have HI0 := Zaa.mk hI
 have HK := Zaa.mk (Zap.refl w g none)
 have HL := Zaa.mk hB.size
 clear hI
 have HW0 := Zaa.mk hB.size
 have HB := Zaa.mk hB
 clear hB
 unfold kauditmake_Src_Range.f at h
 have H := h
 clear h
 replace H := Option.bind_eq_some_iff.mp H
 obtain ⟨⟨t106, t107⟩, A40, H⟩ := H
 try dsimp only at H
 have A4 := Zaa.mk A40
 clear A40
 simp only [Option.some.injEq, Prod.mk.injEq] at H
 obtain ⟨rfl, rfl⟩ := H
 go_enter Tryz.func40, Tryz.ntmps40
 go_wp2_with (first | ((with_reducible refine Zam (f := 19) rfl ?_); refine Za1 (some 13) rfl rfl Tryz.func19 (by kernel_rfl) rfl #[.pointer (some ⟨g, 0, none⟩), .int .i64 (wrap64 ((wrap64 (a2 - a1)) + 1))] rfl zam ?_; (with_reducible refine (kauditmake_Src_N.calls g s0_0 s0_1 (wrap64 ((wrap64 (a2 - a1)) + 1)) t106 t107 w0 _ ?side1 ?side2 A4.out).mono ?_); (case side1 => repeat (first | (with_reducible first | exact HI0.out | apply Zaj.alloc | apply Zaj.drewN | apply Zaj.drew | apply Zaj.set_1) | exact HI0.out)); (case side2 => repeat (first | (with_reducible first | exact HB.out | apply Zal | apply Zar | apply Zau | refine Zag ?_ (Zaj.ge HI0.out)) | exact HB.out)); rintro e w5 ⟨rfl, hi, hb, hk⟩; refine ⟨_, rfl, ?_⟩; replace HK := Zaa.mk (Zap.trans (zl4 HK) hk (.inl rfl)); replace HB := Zaa.mk (hb); replace HI0 := Zaa.mk (hi); (try clear hb); (try clear hk); (try clear hi)))
 go_ret
 exact ⟨by first | rfl | (simp [errW_none, errW_some] <;> rfl) | (simp [*, errW_none, errW_some] <;> rfl), (zl3 HI0), (zb2 HB (Zaj.ge HI0.out)), (zl4 HK)⟩
def kauditmake_Src_Word.f (s0_0 : List Int) (s0_1 : Int) (l1 : List ByteArray) : Option (ByteArray × Int) := (kauditmake_Src_N.f s0_0 s0_1 (l1.length : Int)).bind fun bt108 => (if 0 ≤ bt108.1 then (if bt108.1 < (l1.length : Int) then (some (rdOf ByteArray.empty l1 bt108.1, bt108.2)) else (none)) else (none))
set_option maxHeartbeats 8000000 in
set_option maxRecDepth 100000 in
theorem kauditmake_Src_Word.calls (g : Nat) (s0_0 : List Int) (s0_1 : Int) (A1 : Option Addr) (c1 : Nat) (l1 : List ByteArray) (r1 : ByteArray) (r2 : Int) (w0 w : World) (hI : Zaj w0 w g s0_0 s0_1) (hB : Below w0.heap.size w0 w) (hr1 : Kd.C Kd.string w A1 l1.length l1) (hc1 : l1.length ≤ c1) (hf1 : ∀ ad, A1 = some ad → 0 < l1.length → ad.block ≠ g) (h : kauditmake_Src_Word.f s0_0 s0_1 l1 = some (r1, r2)) :
  Calls Tryz.prog 80 #[.pointer (some ⟨g, 0, none⟩), .slice A1 l1.length c1] w fun e w' => e = .returned (.string r1) ∧ Zaj w0 w' g s0_0 r2 ∧ Below w0.heap.size w0 w' ∧ Zap w w' g none := by
 have HR1 := Zaa.mk hr1
 have HC1 := Zaa.mk hc1
 clear hr1 hc1
 have HI0 := Zaa.mk hI
 have HK := Zaa.mk (Zap.refl w g none)
 have HL := Zaa.mk hB.size
 clear hI
 have HW0 := Zaa.mk hB.size
 have HB := Zaa.mk hB
 clear hB
 unfold kauditmake_Src_Word.f at h
 have H := h
 clear h
 replace H := Option.bind_eq_some_iff.mp H
 obtain ⟨⟨t108, t109⟩, A30, H⟩ := H
 try dsimp only at H
 have A3 := Zaa.mk A30
 clear A30
 by_cases c4 : 0 ≤ t108
 ·rw [if_pos c4] at H
  have c4b0 : decide (0 ≤ t108) = true := decide_eq_true c4
  clear c4
  by_cases c5 : t108 < (l1.length : Int)
  ·rw [if_pos c5] at H
   have c5b0 : decide (t108 < (l1.length : Int)) = true := decide_eq_true c5
   clear c5
   simp only [Option.some.injEq, Prod.mk.injEq] at H
   obtain ⟨rfl, rfl⟩ := H
   go_enter Tryz.func80, Tryz.ntmps80
   go_wp2_with (first | ((with_reducible refine Zam (f := 19) rfl ?_); refine Za1 (some 9) rfl rfl Tryz.func19 (by kernel_rfl) rfl #[.pointer (some ⟨g, 0, none⟩), .int .i64 (l1.length : Int)] rfl zam ?_; (with_reducible refine (kauditmake_Src_N.calls g s0_0 s0_1 (l1.length : Int) t108 t109 w0 _ ?side1 ?side2 A3.out).mono ?_); (case side1 => repeat (first | (with_reducible first | exact HI0.out | apply Zaj.alloc | apply Zaj.drewN | apply Zaj.drew | apply Zaj.set_1) | exact HI0.out)); (case side2 => repeat (first | (with_reducible first | exact HB.out | apply Zal | apply Zar | apply Zau | refine Zag ?_ (Zaj.ge HI0.out)) | exact HB.out)); rintro e w6 ⟨rfl, hi, hb, hk⟩; refine ⟨_, rfl, ?_⟩; replace HK := Zaa.mk (Zap.trans (zl4 HK) hk (.inl rfl)); replace HB := Zaa.mk (hb); replace HI0 := Zaa.mk (hi); (try clear hb); (try clear hk); (try clear hi); have p110 : 0 ≤ (t108 : Int) := zod; have q110 : t108 < (l1.length : Int) := zod; obtain ⟨ad110, e110, hx110_0⟩ := Kd.at_string HR1.out t108 p110 q110; cases e110; replace hx110_0 := keep_cell HK.out hx110_0 (by first | (rw [Zbj]; exact hf1 _ rfl (by omega)) | exact hf1 _ rfl (by omega) | exact hf1 ad110 rfl (by omega)); replace p110 := eq_true p110; replace q110 := eq_true q110))
   go_ret
   exact ⟨by first | rfl | (simp [errW_none, errW_some] <;> rfl) | (simp [*, errW_none, errW_some] <;> rfl), (zl3 HI0), (zb2 HB (Zaj.ge HI0.out)), (zl4 HK)⟩
  ·rw [if_neg c5] at H
   exact absurd H (by simp)
 ·rw [if_neg c4] at H
  exact absurd H (by simp)
def kauditmake_Src_Text.l0 : Nat → ByteArray → Int → List Int → Int → Option (ByteArray × Int)
 | 0, _, _, _, _ => none
 | k + 1, x3, x4, x1000, x1001 => if x4 > 0 then ((kauditmake_Src_Word.f x1000 x1001 (([(⟨#[97]⟩ : ByteArray), (⟨#[66]⟩ : ByteArray), (⟨#[55]⟩ : ByteArray), (⟨#[47]⟩ : ByteArray), (⟨#[34]⟩ : ByteArray), (⟨#[32]⟩ : ByteArray), (⟨#[0]⟩ : ByteArray), (⟨#[255]⟩ : ByteArray), (⟨#[61]⟩ : ByteArray), (⟨#[10]⟩ : ByteArray), (⟨#[126]⟩ : ByteArray), (⟨#[33]⟩ : ByteArray)] : List ByteArray))).bind fun bt116 => (if x3.size + bt116.1.size ≤ 9223372036854775807 then (kauditmake_Src_Text.l0 k (x3 ++ bt116.1) (wrap64 (x4 - 1)) x1000 bt116.2) else (none))) else (some (x3, x1001))
def kauditmake_Src_Text.f (k : Nat) (s0_0 : List Int) (s0_1 : Int) : Option (ByteArray × Int) := (kauditmake_Src_N.f s0_0 s0_1 5).bind fun bt111 => (kauditmake_Src_Text.l0 k (⟨#[]⟩ : ByteArray) bt111.1 s0_0 bt111.2)
theorem kauditmake_Src_Text.mono_l : ∀ k, (∀ y0 y1 y2 y3, LeO (kauditmake_Src_Text.l0 k y0 y1 y2 y3) (kauditmake_Src_Text.l0 (k + 1) y0 y1 y2 y3))
 | 0 => fun _ _ _ _ r h => by simp [kauditmake_Src_Text.l0] at h
 | k + 1 => by
  have ih0 := kauditmake_Src_Text.mono_l k
  ·intro y0 y1 y2 y3
   unfold kauditmake_Src_Text.l0
   repeat' first
   | (with_reducible exact ih0 _ _ _ _)
   | (with_reducible exact LeO.refl _)
   | (with_reducible exact LeO.none _)
   | (with_reducible refine LeO.ite ?_ ?_)
   | (with_reducible refine LeO.bind ?_ (fun _ => ?_))
   | exact ih0 _ _ _ _
   | exact LeO.none _
   | refine LeO.ite ?_ ?_
   | refine LeO.bind ?_ (fun _ => ?_)
theorem kauditmake_Src_Text.mono : ∀ a0 a1 k, LeO (kauditmake_Src_Text.f k a0 a1) (kauditmake_Src_Text.f (k + 1) a0 a1) := by
 intro a0 a1 k
 have ih0 := kauditmake_Src_Text.mono_l k
 unfold kauditmake_Src_Text.f
 repeat' first
   | (with_reducible exact ih0 _ _ _ _)
   | (with_reducible exact LeO.refl _)
   | (with_reducible exact LeO.none _)
   | (with_reducible refine LeO.ite ?_ ?_)
   | (with_reducible refine LeO.bind ?_ (fun _ => ?_))
   | exact ih0 _ _ _ _
   | exact LeO.none _
   | refine LeO.ite ?_ ?_
   | refine LeO.bind ?_ (fun _ => ?_)
set_option maxHeartbeats 8000000 in
set_option maxRecDepth 100000 in
theorem kauditmake_Src_Text.calls (k : Nat) (g : Nat) (s0_0 : List Int) (s0_1 : Int) (r1 : ByteArray) (r2 : Int) (w0 w : World) (hI : Zaj w0 w g s0_0 s0_1) (hB : Below w0.heap.size w0 w) (h : kauditmake_Src_Text.f k s0_0 s0_1 = some (r1, r2)) :
  Calls Tryz.prog 81 #[.pointer (some ⟨g, 0, none⟩)] w fun e w' => e = .returned (.string r1) ∧ Zaj w0 w' g s0_0 r2 ∧ Below w0.heap.size w0 w' ∧ Zap w w' g none := by
 have HI0 := Zaa.mk hI
 have HK := Zaa.mk (Zap.refl w g none)
 have HL := Zaa.mk hB.size
 clear hI
 have HW0 := Zaa.mk hB.size
 have HB := Zaa.mk hB
 clear hB
 unfold kauditmake_Src_Text.f at h
 have H := h
 clear h
 replace H := Option.bind_eq_some_iff.mp H
 obtain ⟨⟨t111, t112⟩, A20, H⟩ := H
 try dsimp only at H
 have A2 := Zaa.mk A20
 clear A20
 have H' := Zaa.mk H
 clear H
 go_enter Tryz.func81, Tryz.ntmps81
 go_wp2_with (first | ((with_reducible refine Zam (f := 19) rfl ?_); refine Za1 (some 6) rfl rfl Tryz.func19 (by kernel_rfl) rfl #[.pointer (some ⟨g, 0, none⟩), .int .i64 5] rfl zam ?_; (with_reducible refine (kauditmake_Src_N.calls g s0_0 s0_1 5 t111 t112 w0 _ ?side1 ?side2 A2.out).mono ?_); (case side1 => repeat (first | (with_reducible first | exact HI0.out | apply Zaj.alloc | apply Zaj.drewN | apply Zaj.drew | apply Zaj.set_1) | exact HI0.out)); (case side2 => repeat (first | (with_reducible first | exact HB.out | apply Zal | apply Zar | apply Zau | refine Zag ?_ (Zaj.ge HI0.out)) | exact HB.out)); rintro e w3 ⟨rfl, hi, hb, hk⟩; refine ⟨_, rfl, ?_⟩; replace HK := Zaa.mk (Zap.trans (zl4 HK) hk (.inl rfl)); replace HB := Zaa.mk (hb); replace HI0 := Zaa.mk (hi); (try clear hb); (try clear hk); (try clear hi)))
 go_loopg [3, 4] k (fun kq v3 v4 w' => ∃ (x3_1 : ByteArray) (x4_1 : Int) (x1001_1 : Int), v3 = .string x3_1 ∧ v4 = .int .i64 x4_1 ∧ Zaa (kauditmake_Src_Text.l0 kq x3_1 x4_1 s0_0 x1001_1 = some (r1, r2)) ∧ Zaa (kq ≤ k) ∧ Zaa (Zaj w0 w' g s0_0 x1001_1) ∧ Zaa (Zap w w' g none) ∧ Zaa (Below w0.heap.size w0 w'))
 case atStart => exact ⟨((⟨#[]⟩ : ByteArray)), (t111), (t112), (by first | rfl | (simp; done) | (simp [*]; done)), (by first | rfl | (simp; done) | (simp [*]; done)), H', ⟨Nat.le_refl _⟩, ⟨(zl3 HI0)⟩, ⟨(zl4 HK)⟩, ⟨(zb2 HB (Zaj.ge HI0.out))⟩⟩
 case round =>
  clear H'
  obtain ⟨x3_1, x4_1, x1001_1, rfl, rfl, HA, HK1, HI0, HK, HB⟩ := hrel
  cases gk with
  | zero => exact absurd HA.out (by simp [kauditmake_Src_Text.l0])
  | succ k1 =>
   have H := HA.out
   clear HA
   simp only [kauditmake_Src_Text.l0] at H
   by_cases c4 : x4_1 > 0
   ·rw [if_pos c4] at H
    have c4b0 : decide (0 < x4_1) = true := decide_eq_true c4
    clear c4
    obtain ⟨y113, hy113⟩ : ∃ y_ : List ByteArray, y_ = (([(⟨#[97]⟩ : ByteArray), (⟨#[66]⟩ : ByteArray), (⟨#[55]⟩ : ByteArray), (⟨#[47]⟩ : ByteArray), (⟨#[34]⟩ : ByteArray), (⟨#[32]⟩ : ByteArray), (⟨#[0]⟩ : ByteArray), (⟨#[255]⟩ : ByteArray), (⟨#[61]⟩ : ByteArray), (⟨#[10]⟩ : ByteArray), (⟨#[126]⟩ : ByteArray), (⟨#[33]⟩ : ByteArray)] : List ByteArray)) := ⟨_, rfl⟩
    replace H : ((kauditmake_Src_Word.f s0_0 x1001_1 y113).bind fun bt116 => (if x3_1.size + bt116.1.size ≤ 9223372036854775807 then (kauditmake_Src_Text.l0 k1 (x3_1 ++ bt116.1) (wrap64 (x4_1 - 1)) s0_0 bt116.2) else (none))) = some (r1, r2) := by first | (rw [hy113]; with_reducible exact H) | (have H2_ := (Option.bind_some _ _).symm.trans H; rw [hy113]; with_reducible exact H2_) | (have H2_ := (Option.bind_some _ _).symm.trans H; with_reducible exact H2_) | with_reducible exact H | (rw [hy113]; exact H) | exact H
    have Ny113 := Zaa.mk hy113
    clear hy113
    replace H := Option.bind_eq_some_iff.mp H
    obtain ⟨⟨t116, t117⟩, A50, H⟩ := H
    try dsimp only at H
    have A5 := Zaa.mk A50
    clear A50
    by_cases c6 : x3_1.size + t116.size ≤ 9223372036854775807
    ·rw [if_pos c6] at H
     have c6b0 := eq_true c6
     have c6b1 : decide (x3_1.size + t116.size ≤ 9223372036854775807) = true := decide_eq_true c6
     try have c6b2 : (9223372036854775807 < x3_1.size + t116.size) = False := eq_false (Nat.not_lt.2 c6)
     have H' := Zaa.mk H
     clear H
     go_wp2_with (first | ((with_reducible refine Zav (N := 13) rfl ?_); refine Kd.R_lit Kd.string _ 9 ?hg (N := 13) ?hd (xs := ([(⟨#[97]⟩ : ByteArray), (⟨#[66]⟩ : ByteArray), (⟨#[55]⟩ : ByteArray), (⟨#[47]⟩ : ByteArray), (⟨#[34]⟩ : ByteArray), (⟨#[32]⟩ : ByteArray), (⟨#[0]⟩ : ByteArray), (⟨#[255]⟩ : ByteArray), (⟨#[61]⟩ : ByteArray), (⟨#[10]⟩ : ByteArray), (⟨#[126]⟩ : ByteArray), (⟨#[33]⟩ : ByteArray)] : List ByteArray)) (inner := [.string (⟨#[97]⟩ : ByteArray), .string (⟨#[66]⟩ : ByteArray), .string (⟨#[55]⟩ : ByteArray), .string (⟨#[47]⟩ : ByteArray), .string (⟨#[34]⟩ : ByteArray), .string (⟨#[32]⟩ : ByteArray), .string (⟨#[0]⟩ : ByteArray), .string (⟨#[255]⟩ : ByteArray), .string (⟨#[61]⟩ : ByteArray), .string (⟨#[10]⟩ : ByteArray), .string (⟨#[126]⟩ : ByteArray), .string (⟨#[33]⟩ : ByteArray)]) (ok := fun _ => True) (okp := fun _ => True) ?hr ?hp (fun _ hk => hk) trivial (Below.refl _ _) (Nat.le_refl _) (by simp) ?_; (case hd => rfl); (case hg => rfl); (case hr => first | (go_simp; done) | (go_simp; rfl)); (case hp => exact (Reps.one (show Kd.M Kd.string _ _ _ (⟨#[97]⟩ : ByteArray) [.string (⟨#[97]⟩ : ByteArray)] from rfl) (Reps.one (show Kd.M Kd.string _ _ _ (⟨#[66]⟩ : ByteArray) [.string (⟨#[66]⟩ : ByteArray)] from rfl) (Reps.one (show Kd.M Kd.string _ _ _ (⟨#[55]⟩ : ByteArray) [.string (⟨#[55]⟩ : ByteArray)] from rfl) (Reps.one (show Kd.M Kd.string _ _ _ (⟨#[47]⟩ : ByteArray) [.string (⟨#[47]⟩ : ByteArray)] from rfl) (Reps.one (show Kd.M Kd.string _ _ _ (⟨#[34]⟩ : ByteArray) [.string (⟨#[34]⟩ : ByteArray)] from rfl) (Reps.one (show Kd.M Kd.string _ _ _ (⟨#[32]⟩ : ByteArray) [.string (⟨#[32]⟩ : ByteArray)] from rfl) (Reps.one (show Kd.M Kd.string _ _ _ (⟨#[0]⟩ : ByteArray) [.string (⟨#[0]⟩ : ByteArray)] from rfl) (Reps.one (show Kd.M Kd.string _ _ _ (⟨#[255]⟩ : ByteArray) [.string (⟨#[255]⟩ : ByteArray)] from rfl) (Reps.one (show Kd.M Kd.string _ _ _ (⟨#[61]⟩ : ByteArray) [.string (⟨#[61]⟩ : ByteArray)] from rfl) (Reps.one (show Kd.M Kd.string _ _ _ (⟨#[10]⟩ : ByteArray) [.string (⟨#[10]⟩ : ByteArray)] from rfl) (Reps.one (show Kd.M Kd.string _ _ _ (⟨#[126]⟩ : ByteArray) [.string (⟨#[126]⟩ : ByteArray)] from rfl) (Reps.one (show Kd.M Kd.string _ _ _ (⟨#[33]⟩ : ByteArray) [.string (⟨#[33]⟩ : ByteArray)] from rfl) (Reps.none _ _)))))))))))))); intro v114 w7 ho8 hb hg_ hnew_; clear hg_ hnew_; (first | rw [← Ny113.out] at ho8 | (simp only [Int.reduceToNat] at ho8; rw [← Ny113.out] at ho8)); have HO115 := Zaa.mk (Kd.R_lower ho8 (Zbi (w := w) (g := g) (row := none) (zl4 HK))); replace HK := Zaa.mk (Zap.trans (zl4 HK) (Zap.of_below hb g none) (.inl rfl)); replace HB := Zaa.mk (Zae (zb2 HB (Zaj.ge HI0.out)) hb); replace HI0 := Zaa.mk (Zaj.below (zl3 HI0) hb); clear hb ho8; obtain ⟨Ao9, co9, eo9⟩ := Kd.R_slice HO115.out; subst eo9) | ((with_reducible refine Zam (f := 80) rfl ?_); refine Za1 (some 14) rfl rfl Tryz.func80 (by kernel_rfl) rfl #[.pointer (some ⟨g, 0, none⟩), .slice Ao9 y113.length co9] rfl zam ?_; (with_reducible refine (kauditmake_Src_Word.calls g s0_0 x1001_1 _ _ y113 t116 t117 w0 _ ?side1 ?side2 ?side3 ?side4 ?side5 A5.out).mono ?_); (case side1 => repeat (first | (with_reducible first | exact HI0.out | apply Zaj.alloc | apply Zaj.drewN | apply Zaj.drew | apply Zaj.set_1) | exact HI0.out)); (case side2 => repeat (first | (with_reducible first | exact HB.out | apply Zal | apply Zar | apply Zau | refine Zag ?_ (Zaj.ge HI0.out)) | exact HB.out)); (case side3 => repeat (first | exact (Kd.R_reads' HO115.out).2.2 | (with_reducible refine Kd.C_alloc ?_ _) | (with_reducible refine Kd.C_drewN ?_ _) | (with_reducible refine Kd.C_drew ?_))); (case side4 => exact (Kd.R_reads' HO115.out).2.1); (case side5 => exact far_slice (Zaj.own_ne HI0.out HO115.out (by decide))); rintro e w10 ⟨rfl, hi, hb, hk⟩; refine ⟨_, rfl, ?_⟩; replace HO115 := Zaa.mk (Kd.R_mono (Kd.R_keep (Zaj.apart (show Zaj w0 _ g s0_0 x1001_1 from (zl3 HI0)) (zrk HO115) (by decide)) hk (fun _ h => h.2)) (fun _ h => h.1)); replace HK := Zaa.mk (Zap.trans (zl4 HK) hk (.inl rfl)); replace HB := Zaa.mk (hb); replace HI0 := Zaa.mk (hi); (try clear hb); (try clear hk); (try clear hi)))
     go_roundg k1
     case measure => have := HK1.out; omega
     case rel => exact ⟨(x3_1 ++ t116), (wrap64 (x4_1 - 1)), (t117), (by first | rfl | (simp; done) | (simp [*]; done)), (by first | rfl | (simp; done) | (simp [*]; done)), H', ⟨by have := HK1.out; omega⟩, ⟨(zl3 HI0)⟩, ⟨(zl4 HK)⟩, ⟨(zb2 HB (Zaj.ge HI0.out))⟩⟩
    ·rw [if_neg c6] at H
     exact absurd H (by simp)
   ·rw [if_neg c4] at H
    have c4b0 : decide (0 < x4_1) = false := decide_eq_false c4
    clear c4
    simp only [Option.some.injEq, Prod.mk.injEq] at H
    obtain ⟨rfl, rfl⟩ := H
    go_wp2
    go_ret
    exact ⟨by first | rfl | (simp [errW_none, errW_some] <;> rfl) | (simp [*, errW_none, errW_some] <;> rfl), (zl3 HI0), (zb2 HB (Zaj.ge HI0.out)), (zl4 HK)⟩
def kauditmake_Src_Pair.j0 : Nat → List Int → Int → ByteArray → Int → Int → ByteArray → Option (ByteArray × Int × Int × ByteArray × Int)
 | 0, _, _, _, _, _, _ => none
 | k + 1, x1000, x1001, x127000, x127001, x127002, x127003 => (kauditmake_Src_N.f x1000 x1001 24).bind fun bt136 => (if bt136.1 = 23 then ((kauditmake_Src_Word.f x1000 bt136.2 (([(⟨#[]⟩ : ByteArray), (⟨#[65]⟩ : ByteArray), (⟨#[49, 97]⟩ : ByteArray), (⟨#[97, 45, 98]⟩ : ByteArray), (⟨#[97, 98, 99, 100, 101, 102, 103, 104, 105, 106, 107, 108, 109, 110, 111, 112]⟩ : ByteArray), (⟨#[97, 98, 99, 100, 101, 102, 103, 104, 105, 106, 107, 108, 109, 110, 111, 112, 113]⟩ : ByteArray)] : List ByteArray))).bind fun bt141 => ((kauditmake_Src_N.f x1000 bt141.2 2).bind fun bt143 => (some (bt141.1, x127001, bt143.1, x127003, bt143.2)))) else (some (x127000, x127001, x127002, x127003, bt136.2)))
def kauditmake_Src_Pair.f (k : Nat) (s0_0 : List Int) (s0_1 : Int) : Option (ByteArray × Int × Int × ByteArray × Int) := (kauditmake_Src_Word.f s0_0 s0_1 (([(⟨#[97]⟩ : ByteArray), (⟨#[98]⟩ : ByteArray), (⟨#[117, 105, 100]⟩ : ByteArray), (⟨#[107, 101, 121]⟩ : ByteArray), (⟨#[97, 48]⟩ : ByteArray), (⟨#[120, 95, 49]⟩ : ByteArray), (⟨#[112, 105, 100]⟩ : ByteArray), (⟨#[112, 97, 116, 104]⟩ : ByteArray)] : List ByteArray))).bind fun bt122 => ((kauditmake_Src_Range.f s0_0 bt122.2 1 3).bind fun bt124 => (if bt124.1 = 1 then ((kauditmake_Src_N.f s0_0 bt124.2 1000).bind fun bt127 => ((kauditmake_Src_Pick.f s0_0 bt127.2 (([0, 1, (-1), 42, 9223372036854775807, (-9223372036854775808), bt127.1] : List Int))).bind fun bt132 => (kauditmake_Src_Pair.j0 k s0_0 bt132.2 bt122.1 bt124.1 bt132.1 (⟨#[]⟩ : ByteArray)))) else (if bt124.1 = 2 then ((kauditmake_Src_Text.f k s0_0 bt124.2).bind fun bt134 => (kauditmake_Src_Pair.j0 k s0_0 bt134.2 bt122.1 bt124.1 0 bt134.1)) else (kauditmake_Src_Pair.j0 k s0_0 bt124.2 bt122.1 bt124.1 0 (⟨#[]⟩ : ByteArray)))))
theorem kauditmake_Src_Pair.mono_l : ∀ k, (∀ y0 y1 y2 y3 y4 y5, LeO (kauditmake_Src_Pair.j0 k y0 y1 y2 y3 y4 y5) (kauditmake_Src_Pair.j0 (k + 1) y0 y1 y2 y3 y4 y5))
 | 0 => fun _ _ _ _ _ _ r h => by simp [kauditmake_Src_Pair.j0] at h
 | k + 1 => by
  have ih0 := kauditmake_Src_Pair.mono_l k
  ·intro y0 y1 y2 y3 y4 y5
   unfold kauditmake_Src_Pair.j0
   repeat' first
   | (with_reducible exact ih0 _ _ _ _ _ _)
   | (with_reducible exact kauditmake_Src_Text.mono _ _ _)
   | (with_reducible exact LeO.refl _)
   | (with_reducible exact LeO.none _)
   | (with_reducible refine LeO.ite ?_ ?_)
   | (with_reducible refine LeO.bind ?_ (fun _ => ?_))
   | exact ih0 _ _ _ _ _ _
   | exact kauditmake_Src_Text.mono _ _ _
   | exact LeO.none _
   | refine LeO.ite ?_ ?_
   | refine LeO.bind ?_ (fun _ => ?_)
theorem kauditmake_Src_Pair.mono : ∀ a0 a1 k, LeO (kauditmake_Src_Pair.f k a0 a1) (kauditmake_Src_Pair.f (k + 1) a0 a1) := by
 intro a0 a1 k
 have ih0 := kauditmake_Src_Pair.mono_l k
 unfold kauditmake_Src_Pair.f
 repeat' first
   | (with_reducible exact ih0 _ _ _ _ _ _)
   | (with_reducible exact kauditmake_Src_Text.mono _ _ _)
   | (with_reducible exact LeO.refl _)
   | (with_reducible exact LeO.none _)
   | (with_reducible refine LeO.ite ?_ ?_)
   | (with_reducible refine LeO.bind ?_ (fun _ => ?_))
   | exact ih0 _ _ _ _ _ _
   | exact kauditmake_Src_Text.mono _ _ _
   | exact LeO.none _
   | refine LeO.ite ?_ ?_
   | refine LeO.bind ?_ (fun _ => ?_)
theorem zl5 {p q r1 : Prop} (x : Zaa q) (g1_ : r1) (h : q → r1 → p := by intro h_ g1_; repeat (first | (with_reducible first | exact h_ | apply Zap.set_ | apply keep_drewN | apply keep_drew | apply keep_alloc | refine keep_far ?_ g1_ _) | exact h_)) : p := h x.out g1_
theorem zl7 {p q r1 : Prop} (x : Zaa q) (g1_ : r1) (h : q → r1 → p := by intro h_ g1_; repeat (first | (with_reducible first | exact h_ | apply Zaj.alloc | apply Zaj.drewN | apply Zaj.drew | apply Zaj.set_1 | refine Zaj.far ?_ g1_ _) | exact h_)) : p := h x.out g1_
theorem zl8 {p q r1 r2 : Prop} (x : Zaa q) (g1_ : r1) (g2_ : r2) (h : q → r1 → r2 → p := by intro h_ g1_ g2_; repeat (first | (with_reducible first | exact h_ | apply Zaj.alloc | apply Zaj.drewN | apply Zaj.drew | apply Zaj.set_1 | refine Zaj.far ?_ g1_ _ | refine Zaj.far ?_ g2_ _) | exact h_)) : p := h x.out g1_ g2_
theorem zl9 {p q r1 r2 : Prop} (x : Zaa q) (g1_ : r1) (g2_ : r2) (h : q → r1 → r2 → p := by intro h_ g1_ g2_; repeat (first | (with_reducible first | exact h_ | apply Zap.set_ | apply keep_drewN | apply keep_drew | apply keep_alloc | refine keep_far ?_ g1_ _ | refine keep_far ?_ g2_ _) | exact h_)) : p := h x.out g1_ g2_
set_option maxHeartbeats 8000000 in
set_option maxRecDepth 100000 in
theorem kauditmake_Src_Pair.calls (k : Nat) (g : Nat) (s0_0 : List Int) (s0_1 : Int) (r1 : ByteArray) (r2 : Int) (r3 : Int) (r4 : ByteArray) (r5 : Int) (w0 w : World) (hI : Zaj w0 w g s0_0 s0_1) (hB : Below w0.heap.size w0 w) (h : kauditmake_Src_Pair.f k s0_0 s0_1 = some (r1, r2, r3, r4, r5)) :
  Calls Tryz.prog 39 #[.pointer (some ⟨g, 0, none⟩)] w fun e w' => e = .returned (.agg #[.string r1, .int .i64 r2, .int .i64 r3, .string r4]) ∧ Zaj w0 w' g s0_0 r5 ∧ Below w0.heap.size w0 w' ∧ Zap w w' g none := by
 have hu88 := Tryz.underlying88
 have HI0 := Zaa.mk hI
 have HK := Zaa.mk (Zap.refl w g none)
 have HL := Zaa.mk hB.size
 clear hI
 have HW0 := Zaa.mk hB.size
 have HB := Zaa.mk hB
 clear hB
 unfold kauditmake_Src_Pair.f at h
 have H := h
 clear h
 obtain ⟨y119, hy119⟩ : ∃ y_ : List ByteArray, y_ = (([(⟨#[97]⟩ : ByteArray), (⟨#[98]⟩ : ByteArray), (⟨#[117, 105, 100]⟩ : ByteArray), (⟨#[107, 101, 121]⟩ : ByteArray), (⟨#[97, 48]⟩ : ByteArray), (⟨#[120, 95, 49]⟩ : ByteArray), (⟨#[112, 105, 100]⟩ : ByteArray), (⟨#[112, 97, 116, 104]⟩ : ByteArray)] : List ByteArray)) := ⟨_, rfl⟩
 replace H : ((kauditmake_Src_Word.f s0_0 s0_1 y119).bind fun bt122 => ((kauditmake_Src_Range.f s0_0 bt122.2 1 3).bind fun bt124 => (if bt124.1 = 1 then ((kauditmake_Src_N.f s0_0 bt124.2 1000).bind fun bt127 => ((kauditmake_Src_Pick.f s0_0 bt127.2 (([0, 1, (-1), 42, 9223372036854775807, (-9223372036854775808), bt127.1] : List Int))).bind fun bt132 => (kauditmake_Src_Pair.j0 k s0_0 bt132.2 bt122.1 bt124.1 bt132.1 (⟨#[]⟩ : ByteArray)))) else (if bt124.1 = 2 then ((kauditmake_Src_Text.f k s0_0 bt124.2).bind fun bt134 => (kauditmake_Src_Pair.j0 k s0_0 bt134.2 bt122.1 bt124.1 0 bt134.1)) else (kauditmake_Src_Pair.j0 k s0_0 bt124.2 bt122.1 bt124.1 0 (⟨#[]⟩ : ByteArray)))))) = some (r1, r2, r3, r4, r5) := by first | (rw [hy119]; with_reducible exact H) | (have H2_ := (Option.bind_some _ _).symm.trans H; rw [hy119]; with_reducible exact H2_) | (have H2_ := (Option.bind_some _ _).symm.trans H; with_reducible exact H2_) | with_reducible exact H | (rw [hy119]; exact H) | exact H
 have Ny119 := Zaa.mk hy119
 clear hy119
 replace H := Option.bind_eq_some_iff.mp H
 obtain ⟨⟨t122, t123⟩, A20, H⟩ := H
 try dsimp only at H
 have A2 := Zaa.mk A20
 clear A20
 replace H := Option.bind_eq_some_iff.mp H
 obtain ⟨⟨t124, t125⟩, A30, H⟩ := H
 try dsimp only at H
 have A3 := Zaa.mk A30
 clear A30
 have HC4 := Zaa.mk H
 clear H
 go_enter Tryz.func39, Tryz.ntmps39
 go_upto_block 0 with (first | ((with_reducible refine Zav (N := 2) rfl ?_); refine Zaw ?hg (N := 2) ?hd (cs := #[.string (⟨#[]⟩ : ByteArray), .int .i64 0, .int .i64 0, .string (⟨#[]⟩ : ByteArray)]) (t := 88) ?hr ?_; (case hd => rfl); (case hg => rfl); (case hr => first | (go_simp; done) | (go_simp; rfl)); intro gb118 hg w5 hbox hb; replace HB := Zaa.mk (Zae (zb2 HB (Zaj.ge HI0.out)) hb); have BK118 := Zaa.mk (hbox); have GW118 := Zaa.mk ((by rw [hg]; exact (Zbi (w := w) (g := g) (row := none) (zl4 HK)) : w.heap.size ≤ gb118)); have GE118 := Zaa.mk ((Nat.le_trans HW0.out (by rw [hg]; exact (Zbi (w := w) (g := g) (row := none) (zl4 HK)) : w.heap.size ≤ gb118) : w0.heap.size ≤ gb118)); replace HK := Zaa.mk (Zap.trans (zl4 HK) (Zap.of_below hb g none) (.inl rfl)); have NB0_118 := Zaa.mk ((by rw [hg]; exact Nat.ne_of_lt (Zaj.lt (show Zaj w0 _ g s0_0 s0_1 from (zl3 HI0))) : g ≠ gb118)); have NB118_0 := Zaa.mk ((by rw [hg]; exact Nat.ne_of_gt (Zaj.lt (show Zaj w0 _ g s0_0 s0_1 from (zl3 HI0))) : gb118 ≠ g)); replace HI0 := Zaa.mk (Zaj.below (zl3 HI0) hb); clear hb hbox hg) | ((with_reducible refine Zav (N := 5) rfl ?_); refine Kd.R_lit Kd.string _ 9 ?hg (N := 5) ?hd (xs := ([(⟨#[97]⟩ : ByteArray), (⟨#[98]⟩ : ByteArray), (⟨#[117, 105, 100]⟩ : ByteArray), (⟨#[107, 101, 121]⟩ : ByteArray), (⟨#[97, 48]⟩ : ByteArray), (⟨#[120, 95, 49]⟩ : ByteArray), (⟨#[112, 105, 100]⟩ : ByteArray), (⟨#[112, 97, 116, 104]⟩ : ByteArray)] : List ByteArray)) (inner := [.string (⟨#[97]⟩ : ByteArray), .string (⟨#[98]⟩ : ByteArray), .string (⟨#[117, 105, 100]⟩ : ByteArray), .string (⟨#[107, 101, 121]⟩ : ByteArray), .string (⟨#[97, 48]⟩ : ByteArray), .string (⟨#[120, 95, 49]⟩ : ByteArray), .string (⟨#[112, 105, 100]⟩ : ByteArray), .string (⟨#[112, 97, 116, 104]⟩ : ByteArray)]) (ok := fun _ => True) (okp := fun _ => True) ?hr ?hp (fun _ hk => hk) trivial (Below.refl _ _) (Nat.le_refl _) (by simp) ?_; (case hd => rfl); (case hg => rfl); (case hr => first | (go_simp; done) | (go_simp; rfl)); (case hp => exact (Reps.one (show Kd.M Kd.string _ _ _ (⟨#[97]⟩ : ByteArray) [.string (⟨#[97]⟩ : ByteArray)] from rfl) (Reps.one (show Kd.M Kd.string _ _ _ (⟨#[98]⟩ : ByteArray) [.string (⟨#[98]⟩ : ByteArray)] from rfl) (Reps.one (show Kd.M Kd.string _ _ _ (⟨#[117, 105, 100]⟩ : ByteArray) [.string (⟨#[117, 105, 100]⟩ : ByteArray)] from rfl) (Reps.one (show Kd.M Kd.string _ _ _ (⟨#[107, 101, 121]⟩ : ByteArray) [.string (⟨#[107, 101, 121]⟩ : ByteArray)] from rfl) (Reps.one (show Kd.M Kd.string _ _ _ (⟨#[97, 48]⟩ : ByteArray) [.string (⟨#[97, 48]⟩ : ByteArray)] from rfl) (Reps.one (show Kd.M Kd.string _ _ _ (⟨#[120, 95, 49]⟩ : ByteArray) [.string (⟨#[120, 95, 49]⟩ : ByteArray)] from rfl) (Reps.one (show Kd.M Kd.string _ _ _ (⟨#[112, 105, 100]⟩ : ByteArray) [.string (⟨#[112, 105, 100]⟩ : ByteArray)] from rfl) (Reps.one (show Kd.M Kd.string _ _ _ (⟨#[112, 97, 116, 104]⟩ : ByteArray) [.string (⟨#[112, 97, 116, 104]⟩ : ByteArray)] from rfl) (Reps.none _ _)))))))))); intro v120 w6 ho7 hb hg_ hnew_; clear hg_ hnew_; (first | rw [← Ny119.out] at ho7 | (simp only [Int.reduceToNat] at ho7; rw [← Ny119.out] at ho7)); have HO121 := Zaa.mk (Kd.R_lower ho7 (Zbi (w := w) (g := g) (row := none) (zl5 HK GW118.out))); replace BK118 := Zaa.mk (Zah (g := gb118) (o := .cells #[.string (⟨#[]⟩ : ByteArray), .int .i64 0, .int .i64 0, .string (⟨#[]⟩ : ByteArray)] 88 (0, 0)) (zbk BK118) hb); replace HK := Zaa.mk (Zap.trans (zl5 HK GW118.out) (Zap.of_below hb g none) (.inl rfl)); replace HB := Zaa.mk (Zae (zb6 HB (Zaj.ge HI0.out) GE118.out) hb); replace HI0 := Zaa.mk (Zaj.below (zl7 HI0 NB0_118.out) hb); clear hb ho7; obtain ⟨Ao8, co8, eo8⟩ := Kd.R_slice HO121.out; subst eo8) | ((with_reducible refine Zam (f := 80) rfl ?_); refine Za1 (some 6) rfl rfl Tryz.func80 (by kernel_rfl) rfl #[.pointer (some ⟨g, 0, none⟩), .slice Ao8 y119.length co8] rfl zam ?_; (with_reducible refine (kauditmake_Src_Word.calls g s0_0 s0_1 _ _ y119 t122 t123 w0 _ ?side1 ?side2 ?side3 ?side4 ?side5 A2.out).mono ?_); (case side1 => repeat (first | (with_reducible first | exact HI0.out | apply Zaj.alloc | apply Zaj.drewN | apply Zaj.drew | apply Zaj.set_1 | refine Zaj.far ?_ NB0_118.out _) | exact HI0.out)); (case side2 => repeat (first | (with_reducible first | exact HB.out | apply Zal | apply Zar | apply Zau | refine Zag ?_ (Zaj.ge HI0.out) | refine Zag ?_ GE118.out) | exact HB.out)); (case side3 => repeat (first | exact (Kd.R_reads' HO121.out).2.2 | (with_reducible refine Kd.C_alloc ?_ _) | (with_reducible refine Kd.C_drewN ?_ _) | (with_reducible refine Kd.C_drew ?_))); (case side4 => exact (Kd.R_reads' HO121.out).2.1); (case side5 => exact far_slice (Zaj.own_ne HI0.out HO121.out (by decide))); rintro e w9 ⟨rfl, hi, hb, hk⟩; refine ⟨_, rfl, ?_⟩; replace BK118 := Zaa.mk (Zap.blk hk (g' := gb118) (o := .cells #[.string (⟨#[]⟩ : ByteArray), .int .i64 0, .int .i64 0, .string (⟨#[]⟩ : ByteArray)] 88 (0, 0)) (zbk BK118) NB118_0.out (by simp)); replace HO121 := Zaa.mk (Kd.R_mono (Kd.R_keep (Zaj.apart (show Zaj w0 _ g s0_0 s0_1 from (zl7 HI0 NB0_118.out)) (zrk HO121) (by decide)) hk (fun _ h => h.2)) (fun _ h => h.1)); replace HK := Zaa.mk (Zap.trans (zl5 HK GW118.out) hk (.inl rfl)); replace HB := Zaa.mk (hb); replace HI0 := Zaa.mk (hi); (try clear hb); (try clear hk); (try clear hi)) | ((with_reducible refine Zam (f := 40) rfl ?_); refine Za1 (some 8) rfl rfl Tryz.func40 (by kernel_rfl) rfl #[.pointer (some ⟨g, 0, none⟩), .int .i64 1, .int .i64 3] rfl zam ?_; (with_reducible refine (kauditmake_Src_Range.calls g s0_0 t123 1 3 t124 t125 w0 _ ?side1 ?side2 A3.out).mono ?_); (case side1 => repeat (first | (with_reducible first | exact HI0.out | apply Zaj.alloc | apply Zaj.drewN | apply Zaj.drew | apply Zaj.set_1 | refine Zaj.far ?_ NB0_118.out _) | exact HI0.out)); (case side2 => repeat (first | (with_reducible first | exact HB.out | apply Zal | apply Zar | apply Zau | refine Zag ?_ (Zaj.ge HI0.out) | refine Zag ?_ GE118.out) | exact HB.out)); rintro e w10 ⟨rfl, hi, hb, hk⟩; refine ⟨_, rfl, ?_⟩; replace BK118 := Zaa.mk (Zap.blk hk (g' := gb118) (o := .cells #[.string (⟨#[]⟩ : ByteArray), .int .i64 0, .int .i64 0, .string (⟨#[]⟩ : ByteArray)] 88 (0, 0)) (zbk BK118) NB118_0.out (by simp)); replace HO121 := Zaa.mk (Kd.R_mono (Kd.R_keep (Zaj.apart (show Zaj w0 _ g s0_0 t123 from (zl7 HI0 NB0_118.out)) (zrk HO121) (by decide)) hk (fun _ h => h.2)) (fun _ h => h.1)); replace HK := Zaa.mk (Zap.trans (zl5 HK GW118.out) hk (.inl rfl)); replace HB := Zaa.mk (hb); replace HI0 := Zaa.mk (hi); (try clear hb); (try clear hk); (try clear hi)) | ((with_reducible refine Zav (N := 3) rfl ?_); refine Zaw ?hg (N := 3) ?hd (cs := #[.string (⟨#[]⟩ : ByteArray), .int .i64 0, .int .i64 0, .string (⟨#[]⟩ : ByteArray)]) (t := 88) ?hr ?_; (case hd => rfl); (case hg => rfl); (case hr => first | (go_simp; done) | (go_simp; rfl)); intro gb126 hg w11 hbox hb; replace HO121 := Zaa.mk (Kd.R_below (zrk HO121) hb); replace HB := Zaa.mk (Zae (zb6 HB (Zaj.ge HI0.out) GE118.out) hb); have BK126 := Zaa.mk (hbox); have GW126 := Zaa.mk ((by rw [hg]; exact (Zbi (w := w) (g := g) (row := none) (zl5 HK GW118.out)) : w.heap.size ≤ gb126)); have GE126 := Zaa.mk ((Nat.le_trans HW0.out (by rw [hg]; exact (Zbi (w := w) (g := g) (row := none) (zl5 HK GW118.out)) : w.heap.size ≤ gb126) : w0.heap.size ≤ gb126)); replace HK := Zaa.mk (Zap.trans (zl5 HK GW118.out) (Zap.of_below hb g none) (.inl rfl)); have NB118_126 := Zaa.mk ((by rw [hg]; exact Nat.ne_of_lt (Za3 (g := gb118) (o := .cells #[.string (⟨#[]⟩ : ByteArray), .int .i64 0, .int .i64 0, .string (⟨#[]⟩ : ByteArray)] 88 (0, 0)) (zbk BK118)) : gb118 ≠ gb126)); have NB126_118 := Zaa.mk ((by rw [hg]; exact Nat.ne_of_gt (Za3 (g := gb118) (o := .cells #[.string (⟨#[]⟩ : ByteArray), .int .i64 0, .int .i64 0, .string (⟨#[]⟩ : ByteArray)] 88 (0, 0)) (zbk BK118)) : gb126 ≠ gb118)); replace BK118 := Zaa.mk (Zah (g := gb118) (o := .cells #[.string (⟨#[]⟩ : ByteArray), .int .i64 0, .int .i64 0, .string (⟨#[]⟩ : ByteArray)] 88 (0, 0)) (zbk BK118) hb); have NB0_126 := Zaa.mk ((by rw [hg]; exact Nat.ne_of_lt (Zaj.lt (show Zaj w0 _ g s0_0 t125 from (zl7 HI0 NB0_118.out))) : g ≠ gb126)); have NB126_0 := Zaa.mk ((by rw [hg]; exact Nat.ne_of_gt (Zaj.lt (show Zaj w0 _ g s0_0 t125 from (zl7 HI0 NB0_118.out))) : gb126 ≠ g)); replace HI0 := Zaa.mk (Zaj.below (zl7 HI0 NB0_118.out) hb); clear hb hbox hg; have hnb12 := NB126_118.out; have hnc12 := NB118_126.out; have hnb13 := NB126_0.out; have hnc13 := NB0_126.out; obtain ⟨hcz14_0, hcz14_1, hcz14_2, hcz14_3⟩ := bc4 BK126.out; obtain ⟨hfz14_0, hfz14_1, hfz14_2, hfz14_3⟩ := bf4 BK126.out))
 (try simp only [Act.put, List.setIfInBounds_toArray, List.set_cons_zero, List.set_cons_succ])
 go_cut [] (fun wc => ∃ (kq : Nat) (x1001_3 : Int) (x127002_3 : Int) (x127003_3 : ByteArray), Zaa (kauditmake_Src_Pair.j0 kq s0_0 x1001_3 t122 t124 x127002_3 x127003_3 = some (r1, r2, r3, r4, r5)) ∧ Zaa (kq ≤ k) ∧ Zaa (wc.heap[gb118]? = some (.cells #[.string (⟨#[]⟩ : ByteArray), .int .i64 0, .int .i64 0, .string (⟨#[]⟩ : ByteArray)] 88 (0, 0))) ∧ Zaa (wc.heap[gb126]? = some (.cells #[.string t122, .int .i64 t124, .int .i64 x127002_3, .string x127003_3] 88 (0, 0))) ∧ Zaa (Zaj w0 wc g s0_0 x1001_3) ∧ Zaa (Zap w wc g none) ∧ Zaa (Below w0.heap.size w0 wc))
 case first =>
  have H := HC4.out
  clear HC4
  by_cases c15 : t124 = 1
  ·rw [if_pos c15] at H
   have c15b0 : (t124 == 1) = true := beq_iff_eq.mpr c15
   have c15b1 : (t124 != 1) = false := bne_eq_false_iff_eq.mpr c15
   clear c15
   (first | rw [c15b0] | (simp only [Zax, Zay]; rw [c15b0]) | skip)
   replace H := Option.bind_eq_some_iff.mp H
   obtain ⟨⟨t127, t128⟩, A160, H⟩ := H
   try dsimp only at H
   have A16 := Zaa.mk A160
   clear A160
   obtain ⟨y129, hy129⟩ : ∃ y_ : List Int, y_ = (([0, 1, (-1), 42, 9223372036854775807, (-9223372036854775808), t127] : List Int)) := ⟨_, rfl⟩
   replace H : ((kauditmake_Src_Pick.f s0_0 t128 y129).bind fun bt132 => (kauditmake_Src_Pair.j0 k s0_0 bt132.2 t122 t124 bt132.1 (⟨#[]⟩ : ByteArray))) = some (r1, r2, r3, r4, r5) := by first | (rw [hy129]; with_reducible exact H) | (have H2_ := (Option.bind_some _ _).symm.trans H; rw [hy129]; with_reducible exact H2_) | (have H2_ := (Option.bind_some _ _).symm.trans H; with_reducible exact H2_) | with_reducible exact H | (rw [hy129]; exact H) | exact H
   have Ny129 := Zaa.mk hy129
   clear hy129
   replace H := Option.bind_eq_some_iff.mp H
   obtain ⟨⟨t132, t133⟩, A170, H⟩ := H
   try dsimp only at H
   have A17 := Zaa.mk A170
   clear A170
   have H' := Zaa.mk H
   clear H
   go_wp2_with (first | ((with_reducible refine Zam (f := 19) rfl ?_); refine Za1 (some 16) rfl rfl Tryz.func19 (by kernel_rfl) rfl #[.pointer (some ⟨g, 0, none⟩), .int .i64 1000] rfl zam ?_; (with_reducible refine (kauditmake_Src_N.calls g s0_0 t125 1000 t127 t128 w0 _ ?side1 ?side2 A16.out).mono ?_); (case side1 => repeat (first | (with_reducible first | exact HI0.out | apply Zaj.alloc | apply Zaj.drewN | apply Zaj.drew | apply Zaj.set_1 | refine Zaj.far ?_ NB0_118.out _ | refine Zaj.far ?_ NB0_126.out _) | exact HI0.out)); (case side2 => repeat (first | (with_reducible first | exact HB.out | apply Zal | apply Zar | apply Zau | refine Zag ?_ (Zaj.ge HI0.out) | refine Zag ?_ GE118.out | refine Zag ?_ GE126.out) | exact HB.out)); rintro e w18 ⟨rfl, hi, hb, hk⟩; refine ⟨_, rfl, ?_⟩; replace BK118 := Zaa.mk (Zap.blk hk (g' := gb118) (o := .cells #[.string (⟨#[]⟩ : ByteArray), .int .i64 0, .int .i64 0, .string (⟨#[]⟩ : ByteArray)] 88 (0, 0)) (by (with_reducible repeat (first | refine Zac ?_ _ | refine Zad ?_ | refine Zab ?_ _)); refine Zaq ?_ NB118_126.out _; (with_reducible repeat (first | refine Zac ?_ _ | refine Zad ?_ | refine Zab ?_ _)); refine Zaq ?_ NB118_126.out _; (with_reducible repeat (first | refine Zac ?_ _ | refine Zad ?_ | refine Zab ?_ _)); refine Zaq ?_ NB118_126.out _; (with_reducible repeat (first | refine Zac ?_ _ | refine Zad ?_ | refine Zab ?_ _)); refine Zaq ?_ NB118_126.out _; (with_reducible repeat (first | refine Zac ?_ _ | refine Zad ?_ | refine Zab ?_ _)); exact BK118.out) NB118_0.out (by simp)); replace HO121 := Zaa.mk (Kd.R_mono (Kd.R_keep (Zaj.apart (show Zaj w0 _ g s0_0 t125 from (zl8 HI0 NB0_118.out NB0_126.out)) (by (with_reducible repeat (first | apply Kd.R_alloc | apply Kd.R_drewN | apply Kd.R_drew)); exact (Kd.R_mono (Kd.R_far (p := ⟨gb126, 3, none⟩) (Kd.R_far (p := ⟨gb126, 2, none⟩) (Kd.R_far (p := ⟨gb126, 1, none⟩) (Kd.R_far (p := ⟨gb126, 0, none⟩) (Kd.R_types HO121.out BK126.out (by decide)) (fun _ hk => hk.2) (.string t122)) (fun _ hk => hk.2) (.int .i64 t124)) (fun _ hk => hk.2) (.int .i64 0)) (fun _ hk => hk.2) (.string (⟨#[]⟩ : ByteArray))) (fun _ h_ => h_.1))) (by decide)) hk (fun _ h => h.2)) (fun _ h => h.1)); replace BK126 := Zaa.mk (Zap.blk hk (g' := gb126) (o := .cells #[.string t122, .int .i64 t124, .int .i64 0, .string (⟨#[]⟩ : ByteArray)] 88 (0, 0)) (by (with_reducible repeat (first | refine Zac ?_ _ | refine Zad ?_ | refine Zab ?_ _)); refine Zas (cs := #[.string t122, .int .i64 t124, .int .i64 0, .string (⟨#[]⟩ : ByteArray)]) ?_ 3 _ rfl; (with_reducible repeat (first | refine Zac ?_ _ | refine Zad ?_ | refine Zab ?_ _)); refine Zas (cs := #[.string t122, .int .i64 t124, .int .i64 0, .string (⟨#[]⟩ : ByteArray)]) ?_ 2 _ rfl; (with_reducible repeat (first | refine Zac ?_ _ | refine Zad ?_ | refine Zab ?_ _)); refine Zas (cs := #[.string t122, .int .i64 0, .int .i64 0, .string (⟨#[]⟩ : ByteArray)]) ?_ 1 _ rfl; (with_reducible repeat (first | refine Zac ?_ _ | refine Zad ?_ | refine Zab ?_ _)); refine Zas (cs := #[.string (⟨#[]⟩ : ByteArray), .int .i64 0, .int .i64 0, .string (⟨#[]⟩ : ByteArray)]) ?_ 0 _ rfl; (with_reducible repeat (first | refine Zac ?_ _ | refine Zad ?_ | refine Zab ?_ _)); exact BK126.out) NB126_0.out (by simp)); replace HK := Zaa.mk (Zap.trans (zl9 HK GW118.out GW126.out) hk (.inl rfl)); replace HB := Zaa.mk (hb); replace HI0 := Zaa.mk (hi); (try clear hb); (try clear hk); (try clear hi)) | ((with_reducible refine Zav (N := 17) rfl ?_); refine Kd.R_lit (Kd.int .i64) _ 3 ?hg (N := 17) ?hd (xs := ([0, 1, (-1), 42, 9223372036854775807, (-9223372036854775808), t127] : List Int)) (inner := [.int .i64 0, .int .i64 1, .int .i64 (-1), .int .i64 42, .int .i64 9223372036854775807, .int .i64 (-9223372036854775808), .int .i64 t127]) (ok := fun _ => True) (okp := fun _ => True) ?hr ?hp (fun _ hk => hk) trivial (Below.refl _ _) (Nat.le_refl _) (by simp) ?_; (case hd => rfl); (case hg => rfl); (case hr => first | (go_simp; done) | (go_simp; rfl)); (case hp => exact (Reps.one (show Kd.M (Kd.int .i64) _ _ _ 0 [.int .i64 0] from rfl) (Reps.one (show Kd.M (Kd.int .i64) _ _ _ 1 [.int .i64 1] from rfl) (Reps.one (show Kd.M (Kd.int .i64) _ _ _ (-1) [.int .i64 (-1)] from rfl) (Reps.one (show Kd.M (Kd.int .i64) _ _ _ 42 [.int .i64 42] from rfl) (Reps.one (show Kd.M (Kd.int .i64) _ _ _ 9223372036854775807 [.int .i64 9223372036854775807] from rfl) (Reps.one (show Kd.M (Kd.int .i64) _ _ _ (-9223372036854775808) [.int .i64 (-9223372036854775808)] from rfl) (Reps.one (show Kd.M (Kd.int .i64) _ _ _ t127 [.int .i64 t127] from rfl) (Reps.none _ _))))))))); intro v130 w19 ho20 hb hg_ hnew_; clear hg_ hnew_; (first | rw [← Ny129.out] at ho20 | (simp only [Int.reduceToNat] at ho20; rw [← Ny129.out] at ho20)); replace HO121 := Zaa.mk (Kd.R_below (zrk HO121) hb); have HO131 := Zaa.mk (Kd.R_lower ho20 (Zbi (w := w) (g := g) (row := none) (zl9 HK GW118.out GW126.out))); replace BK118 := Zaa.mk (Zah (g := gb118) (o := .cells #[.string (⟨#[]⟩ : ByteArray), .int .i64 0, .int .i64 0, .string (⟨#[]⟩ : ByteArray)] 88 (0, 0)) (zbk BK118) hb); replace BK126 := Zaa.mk (Zah (g := gb126) (o := .cells #[.string t122, .int .i64 t124, .int .i64 0, .string (⟨#[]⟩ : ByteArray)] 88 (0, 0)) (zbk BK126) hb); replace HK := Zaa.mk (Zap.trans (zl9 HK GW118.out GW126.out) (Zap.of_below hb g none) (.inl rfl)); replace HB := Zaa.mk (Zae (zb10 HB (Zaj.ge HI0.out) GE118.out GE126.out) hb); replace HI0 := Zaa.mk (Zaj.below (zl8 HI0 NB0_118.out NB0_126.out) hb); clear hb ho20; obtain ⟨Ao21, co21, eo21⟩ := Kd.R_slice HO131.out; subst eo21) | ((with_reducible refine Zam (f := 38) rfl ?_); refine Za1 (some 18) rfl rfl Tryz.func38 (by kernel_rfl) rfl #[.pointer (some ⟨g, 0, none⟩), .slice Ao21 y129.length co21] rfl zam ?_; (with_reducible refine (kauditmake_Src_Pick.calls g s0_0 t128 _ _ y129 t132 t133 w0 _ ?side1 ?side2 ?side3 ?side4 ?side5 A17.out).mono ?_); (case side1 => repeat (first | (with_reducible first | exact HI0.out | apply Zaj.alloc | apply Zaj.drewN | apply Zaj.drew | apply Zaj.set_1 | refine Zaj.far ?_ NB0_118.out _ | refine Zaj.far ?_ NB0_126.out _) | exact HI0.out)); (case side2 => repeat (first | (with_reducible first | exact HB.out | apply Zal | apply Zar | apply Zau | refine Zag ?_ (Zaj.ge HI0.out) | refine Zag ?_ GE118.out | refine Zag ?_ GE126.out) | exact HB.out)); (case side3 => repeat (first | exact (Kd.R_reads' HO131.out).2.2 | (with_reducible refine Kd.C_alloc ?_ _) | (with_reducible refine Kd.C_drewN ?_ _) | (with_reducible refine Kd.C_drew ?_))); (case side4 => exact (Kd.R_reads' HO131.out).2.1); (case side5 => exact far_slice (Zaj.own_ne HI0.out HO131.out (by decide))); rintro e w22 ⟨rfl, hi, hb, hk⟩; refine ⟨_, rfl, ?_⟩; replace BK118 := Zaa.mk (Zap.blk hk (g' := gb118) (o := .cells #[.string (⟨#[]⟩ : ByteArray), .int .i64 0, .int .i64 0, .string (⟨#[]⟩ : ByteArray)] 88 (0, 0)) (zbk BK118) NB118_0.out (by simp)); replace HO121 := Zaa.mk (Kd.R_mono (Kd.R_keep (Zaj.apart (show Zaj w0 _ g s0_0 t128 from (zl8 HI0 NB0_118.out NB0_126.out)) (zrk HO121) (by decide)) hk (fun _ h => h.2)) (fun _ h => h.1)); replace BK126 := Zaa.mk (Zap.blk hk (g' := gb126) (o := .cells #[.string t122, .int .i64 t124, .int .i64 0, .string (⟨#[]⟩ : ByteArray)] 88 (0, 0)) (zbk BK126) NB126_0.out (by simp)); replace HO131 := Zaa.mk (Kd.R_mono (Kd.R_keep (Zaj.apart (show Zaj w0 _ g s0_0 t128 from (zl8 HI0 NB0_118.out NB0_126.out)) (zrk HO131) (by decide)) hk (fun _ h => h.2)) (fun _ h => h.1)); replace HK := Zaa.mk (Zap.trans (zl9 HK GW118.out GW126.out) hk (.inl rfl)); replace HB := Zaa.mk (hb); replace HI0 := Zaa.mk (hi); (try clear hb); (try clear hk); (try clear hi); have hnb23 := NB126_118.out; have hnc23 := NB118_126.out; have hnb24 := NB126_0.out; have hnc24 := NB0_126.out; obtain ⟨hcz25_0, hcz25_1, hcz25_2, hcz25_3⟩ := bc4 BK126.out; obtain ⟨hfz25_0, hfz25_1, hfz25_2, hfz25_3⟩ := bf4 BK126.out))
   go_meet
   case rel => exact ⟨_, (t133), (t132), ((⟨#[]⟩ : ByteArray)), H', ⟨by first | omega | exact Nat.le_refl _⟩, ⟨by (with_reducible repeat (first | refine Zac ?_ _ | refine Zad ?_ | refine Zab ?_ _)); refine Zaq ?_ NB118_126.out _; (with_reducible repeat (first | refine Zac ?_ _ | refine Zad ?_ | refine Zab ?_ _)); exact BK118.out⟩, ⟨by (with_reducible repeat (first | refine Zac ?_ _ | refine Zad ?_ | refine Zab ?_ _)); refine Zas (cs := #[.string t122, .int .i64 t124, .int .i64 0, .string (⟨#[]⟩ : ByteArray)]) ?_ 2 _ rfl; (with_reducible repeat (first | refine Zac ?_ _ | refine Zad ?_ | refine Zab ?_ _)); exact BK126.out⟩, ⟨(zl8 HI0 NB0_118.out NB0_126.out)⟩, ⟨(zl9 HK GW118.out GW126.out)⟩, ⟨(zb10 HB (Zaj.ge HI0.out) GE118.out GE126.out)⟩⟩
  ·rw [if_neg c15] at H
   have c15b0 : (t124 == 1) = false := beq_eq_false_iff_ne.mpr c15
   have c15b1 : (t124 != 1) = true := bne_iff_ne.mpr c15
   (first | rw [c15b0] | (simp only [Zax, Zay]; rw [c15b0]) | skip)
   by_cases c26 : t124 = 2
   ·rw [if_pos c26] at H
    have c26b0 : (t124 == 2) = true := beq_iff_eq.mpr c26
    have c26b1 : (t124 != 2) = false := bne_eq_false_iff_eq.mpr c26
    clear c26
    replace H := Option.bind_eq_some_iff.mp H
    obtain ⟨⟨t134, t135⟩, A270, H⟩ := H
    try dsimp only at H
    have A27 := Zaa.mk A270
    clear A270
    have H' := Zaa.mk H
    clear H
    go_wp2_with (first | ((with_reducible refine Zam (f := 81) rfl ?_); refine Za1 (some 23) rfl rfl Tryz.func81 (by kernel_rfl) rfl #[.pointer (some ⟨g, 0, none⟩)] rfl zam ?_; (with_reducible refine (kauditmake_Src_Text.calls k g s0_0 t125 t134 t135 w0 _ ?side1 ?side2 A27.out).mono ?_); (case side1 => repeat (first | (with_reducible first | exact HI0.out | apply Zaj.alloc | apply Zaj.drewN | apply Zaj.drew | apply Zaj.set_1 | refine Zaj.far ?_ NB0_118.out _ | refine Zaj.far ?_ NB0_126.out _) | exact HI0.out)); (case side2 => repeat (first | (with_reducible first | exact HB.out | apply Zal | apply Zar | apply Zau | refine Zag ?_ (Zaj.ge HI0.out) | refine Zag ?_ GE118.out | refine Zag ?_ GE126.out) | exact HB.out)); rintro e w28 ⟨rfl, hi, hb, hk⟩; refine ⟨_, rfl, ?_⟩; replace BK118 := Zaa.mk (Zap.blk hk (g' := gb118) (o := .cells #[.string (⟨#[]⟩ : ByteArray), .int .i64 0, .int .i64 0, .string (⟨#[]⟩ : ByteArray)] 88 (0, 0)) (by (with_reducible repeat (first | refine Zac ?_ _ | refine Zad ?_ | refine Zab ?_ _)); refine Zaq ?_ NB118_126.out _; (with_reducible repeat (first | refine Zac ?_ _ | refine Zad ?_ | refine Zab ?_ _)); refine Zaq ?_ NB118_126.out _; (with_reducible repeat (first | refine Zac ?_ _ | refine Zad ?_ | refine Zab ?_ _)); refine Zaq ?_ NB118_126.out _; (with_reducible repeat (first | refine Zac ?_ _ | refine Zad ?_ | refine Zab ?_ _)); refine Zaq ?_ NB118_126.out _; (with_reducible repeat (first | refine Zac ?_ _ | refine Zad ?_ | refine Zab ?_ _)); exact BK118.out) NB118_0.out (by simp)); replace HO121 := Zaa.mk (Kd.R_mono (Kd.R_keep (Zaj.apart (show Zaj w0 _ g s0_0 t125 from (zl8 HI0 NB0_118.out NB0_126.out)) (by (with_reducible repeat (first | apply Kd.R_alloc | apply Kd.R_drewN | apply Kd.R_drew)); exact (Kd.R_mono (Kd.R_far (p := ⟨gb126, 3, none⟩) (Kd.R_far (p := ⟨gb126, 2, none⟩) (Kd.R_far (p := ⟨gb126, 1, none⟩) (Kd.R_far (p := ⟨gb126, 0, none⟩) (Kd.R_types HO121.out BK126.out (by decide)) (fun _ hk => hk.2) (.string t122)) (fun _ hk => hk.2) (.int .i64 t124)) (fun _ hk => hk.2) (.int .i64 0)) (fun _ hk => hk.2) (.string (⟨#[]⟩ : ByteArray))) (fun _ h_ => h_.1))) (by decide)) hk (fun _ h => h.2)) (fun _ h => h.1)); replace BK126 := Zaa.mk (Zap.blk hk (g' := gb126) (o := .cells #[.string t122, .int .i64 t124, .int .i64 0, .string (⟨#[]⟩ : ByteArray)] 88 (0, 0)) (by (with_reducible repeat (first | refine Zac ?_ _ | refine Zad ?_ | refine Zab ?_ _)); refine Zas (cs := #[.string t122, .int .i64 t124, .int .i64 0, .string (⟨#[]⟩ : ByteArray)]) ?_ 3 _ rfl; (with_reducible repeat (first | refine Zac ?_ _ | refine Zad ?_ | refine Zab ?_ _)); refine Zas (cs := #[.string t122, .int .i64 t124, .int .i64 0, .string (⟨#[]⟩ : ByteArray)]) ?_ 2 _ rfl; (with_reducible repeat (first | refine Zac ?_ _ | refine Zad ?_ | refine Zab ?_ _)); refine Zas (cs := #[.string t122, .int .i64 0, .int .i64 0, .string (⟨#[]⟩ : ByteArray)]) ?_ 1 _ rfl; (with_reducible repeat (first | refine Zac ?_ _ | refine Zad ?_ | refine Zab ?_ _)); refine Zas (cs := #[.string (⟨#[]⟩ : ByteArray), .int .i64 0, .int .i64 0, .string (⟨#[]⟩ : ByteArray)]) ?_ 0 _ rfl; (with_reducible repeat (first | refine Zac ?_ _ | refine Zad ?_ | refine Zab ?_ _)); exact BK126.out) NB126_0.out (by simp)); replace HK := Zaa.mk (Zap.trans (zl9 HK GW118.out GW126.out) hk (.inl rfl)); replace HB := Zaa.mk (hb); replace HI0 := Zaa.mk (hi); (try clear hb); (try clear hk); (try clear hi); have hnb29 := NB126_118.out; have hnc29 := NB118_126.out; have hnb30 := NB126_0.out; have hnc30 := NB0_126.out; obtain ⟨hcz31_0, hcz31_1, hcz31_2, hcz31_3⟩ := bc4 BK126.out; obtain ⟨hfz31_0, hfz31_1, hfz31_2, hfz31_3⟩ := bf4 BK126.out))
    go_meet
    case rel => exact ⟨_, (t135), (0), (t134), H', ⟨by first | omega | exact Nat.le_refl _⟩, ⟨by (with_reducible repeat (first | refine Zac ?_ _ | refine Zad ?_ | refine Zab ?_ _)); refine Zaq ?_ NB118_126.out _; (with_reducible repeat (first | refine Zac ?_ _ | refine Zad ?_ | refine Zab ?_ _)); exact BK118.out⟩, ⟨by (with_reducible repeat (first | refine Zac ?_ _ | refine Zad ?_ | refine Zab ?_ _)); refine Zas (cs := #[.string t122, .int .i64 t124, .int .i64 0, .string (⟨#[]⟩ : ByteArray)]) ?_ 3 _ rfl; (with_reducible repeat (first | refine Zac ?_ _ | refine Zad ?_ | refine Zab ?_ _)); exact BK126.out⟩, ⟨(zl8 HI0 NB0_118.out NB0_126.out)⟩, ⟨(zl9 HK GW118.out GW126.out)⟩, ⟨(zb10 HB (Zaj.ge HI0.out) GE118.out GE126.out)⟩⟩
   ·rw [if_neg c26] at H
    have c26b0 : (t124 == 2) = false := beq_eq_false_iff_ne.mpr c26
    have c26b1 : (t124 != 2) = true := bne_iff_ne.mpr c26
    have H' := Zaa.mk H
    clear H
    go_wp2
    go_meet
    case rel => exact ⟨_, (t125), (0), ((⟨#[]⟩ : ByteArray)), H', ⟨by first | omega | exact Nat.le_refl _⟩, ⟨by (with_reducible repeat (first | refine Zac ?_ _ | refine Zad ?_ | refine Zab ?_ _)); refine Zaq ?_ NB118_126.out _; (with_reducible repeat (first | refine Zac ?_ _ | refine Zad ?_ | refine Zab ?_ _)); refine Zaq ?_ NB118_126.out _; (with_reducible repeat (first | refine Zac ?_ _ | refine Zad ?_ | refine Zab ?_ _)); refine Zaq ?_ NB118_126.out _; (with_reducible repeat (first | refine Zac ?_ _ | refine Zad ?_ | refine Zab ?_ _)); refine Zaq ?_ NB118_126.out _; (with_reducible repeat (first | refine Zac ?_ _ | refine Zad ?_ | refine Zab ?_ _)); exact BK118.out⟩, ⟨by (with_reducible repeat (first | refine Zac ?_ _ | refine Zad ?_ | refine Zab ?_ _)); refine Zas (cs := #[.string t122, .int .i64 t124, .int .i64 0, .string (⟨#[]⟩ : ByteArray)]) ?_ 3 _ rfl; (with_reducible repeat (first | refine Zac ?_ _ | refine Zad ?_ | refine Zab ?_ _)); refine Zas (cs := #[.string t122, .int .i64 t124, .int .i64 0, .string (⟨#[]⟩ : ByteArray)]) ?_ 2 _ rfl; (with_reducible repeat (first | refine Zac ?_ _ | refine Zad ?_ | refine Zab ?_ _)); refine Zas (cs := #[.string t122, .int .i64 0, .int .i64 0, .string (⟨#[]⟩ : ByteArray)]) ?_ 1 _ rfl; (with_reducible repeat (first | refine Zac ?_ _ | refine Zad ?_ | refine Zab ?_ _)); refine Zas (cs := #[.string (⟨#[]⟩ : ByteArray), .int .i64 0, .int .i64 0, .string (⟨#[]⟩ : ByteArray)]) ?_ 0 _ rfl; (with_reducible repeat (first | refine Zac ?_ _ | refine Zad ?_ | refine Zab ?_ _)); exact BK126.out⟩, ⟨(zl8 HI0 NB0_118.out NB0_126.out)⟩, ⟨(zl9 HK GW118.out GW126.out)⟩, ⟨(zb10 HB (Zaj.ge HI0.out) GE118.out GE126.out)⟩⟩
 case rest =>
  clear HC4
  (try clear hcz14_0)
  (try clear hcz14_1)
  (try clear hcz14_2)
  (try clear hcz14_3)
  (try clear hfz14_0)
  (try clear hfz14_1)
  (try clear hfz14_2)
  (try clear hfz14_3)
  obtain ⟨kq, x1001_3, x127002_3, x127003_3, HA, HJ3, BK118, BK126, HI0, HK, HB⟩ := hcut
  cases kq with
  | zero => exact absurd HA.out (by simp [kauditmake_Src_Pair.j0])
  | succ kj3 =>
   have H := HA.out
   clear HA
   simp only [kauditmake_Src_Pair.j0] at H
   replace H := Option.bind_eq_some_iff.mp H
   obtain ⟨⟨t136, t137⟩, A320, H⟩ := H
   try dsimp only at H
   have A32 := Zaa.mk A320
   clear A320
   by_cases c33 : t136 = 23
   ·rw [if_pos c33] at H
    have c33b0 : (t136 == 23) = true := beq_iff_eq.mpr c33
    have c33b1 : (t136 != 23) = false := bne_eq_false_iff_eq.mpr c33
    clear c33
    obtain ⟨y138, hy138⟩ : ∃ y_ : List ByteArray, y_ = (([(⟨#[]⟩ : ByteArray), (⟨#[65]⟩ : ByteArray), (⟨#[49, 97]⟩ : ByteArray), (⟨#[97, 45, 98]⟩ : ByteArray), (⟨#[97, 98, 99, 100, 101, 102, 103, 104, 105, 106, 107, 108, 109, 110, 111, 112]⟩ : ByteArray), (⟨#[97, 98, 99, 100, 101, 102, 103, 104, 105, 106, 107, 108, 109, 110, 111, 112, 113]⟩ : ByteArray)] : List ByteArray)) := ⟨_, rfl⟩
    replace H : ((kauditmake_Src_Word.f s0_0 t137 y138).bind fun bt141 => ((kauditmake_Src_N.f s0_0 bt141.2 2).bind fun bt143 => (some (bt141.1, t124, bt143.1, x127003_3, bt143.2)))) = some (r1, r2, r3, r4, r5) := by first | (rw [hy138]; with_reducible exact H) | (have H2_ := (Option.bind_some _ _).symm.trans H; rw [hy138]; with_reducible exact H2_) | (have H2_ := (Option.bind_some _ _).symm.trans H; with_reducible exact H2_) | with_reducible exact H | (rw [hy138]; exact H) | exact H
    have Ny138 := Zaa.mk hy138
    clear hy138
    replace H := Option.bind_eq_some_iff.mp H
    obtain ⟨⟨t141, t142⟩, A340, H⟩ := H
    try dsimp only at H
    have A34 := Zaa.mk A340
    clear A340
    replace H := Option.bind_eq_some_iff.mp H
    obtain ⟨⟨t143, t144⟩, A350, H⟩ := H
    try dsimp only at H
    have A35 := Zaa.mk A350
    clear A350
    simp only [Option.some.injEq, Prod.mk.injEq] at H
    obtain ⟨rfl, rfl, rfl, rfl, rfl⟩ := H
    go_wp2_with (first | ((with_reducible refine Zam (f := 19) rfl ?_); refine Za1 (some 26) rfl rfl Tryz.func19 (by kernel_rfl) rfl #[.pointer (some ⟨g, 0, none⟩), .int .i64 24] rfl zam ?_; (with_reducible refine (kauditmake_Src_N.calls g s0_0 x1001_3 24 t136 t137 w0 _ ?side1 ?side2 A32.out).mono ?_); (case side1 => repeat (first | (with_reducible first | exact HI0.out | apply Zaj.alloc | apply Zaj.drewN | apply Zaj.drew | apply Zaj.set_1 | refine Zaj.far ?_ NB0_118.out _ | refine Zaj.far ?_ NB0_126.out _) | exact HI0.out)); (case side2 => repeat (first | (with_reducible first | exact HB.out | apply Zal | apply Zar | apply Zau | refine Zag ?_ (Zaj.ge HI0.out) | refine Zag ?_ GE118.out | refine Zag ?_ GE126.out) | exact HB.out)); rintro e w36 ⟨rfl, hi, hb, hk⟩; refine ⟨_, rfl, ?_⟩; replace BK118 := Zaa.mk (Zap.blk hk (g' := gb118) (o := .cells #[.string (⟨#[]⟩ : ByteArray), .int .i64 0, .int .i64 0, .string (⟨#[]⟩ : ByteArray)] 88 (0, 0)) (zbk BK118) NB118_0.out (by simp)); replace BK126 := Zaa.mk (Zap.blk hk (g' := gb126) (o := .cells #[.string t122, .int .i64 t124, .int .i64 x127002_3, .string x127003_3] 88 (0, 0)) (zbk BK126) NB126_0.out (by simp)); replace HK := Zaa.mk (Zap.trans (zl9 HK GW118.out GW126.out) hk (.inl rfl)); replace HB := Zaa.mk (hb); replace HI0 := Zaa.mk (hi); (try clear hb); (try clear hk); (try clear hi)) | ((with_reducible refine Zav (N := 29) rfl ?_); refine Kd.R_lit Kd.string _ 9 ?hg (N := 29) ?hd (xs := ([(⟨#[]⟩ : ByteArray), (⟨#[65]⟩ : ByteArray), (⟨#[49, 97]⟩ : ByteArray), (⟨#[97, 45, 98]⟩ : ByteArray), (⟨#[97, 98, 99, 100, 101, 102, 103, 104, 105, 106, 107, 108, 109, 110, 111, 112]⟩ : ByteArray), (⟨#[97, 98, 99, 100, 101, 102, 103, 104, 105, 106, 107, 108, 109, 110, 111, 112, 113]⟩ : ByteArray)] : List ByteArray)) (inner := [.string (⟨#[]⟩ : ByteArray), .string (⟨#[65]⟩ : ByteArray), .string (⟨#[49, 97]⟩ : ByteArray), .string (⟨#[97, 45, 98]⟩ : ByteArray), .string (⟨#[97, 98, 99, 100, 101, 102, 103, 104, 105, 106, 107, 108, 109, 110, 111, 112]⟩ : ByteArray), .string (⟨#[97, 98, 99, 100, 101, 102, 103, 104, 105, 106, 107, 108, 109, 110, 111, 112, 113]⟩ : ByteArray)]) (ok := fun _ => True) (okp := fun _ => True) ?hr ?hp (fun _ hk => hk) trivial (Below.refl _ _) (Nat.le_refl _) (by simp) ?_; (case hd => rfl); (case hg => rfl); (case hr => first | (go_simp; done) | (go_simp; rfl)); (case hp => exact (Reps.one (show Kd.M Kd.string _ _ _ (⟨#[]⟩ : ByteArray) [.string (⟨#[]⟩ : ByteArray)] from rfl) (Reps.one (show Kd.M Kd.string _ _ _ (⟨#[65]⟩ : ByteArray) [.string (⟨#[65]⟩ : ByteArray)] from rfl) (Reps.one (show Kd.M Kd.string _ _ _ (⟨#[49, 97]⟩ : ByteArray) [.string (⟨#[49, 97]⟩ : ByteArray)] from rfl) (Reps.one (show Kd.M Kd.string _ _ _ (⟨#[97, 45, 98]⟩ : ByteArray) [.string (⟨#[97, 45, 98]⟩ : ByteArray)] from rfl) (Reps.one (show Kd.M Kd.string _ _ _ (⟨#[97, 98, 99, 100, 101, 102, 103, 104, 105, 106, 107, 108, 109, 110, 111, 112]⟩ : ByteArray) [.string (⟨#[97, 98, 99, 100, 101, 102, 103, 104, 105, 106, 107, 108, 109, 110, 111, 112]⟩ : ByteArray)] from rfl) (Reps.one (show Kd.M Kd.string _ _ _ (⟨#[97, 98, 99, 100, 101, 102, 103, 104, 105, 106, 107, 108, 109, 110, 111, 112, 113]⟩ : ByteArray) [.string (⟨#[97, 98, 99, 100, 101, 102, 103, 104, 105, 106, 107, 108, 109, 110, 111, 112, 113]⟩ : ByteArray)] from rfl) (Reps.none _ _)))))))); intro v139 w37 ho38 hb hg_ hnew_; clear hg_ hnew_; (first | rw [← Ny138.out] at ho38 | (simp only [Int.reduceToNat] at ho38; rw [← Ny138.out] at ho38)); have HO140 := Zaa.mk (Kd.R_lower ho38 (Zbi (w := w) (g := g) (row := none) (zl9 HK GW118.out GW126.out))); replace BK118 := Zaa.mk (Zah (g := gb118) (o := .cells #[.string (⟨#[]⟩ : ByteArray), .int .i64 0, .int .i64 0, .string (⟨#[]⟩ : ByteArray)] 88 (0, 0)) (zbk BK118) hb); replace BK126 := Zaa.mk (Zah (g := gb126) (o := .cells #[.string t122, .int .i64 t124, .int .i64 x127002_3, .string x127003_3] 88 (0, 0)) (zbk BK126) hb); replace HK := Zaa.mk (Zap.trans (zl9 HK GW118.out GW126.out) (Zap.of_below hb g none) (.inl rfl)); replace HB := Zaa.mk (Zae (zb10 HB (Zaj.ge HI0.out) GE118.out GE126.out) hb); replace HI0 := Zaa.mk (Zaj.below (zl8 HI0 NB0_118.out NB0_126.out) hb); clear hb ho38; obtain ⟨Ao39, co39, eo39⟩ := Kd.R_slice HO140.out; subst eo39) | ((with_reducible refine Zam (f := 80) rfl ?_); refine Za1 (some 30) rfl rfl Tryz.func80 (by kernel_rfl) rfl #[.pointer (some ⟨g, 0, none⟩), .slice Ao39 y138.length co39] rfl zam ?_; (with_reducible refine (kauditmake_Src_Word.calls g s0_0 t137 _ _ y138 t141 t142 w0 _ ?side1 ?side2 ?side3 ?side4 ?side5 A34.out).mono ?_); (case side1 => repeat (first | (with_reducible first | exact HI0.out | apply Zaj.alloc | apply Zaj.drewN | apply Zaj.drew | apply Zaj.set_1 | refine Zaj.far ?_ NB0_118.out _ | refine Zaj.far ?_ NB0_126.out _) | exact HI0.out)); (case side2 => repeat (first | (with_reducible first | exact HB.out | apply Zal | apply Zar | apply Zau | refine Zag ?_ (Zaj.ge HI0.out) | refine Zag ?_ GE118.out | refine Zag ?_ GE126.out) | exact HB.out)); (case side3 => repeat (first | exact (Kd.R_reads' HO140.out).2.2 | (with_reducible refine Kd.C_alloc ?_ _) | (with_reducible refine Kd.C_drewN ?_ _) | (with_reducible refine Kd.C_drew ?_))); (case side4 => exact (Kd.R_reads' HO140.out).2.1); (case side5 => exact far_slice (Zaj.own_ne HI0.out HO140.out (by decide))); rintro e w40 ⟨rfl, hi, hb, hk⟩; refine ⟨_, rfl, ?_⟩; replace BK118 := Zaa.mk (Zap.blk hk (g' := gb118) (o := .cells #[.string (⟨#[]⟩ : ByteArray), .int .i64 0, .int .i64 0, .string (⟨#[]⟩ : ByteArray)] 88 (0, 0)) (zbk BK118) NB118_0.out (by simp)); replace BK126 := Zaa.mk (Zap.blk hk (g' := gb126) (o := .cells #[.string t122, .int .i64 t124, .int .i64 x127002_3, .string x127003_3] 88 (0, 0)) (zbk BK126) NB126_0.out (by simp)); replace HO140 := Zaa.mk (Kd.R_mono (Kd.R_keep (Zaj.apart (show Zaj w0 _ g s0_0 t137 from (zl8 HI0 NB0_118.out NB0_126.out)) (zrk HO140) (by decide)) hk (fun _ h => h.2)) (fun _ h => h.1)); replace HK := Zaa.mk (Zap.trans (zl9 HK GW118.out GW126.out) hk (.inl rfl)); replace HB := Zaa.mk (hb); replace HI0 := Zaa.mk (hi); (try clear hb); (try clear hk); (try clear hi)) | ((with_reducible refine Zam (f := 19) rfl ?_); refine Za1 (some 32) rfl rfl Tryz.func19 (by kernel_rfl) rfl #[.pointer (some ⟨g, 0, none⟩), .int .i64 2] rfl zam ?_; (with_reducible refine (kauditmake_Src_N.calls g s0_0 t142 2 t143 t144 w0 _ ?side1 ?side2 A35.out).mono ?_); (case side1 => repeat (first | (with_reducible first | exact HI0.out | apply Zaj.alloc | apply Zaj.drewN | apply Zaj.drew | apply Zaj.set_1 | refine Zaj.far ?_ NB0_118.out _ | refine Zaj.far ?_ NB0_126.out _) | exact HI0.out)); (case side2 => repeat (first | (with_reducible first | exact HB.out | apply Zal | apply Zar | apply Zau | refine Zag ?_ (Zaj.ge HI0.out) | refine Zag ?_ GE118.out | refine Zag ?_ GE126.out) | exact HB.out)); rintro e w41 ⟨rfl, hi, hb, hk⟩; refine ⟨_, rfl, ?_⟩; replace BK118 := Zaa.mk (Zap.blk hk (g' := gb118) (o := .cells #[.string (⟨#[]⟩ : ByteArray), .int .i64 0, .int .i64 0, .string (⟨#[]⟩ : ByteArray)] 88 (0, 0)) (zbk BK118) NB118_0.out (by simp)); replace BK126 := Zaa.mk (Zap.blk hk (g' := gb126) (o := .cells #[.string t122, .int .i64 t124, .int .i64 x127002_3, .string x127003_3] 88 (0, 0)) (zbk BK126) NB126_0.out (by simp)); replace HO140 := Zaa.mk (Kd.R_mono (Kd.R_keep (Zaj.apart (show Zaj w0 _ g s0_0 t142 from (zl8 HI0 NB0_118.out NB0_126.out)) (zrk HO140) (by decide)) hk (fun _ h => h.2)) (fun _ h => h.1)); replace HK := Zaa.mk (Zap.trans (zl9 HK GW118.out GW126.out) hk (.inl rfl)); replace HB := Zaa.mk (hb); replace HI0 := Zaa.mk (hi); (try clear hb); (try clear hk); (try clear hi); have hnb42 := NB126_118.out; have hnc42 := NB118_126.out; have hnb43 := NB126_0.out; have hnc43 := NB0_126.out; obtain ⟨hcz44_0, hcz44_1, hcz44_2, hcz44_3⟩ := bc4 BK126.out; obtain ⟨hfz44_0, hfz44_1, hfz44_2, hfz44_3⟩ := bf4 BK126.out; have hnb45 := NB118_0.out; have hnc45 := NB0_118.out; obtain ⟨hcz46_0, hcz46_1, hcz46_2, hcz46_3⟩ := bc4 BK118.out; obtain ⟨hfz46_0, hfz46_1, hfz46_2, hfz46_3⟩ := bf4 BK118.out))
    refine bodyPost_ret (results_cell_row rfl _ _ gb118 88 #[.string t141, .int .i64 t124, .int .i64 t143, .string x127003_3] (0, 0) _ rfl (by (with_reducible repeat (first | refine Zac ?_ _ | refine Zad ?_ | refine Zab ?_ _)); refine Zas (cs := #[.string t141, .int .i64 t124, .int .i64 t143, .string (⟨#[]⟩ : ByteArray)]) ?_ 3 _ rfl; (with_reducible repeat (first | refine Zac ?_ _ | refine Zad ?_ | refine Zab ?_ _)); refine Zas (cs := #[.string t141, .int .i64 t124, .int .i64 0, .string (⟨#[]⟩ : ByteArray)]) ?_ 2 _ rfl; (with_reducible repeat (first | refine Zac ?_ _ | refine Zad ?_ | refine Zab ?_ _)); refine Zas (cs := #[.string t141, .int .i64 0, .int .i64 0, .string (⟨#[]⟩ : ByteArray)]) ?_ 1 _ rfl; (with_reducible repeat (first | refine Zac ?_ _ | refine Zad ?_ | refine Zab ?_ _)); refine Zas (cs := #[.string (⟨#[]⟩ : ByteArray), .int .i64 0, .int .i64 0, .string (⟨#[]⟩ : ByteArray)]) ?_ 0 _ rfl; (with_reducible repeat (first | refine Zac ?_ _ | refine Zad ?_ | refine Zab ?_ _)); refine Zaq ?_ NB118_126.out _; (with_reducible repeat (first | refine Zac ?_ _ | refine Zad ?_ | refine Zab ?_ _)); refine Zaq ?_ NB118_126.out _; (with_reducible repeat (first | refine Zac ?_ _ | refine Zad ?_ | refine Zab ?_ _)); exact BK118.out) Tryz.underlying88 rfl (by kernel_rfl)) rfl ?_
    exact ⟨by first | rfl | (simp [errW_none, errW_some] <;> rfl) | (simp [*, errW_none, errW_some] <;> rfl), (zl8 HI0 NB0_118.out NB0_126.out), (zb10 HB (Zaj.ge HI0.out) GE118.out GE126.out), (zl9 HK GW118.out GW126.out)⟩
   ·rw [if_neg c33] at H
    have c33b0 : (t136 == 23) = false := beq_eq_false_iff_ne.mpr c33
    have c33b1 : (t136 != 23) = true := bne_iff_ne.mpr c33
    simp only [Option.some.injEq, Prod.mk.injEq] at H
    obtain ⟨rfl, rfl, rfl, rfl, rfl⟩ := H
    go_wp2_with (first | ((with_reducible refine Zam (f := 19) rfl ?_); refine Za1 (some 26) rfl rfl Tryz.func19 (by kernel_rfl) rfl #[.pointer (some ⟨g, 0, none⟩), .int .i64 24] rfl zam ?_; (with_reducible refine (kauditmake_Src_N.calls g s0_0 x1001_3 24 t136 t137 w0 _ ?side1 ?side2 A32.out).mono ?_); (case side1 => repeat (first | (with_reducible first | exact HI0.out | apply Zaj.alloc | apply Zaj.drewN | apply Zaj.drew | apply Zaj.set_1 | refine Zaj.far ?_ NB0_118.out _ | refine Zaj.far ?_ NB0_126.out _) | exact HI0.out)); (case side2 => repeat (first | (with_reducible first | exact HB.out | apply Zal | apply Zar | apply Zau | refine Zag ?_ (Zaj.ge HI0.out) | refine Zag ?_ GE118.out | refine Zag ?_ GE126.out) | exact HB.out)); rintro e w47 ⟨rfl, hi, hb, hk⟩; refine ⟨_, rfl, ?_⟩; replace BK118 := Zaa.mk (Zap.blk hk (g' := gb118) (o := .cells #[.string (⟨#[]⟩ : ByteArray), .int .i64 0, .int .i64 0, .string (⟨#[]⟩ : ByteArray)] 88 (0, 0)) (zbk BK118) NB118_0.out (by simp)); replace BK126 := Zaa.mk (Zap.blk hk (g' := gb126) (o := .cells #[.string t122, .int .i64 t124, .int .i64 x127002_3, .string x127003_3] 88 (0, 0)) (zbk BK126) NB126_0.out (by simp)); replace HK := Zaa.mk (Zap.trans (zl9 HK GW118.out GW126.out) hk (.inl rfl)); replace HB := Zaa.mk (hb); replace HI0 := Zaa.mk (hi); (try clear hb); (try clear hk); (try clear hi); have hnb48 := NB126_118.out; have hnc48 := NB118_126.out; have hnb49 := NB126_0.out; have hnc49 := NB0_126.out; obtain ⟨hcz50_0, hcz50_1, hcz50_2, hcz50_3⟩ := bc4 BK126.out; obtain ⟨hfz50_0, hfz50_1, hfz50_2, hfz50_3⟩ := bf4 BK126.out; have hnb51 := NB118_0.out; have hnc51 := NB0_118.out; obtain ⟨hcz52_0, hcz52_1, hcz52_2, hcz52_3⟩ := bc4 BK118.out; obtain ⟨hfz52_0, hfz52_1, hfz52_2, hfz52_3⟩ := bf4 BK118.out))
    refine bodyPost_ret (results_cell_row rfl _ _ gb118 88 #[.string t122, .int .i64 t124, .int .i64 x127002_3, .string x127003_3] (0, 0) _ rfl (by (with_reducible repeat (first | refine Zac ?_ _ | refine Zad ?_ | refine Zab ?_ _)); refine Zas (cs := #[.string t122, .int .i64 t124, .int .i64 x127002_3, .string (⟨#[]⟩ : ByteArray)]) ?_ 3 _ rfl; (with_reducible repeat (first | refine Zac ?_ _ | refine Zad ?_ | refine Zab ?_ _)); refine Zas (cs := #[.string t122, .int .i64 t124, .int .i64 0, .string (⟨#[]⟩ : ByteArray)]) ?_ 2 _ rfl; (with_reducible repeat (first | refine Zac ?_ _ | refine Zad ?_ | refine Zab ?_ _)); refine Zas (cs := #[.string t122, .int .i64 0, .int .i64 0, .string (⟨#[]⟩ : ByteArray)]) ?_ 1 _ rfl; (with_reducible repeat (first | refine Zac ?_ _ | refine Zad ?_ | refine Zab ?_ _)); refine Zas (cs := #[.string (⟨#[]⟩ : ByteArray), .int .i64 0, .int .i64 0, .string (⟨#[]⟩ : ByteArray)]) ?_ 0 _ rfl; (with_reducible repeat (first | refine Zac ?_ _ | refine Zad ?_ | refine Zab ?_ _)); exact BK118.out) Tryz.underlying88 rfl (by kernel_rfl)) rfl ?_
    exact ⟨by first | rfl | (simp [errW_none, errW_some] <;> rfl) | (simp [*, errW_none, errW_some] <;> rfl), (zl8 HI0 NB0_118.out NB0_126.out), (zb10 HB (Zaj.ge HI0.out) GE118.out GE126.out), (zl9 HK GW118.out GW126.out)⟩
end Go.Proofs.YtodbabeldolcbaaGreatDoor.PA
