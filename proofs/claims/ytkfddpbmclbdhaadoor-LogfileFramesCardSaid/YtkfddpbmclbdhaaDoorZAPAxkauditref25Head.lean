/- Contracts of functions of the program: written by pr2.py (ours, round the print of the kit) out of the translation; conditions: each contract names its own. -/
import Derived.Test.YtkfddpbmclbdhaaDoorZAETurn
import Derived.Test.YtkfddpbmclbdhaaDoorZAPAxkauditref23Put
section
namespace Go.Proofs.YtkfddpbmclbdhaaDoor.PA
open Go.RowKit Go.Proofs.YtkfddpbmclbdhaaDoorW.PrintWords Go.Proofs.YtkfddpbmclbdhaaDoorW.PrintLast Go.Proofs.YtkfddpbmclbdhaaDoorW.PrintMore
attribute [local go_sem] Zaz Zax Za5 Za4 Zas Zar Zay Zaw   -- for this text's walks alone
set_option linter.unusedVariables false
set_option linter.unusedSimpArgs false
def kauditref23_words_rounds.l0 : Nat → Int → Int → Int → Int → Int → Option (Int × Int × Int × Int)
 | 0, _, _, _, _, _ => none
 | k + 1, x1, x981000, x981001, x981002, x981003 => if x1 > 0 then ((kauditref23_turn.f x981001 13).bind fun t982 => ((kauditref23_turn.f (IntKind.u64.wrap (x981000 + x981001)) 32).bind fun t983 => ((kauditref23_turn.f x981003 16).bind fun t984 => ((kauditref23_turn.f (Go.bits .xor .u64 t984 (IntKind.u64.wrap (x981002 + x981003))) 21).bind fun t985 => ((kauditref23_turn.f (Go.bits .xor .u64 t982 (IntKind.u64.wrap (x981000 + x981001))) 17).bind fun t986 => ((kauditref23_turn.f (IntKind.u64.wrap ((IntKind.u64.wrap (x981002 + x981003)) + (Go.bits .xor .u64 t982 (IntKind.u64.wrap (x981000 + x981001))))) 32).bind fun t987 => (kauditref23_words_rounds.l0 k (wrap64 (x1 - 1)) (IntKind.u64.wrap (t983 + (Go.bits .xor .u64 t984 (IntKind.u64.wrap (x981002 + x981003))))) (Go.bits .xor .u64 t986 (IntKind.u64.wrap ((IntKind.u64.wrap (x981002 + x981003)) + (Go.bits .xor .u64 t982 (IntKind.u64.wrap (x981000 + x981001)))))) t987 (Go.bits .xor .u64 t985 (IntKind.u64.wrap (t983 + (Go.bits .xor .u64 t984 (IntKind.u64.wrap (x981002 + x981003))))))))))))) else (some (x981000, x981001, x981002, x981003))
def kauditref23_words_rounds.f (k : Nat) (a0_0 : Int) (a0_1 : Int) (a0_2 : Int) (a0_3 : Int) (a1 : Int) : Option (Int × Int × Int × Int) := kauditref23_words_rounds.l0 k a1 a0_0 a0_1 a0_2 a0_3
theorem kauditref23_words_rounds.mono_l : ∀ k, (∀ y0 y1 y2 y3 y4, LeO (kauditref23_words_rounds.l0 k y0 y1 y2 y3 y4) (kauditref23_words_rounds.l0 (k + 1) y0 y1 y2 y3 y4))
 | 0 => fun _ _ _ _ _ r h => by simp [kauditref23_words_rounds.l0] at h
 | k + 1 => by
  have ih0 := kauditref23_words_rounds.mono_l k
  ·intro y0 y1 y2 y3 y4
   unfold kauditref23_words_rounds.l0
   repeat' first
   | (with_reducible exact ih0 _ _ _ _ _)
   | (with_reducible exact LeO.refl _)
   | (with_reducible exact LeO.none _)
   | (with_reducible refine LeO.ite ?_ ?_)
   | (with_reducible refine LeO.bind ?_ (fun _ => ?_))
   | exact ih0 _ _ _ _ _
   | exact LeO.none _
   | refine LeO.ite ?_ ?_
   | refine LeO.bind ?_ (fun _ => ?_)
theorem kauditref23_words_rounds.mono : ∀ a0 a1 a2 a3 a4 k, LeO (kauditref23_words_rounds.f k a0 a1 a2 a3 a4) (kauditref23_words_rounds.f (k + 1) a0 a1 a2 a3 a4) := by
 intro a0 a1 a2 a3 a4 k
 have ih0 := kauditref23_words_rounds.mono_l k
 unfold kauditref23_words_rounds.f
 repeat' first
   | (with_reducible exact ih0 _ _ _ _ _)
   | (with_reducible exact LeO.refl _)
   | (with_reducible exact LeO.none _)
   | (with_reducible refine LeO.ite ?_ ?_)
   | (with_reducible refine LeO.bind ?_ (fun _ => ?_))
   | exact ih0 _ _ _ _ _
   | exact LeO.none _
   | refine LeO.ite ?_ ?_
   | refine LeO.bind ?_ (fun _ => ?_)
def kauditref23_words_rounds.T4 : Bool × List (List Nat × List Nat) := (true, [([], []), ([0], [0]), ([1], [1]), ([], []), ([3], [3]), ([2, 4], [2, 4]), ([0, 1, 2, 3, 4, 5], []), ([6, 5, 2, 0, 1, 2, 3, 4, 5], [5, 6])])
def kauditref23_words_rounds.B4 : List Nat := [0, 1, 3, 0, 8, 31, 63, 127]
theorem kauditref23_words_rounds.tab4 : rtab .any (opsOf Tryd.f152 4) = kauditref23_words_rounds.T4 := by kernel_rfl
theorem kauditref23_words_rounds.bits4 : waitsOk kauditref23_words_rounds.T4.2 kauditref23_words_rounds.B4 = true := by kernel_rfl
def kauditref23_words_rounds.T7 : Bool × List (List Nat × List Nat) := (true, [([], []), ([0], [0]), ([1], [1]), ([], []), ([3], [3]), ([2, 4], [2, 4]), ([0, 1, 2, 3, 4, 5], []), ([6, 5, 2, 0, 1, 2, 3, 4, 5], [5, 6])])
def kauditref23_words_rounds.B7 : List Nat := [0, 1, 3, 0, 8, 31, 63, 127]
theorem kauditref23_words_rounds.tab7 : rtab .any (opsOf Tryd.f152 7) = kauditref23_words_rounds.T7 := by kernel_rfl
theorem kauditref23_words_rounds.bits7 : waitsOk kauditref23_words_rounds.T7.2 kauditref23_words_rounds.B7 = true := by kernel_rfl
def kauditref23_words_rounds.T9 : Bool × List (List Nat × List Nat) := (true, [([], []), ([0], [0]), ([1], [1]), ([], []), ([3], [3]), ([2, 4], [2, 4]), ([0, 1, 2, 3, 4, 5], []), ([6, 5, 2, 0, 1, 2, 3, 4, 5], [5, 6])])
def kauditref23_words_rounds.B9 : List Nat := [0, 1, 3, 0, 8, 31, 63, 127]
theorem kauditref23_words_rounds.tab9 : rtab .any (opsOf Tryd.f152 9) = kauditref23_words_rounds.T9 := by kernel_rfl
theorem kauditref23_words_rounds.bits9 : waitsOk kauditref23_words_rounds.T9.2 kauditref23_words_rounds.B9 = true := by kernel_rfl
def kauditref23_words_rounds.T11 : Bool × List (List Nat × List Nat) := (true, [([], []), ([0], [0]), ([1], [1]), ([], []), ([3], [3]), ([2, 4], [2, 4]), ([0, 1, 2, 3, 4, 5], []), ([6, 5, 2, 0, 1, 2, 3, 4, 5], [5, 6])])
def kauditref23_words_rounds.B11 : List Nat := [0, 1, 3, 0, 8, 31, 63, 127]
theorem kauditref23_words_rounds.tab11 : rtab .any (opsOf Tryd.f152 11) = kauditref23_words_rounds.T11 := by kernel_rfl
theorem kauditref23_words_rounds.bits11 : waitsOk kauditref23_words_rounds.T11.2 kauditref23_words_rounds.B11 = true := by kernel_rfl
set_option maxHeartbeats 8000000 in
set_option maxRecDepth 100000 in
theorem kauditref23_words_rounds.calls (k : Nat) (a0_0 : Int) (a0_1 : Int) (a0_2 : Int) (a0_3 : Int) (a1 : Int) (r1 : Int) (r2 : Int) (r3 : Int) (r4 : Int) (w : World) (h : kauditref23_words_rounds.f k a0_0 a0_1 a0_2 a0_3 a1 = some (r1, r2, r3, r4)) :
  Calls Tryd.prog 152 #[.agg #[.int .u64 a0_0, .int .u64 a0_1, .int .u64 a0_2, .int .u64 a0_3], .int .i64 a1] w fun e w' => e = .returned (.agg #[.int .u64 r1, .int .u64 r2, .int .u64 r3, .int .u64 r4]) ∧ Below w.heap.size w w' := by
 have hu178 := Tryd.underlying178
 have HB := Zaa.mk (Below.refl w.heap.size w)
 unfold kauditref23_words_rounds.f at h
 have H := h
 clear h
 have H' := Zaa.mk H
 clear H
 go_enter Tryd.func152, Tryd.ntmps152
 go_wp2_with (first | ((with_reducible refine Zao (N := 2) rfl ?_); refine Zap ?hg (N := 2) ?hd (cs := #[.int .u64 a0_0, .int .u64 a0_1, .int .u64 a0_2, .int .u64 a0_3]) (t := 178) ?hr ?_; (case hd => rfl); (case hg => rfl); (case hr => first | (go_simp; done) | (go_simp; rfl)); intro gb980 hg w3 hbox hb; have BK980 := Zaa.mk (hbox); have GW980 := Zaa.mk ((by rw [hg]; exact (Zae (zb1 HB)) : w.heap.size ≤ gb980)); have GE980 := Zaa.mk ((by rw [hg]; exact (Zae (zb1 HB)) : w.heap.size ≤ gb980)); replace HB := Zaa.mk (Zaf (zb1 HB) hb); clear hb hbox hg) | ((with_reducible refine Zao (N := 4) rfl ?_); refine Zap ?hg (N := 4) ?hd (cs := #[.int .u64 0, .int .u64 0, .int .u64 0, .int .u64 0]) (t := 178) ?hr ?_; (case hd => rfl); (case hg => rfl); (case hr => first | (go_simp; done) | (go_simp; rfl)); intro gb981 hg w4 hbox hb; have BK981 := Zaa.mk (hbox); have GW981 := Zaa.mk ((by rw [hg]; exact (Zae (zb2 HB GE980.out)) : w.heap.size ≤ gb981)); have GE981 := Zaa.mk ((by rw [hg]; exact (Zae (zb2 HB GE980.out)) : w.heap.size ≤ gb981)); replace HB := Zaa.mk (Zaf (zb2 HB GE980.out) hb); have NB980_981 := Zaa.mk ((by rw [hg]; exact Nat.ne_of_lt (Za1 (g := gb980) (o := .cells #[.int .u64 a0_0, .int .u64 a0_1, .int .u64 a0_2, .int .u64 a0_3] 178 (0, 0)) (zbk BK980)) : gb980 ≠ gb981)); have NB981_980 := Zaa.mk ((by rw [hg]; exact Nat.ne_of_gt (Za1 (g := gb980) (o := .cells #[.int .u64 a0_0, .int .u64 a0_1, .int .u64 a0_2, .int .u64 a0_3] 178 (0, 0)) (zbk BK980)) : gb981 ≠ gb980)); replace BK980 := Zaa.mk (Zah (g := gb980) (o := .cells #[.int .u64 a0_0, .int .u64 a0_1, .int .u64 a0_2, .int .u64 a0_3] 178 (0, 0)) (zbk BK980) hb); clear hb hbox hg))
 (try simp only [Act.put, List.setIfInBounds_toArray, List.set_cons_zero, List.set_cons_succ])
 go_loopg [1] k (fun kq v1 w' => ∃ (x1_1 : Int) (x981000_1 : Int) (x981001_1 : Int) (x981002_1 : Int) (x981003_1 : Int), v1 = .int .i64 x1_1 ∧ Zaa (kauditref23_words_rounds.l0 kq x1_1 x981000_1 x981001_1 x981002_1 x981003_1 = some (r1, r2, r3, r4)) ∧ Zaa (kq ≤ k) ∧ Zaa (w'.heap[gb980]? = some (.cells #[.int .u64 x981000_1, .int .u64 x981001_1, .int .u64 x981002_1, .int .u64 x981003_1] 178 (0, 0))) ∧ Zaa (w'.heap[gb981]? = some (.cells #[.int .u64 0, .int .u64 0, .int .u64 0, .int .u64 0] 178 (0, 0))) ∧ Zaa (Below w.heap.size w w'))
 case atStart => exact ⟨(a1), (a0_0), (a0_1), (a0_2), (a0_3), (by first | rfl | (simp; done) | (simp [*]; done)), H', ⟨Nat.le_refl _⟩, ⟨by (with_reducible repeat (first | refine Zac ?_ _ | refine Zad ?_ | refine Zab ?_ _)); exact BK980.out⟩, ⟨by (with_reducible repeat (first | refine Zac ?_ _ | refine Zad ?_ | refine Zab ?_ _)); exact BK981.out⟩, ⟨(zb3 HB GE980.out GE981.out)⟩⟩
 case round =>
  clear H'
  obtain ⟨x1_1, x981000_1, x981001_1, x981002_1, x981003_1, rfl, HA, HK1, BK980, BK981, HB⟩ := hrel
  cases gk with
  | zero => exact absurd HA.out (by simp [kauditref23_words_rounds.l0])
  | succ k1 =>
   have H := HA.out
   clear HA
   simp only [kauditref23_words_rounds.l0] at H
   by_cases c5 : x1_1 > 0
   ·rw [if_pos c5] at H
    have c5b0 : decide (0 < x1_1) = true := decide_eq_true c5
    clear c5
    replace H := Option.bind_eq_some_iff.mp H
    obtain ⟨t982, A60, H⟩ := H
    try dsimp only at H
    have A6 := Zaa.mk A60
    clear A60
    replace H := Option.bind_eq_some_iff.mp H
    obtain ⟨t983, A70, H⟩ := H
    try dsimp only at H
    have A7 := Zaa.mk A70
    clear A70
    replace H := Option.bind_eq_some_iff.mp H
    obtain ⟨t984, A80, H⟩ := H
    try dsimp only at H
    have A8 := Zaa.mk A80
    clear A80
    replace H := Option.bind_eq_some_iff.mp H
    obtain ⟨t985, A90, H⟩ := H
    try dsimp only at H
    have A9 := Zaa.mk A90
    clear A90
    replace H := Option.bind_eq_some_iff.mp H
    obtain ⟨t986, A100, H⟩ := H
    try dsimp only at H
    have A10 := Zaa.mk A100
    clear A100
    replace H := Option.bind_eq_some_iff.mp H
    obtain ⟨t987, A110, H⟩ := H
    try dsimp only at H
    have A11 := Zaa.mk A110
    clear A110
    have H' := Zaa.mk H
    clear H
    have hnb12 := NB980_981.out
    have hnc12 := NB981_980.out
    obtain ⟨hcz13_0, hcz13_1, hcz13_2, hcz13_3⟩ := bc4 BK980.out
    obtain ⟨hfz13_0, hfz13_1, hfz13_2, hfz13_3⟩ := bf4 BK980.out
    try go_wp2
    have n0_ : Zaa ((wr.setCell ⟨gb980, 0, none⟩ (.int .u64 (IntKind.u64.wrap (x981000_1 + x981001_1)))).heap[gb980]? = some (.cells #[.int .u64 (IntKind.u64.wrap (x981000_1 + x981001_1)), .int .u64 x981001_1, .int .u64 x981002_1, .int .u64 x981003_1] 178 (0, 0))) := ⟨by (with_reducible repeat (first | refine Zac ?_ _ | refine Zad ?_ | refine Zab ?_ _)); refine Zaj (cs := #[.int .u64 x981000_1, .int .u64 x981001_1, .int .u64 x981002_1, .int .u64 x981003_1]) ?_ 0 _ rfl; (with_reducible repeat (first | refine Zac ?_ _ | refine Zad ?_ | refine Zab ?_ _)); exact BK980.out⟩
    have n1_ : Zaa ((wr.setCell ⟨gb980, 0, none⟩ (.int .u64 (IntKind.u64.wrap (x981000_1 + x981001_1)))).heap[gb981]? = some (.cells #[.int .u64 0, .int .u64 0, .int .u64 0, .int .u64 0] 178 (0, 0))) := ⟨by (with_reducible repeat (first | refine Zac ?_ _ | refine Zad ?_ | refine Zab ?_ _)); refine Zak ?_ NB981_980.out _; (with_reducible repeat (first | refine Zac ?_ _ | refine Zad ?_ | refine Zab ?_ _)); exact BK981.out⟩
    have n2_ : Zaa (Below w.heap.size w (wr.setCell ⟨gb980, 0, none⟩ (.int .u64 (IntKind.u64.wrap (x981000_1 + x981001_1))))) := ⟨(zb3 HB GE980.out GE981.out)⟩
    (try clear BK980)
    (try clear BK981)
    (try clear HB)
    generalize (wr.setCell ⟨gb980, 0, none⟩ (.int .u64 (IntKind.u64.wrap (x981000_1 + x981001_1)))) = w14 at n0_ n1_ n2_ ⊢
    have BK980 := n0_
    have BK981 := n1_
    have HB := n2_
    clear n0_ n1_ n2_
    replace BK980 := Zaa.mk (Zad BK980.out)
    replace BK981 := Zaa.mk (Zad BK981.out)
    replace HB := Zaa.mk (Zaq HB.out)
    refine start_ (n := 8) (S := fun w' => w'.cell? ⟨gb980, 0, none⟩ = some (.int .u64 (IntKind.u64.wrap (x981000_1 + x981001_1))) ∧ w'.cell? ⟨gb980, 1, none⟩ = some (.int .u64 x981001_1) ∧ w'.cell? ⟨gb980, 2, none⟩ = some (.int .u64 x981002_1) ∧ w'.cell? ⟨gb980, 3, none⟩ = some (.int .u64 x981003_1)) (ds := [7]) #[false, false, false, false, false, false, false, false] (by kernel_rfl) rfl rfl ⟨(Zai BK980.out 0).trans rfl, (Zai BK980.out 1).trans rfl, (Zai BK980.out 2).trans rfl, (Zai BK980.out 3).trans rfl⟩ (fun hHeld => ?_); refine with_tabW kauditref23_words_rounds.tab4 kauditref23_words_rounds.bits4 (fun HT_ HW_ => ?_)
    generalize w14.drew = w15 at BK980 BK981 HB hHeld ⊢
    refine Za8 (i := 0) (N := some 15) (v := ?_) (a' := ?_) #[true, false, false, false, false, false, false, false] rfl rfl (Za7 HT_.out (by kernel_rfl)) (fun _ _ _ h => h) (Or.inl ⟨by rfl, ?_⟩) ?_ ?_
    rotate_left
    ·intro w'
     go_simp
     with_reducible rfl
    rotate_left
    ·simp only [Act.put, List.setIfInBounds_toArray, List.set_cons_zero, List.set_cons_succ, Zav, Za0]
     rfl
    refine Za8 (i := 3) (N := some 18) (v := ?_) (a' := ?_) #[true, false, false, true, false, false, false, false] rfl rfl (Za7 HT_.out (by kernel_rfl)) (fun _ _ _ h => h) (Or.inl ⟨by rfl, ?_⟩) ?_ ?_
    rotate_left
    ·intro w'
     go_simp
     with_reducible rfl
    rotate_left
    ·simp only [Act.put, List.setIfInBounds_toArray, List.set_cons_zero, List.set_cons_succ, Zav, Za0]
     rfl
    refine take_ (i := 1) (N := some 16) (v := ?_) (a' := ?_) #[true, true, false, true, false, false, false, false] rfl rfl (Zbj HT_.out HW_.out (by kernel_rfl)) (fun _ _ _ h => h) (Or.inl ⟨by rfl, ?_⟩) hHeld ?_ ?_
    rotate_left
    ·rintro w' ⟨s0, s1, s2, s3⟩
     go_simp
     with_reducible rfl
    rotate_left
    ·simp only [Act.put, List.setIfInBounds_toArray, List.set_cons_zero, List.set_cons_succ, Zav, Za0]
     rfl
    refine take_ (i := 4) (N := some 19) (v := ?_) (a' := ?_) #[true, true, false, true, true, false, false, false] rfl rfl (Zbj HT_.out HW_.out (by kernel_rfl)) (fun _ _ _ h => h) (Or.inl ⟨by rfl, ?_⟩) hHeld ?_ ?_
    rotate_left
    ·rintro w' ⟨s0, s1, s2, s3⟩
     go_simp
     with_reducible rfl
    rotate_left
    ·simp only [Act.put, List.setIfInBounds_toArray, List.set_cons_zero, List.set_cons_succ, Zav, Za0]
     rfl
    refine one_ (i := 2) (N := some 17) #[true, true, true, true, true, false, false, false] rfl rfl (Zbi HT_.out (by kernel_rfl)) (by decide) (fun K hK => ?_)
    refine goes_ Tryd.func160 (by kernel_rfl) rfl #[.int .u64 x981001_1, .int .i64 13] (by rfl) rfl rfl zam ?_
    with_reducible refine (kauditref23_turn.calls x981001_1 13 t982 _ A6.out).mono ?_
    rintro e w16 ⟨rfl, hb⟩
    refine ⟨_, rfl, ?_⟩
    replace BK980 := Zaa.mk (Zah (g := gb980) (o := .cells #[.int .u64 (IntKind.u64.wrap (x981000_1 + x981001_1)), .int .u64 x981001_1, .int .u64 x981002_1, .int .u64 x981003_1] 178 (0, 0)) (zbk BK980) hb)
    replace BK981 := Zaa.mk (Zah (g := gb981) (o := .cells #[.int .u64 0, .int .u64 0, .int .u64 0, .int .u64 0] 178 (0, 0)) (zbk BK981) hb)
    replace HB := Zaa.mk (Zaf (zb3 HB GE980.out GE981.out) hb)
    (try clear hb)
    refine hK.out _ _ ⟨(Zai BK980.out 0).trans rfl, (Zai BK980.out 1).trans rfl, (Zai BK980.out 2).trans rfl, (Zai BK980.out 3).trans rfl⟩ (fun hHeld => ?_)
    clear hK K
    refine norm_ (a' := ?_) ?_ ?_
    rotate_left
    ·show Act.put _ (some 17) _ = _
     simp only [Act.put, List.setIfInBounds_toArray, List.set_cons_zero, List.set_cons_succ, Zav, Za0]
     rfl
    refine Za8 (i := 5) (N := some 20) (v := ?_) (a' := ?_) #[true, true, true, true, true, true, false, false] rfl rfl (Za7 HT_.out (by kernel_rfl)) (fun _ _ _ h => h) (Or.inl ⟨by rfl, ?_⟩) ?_ ?_
    rotate_left
    ·intro w'
     go_simp
     with_reducible rfl
    rotate_left
    ·simp only [Act.put, List.setIfInBounds_toArray, List.set_cons_zero, List.set_cons_succ, Zav, Za0]
     rfl
    refine Za8 (i := 6) (N := some 21) (v := ?_) (a' := ?_) #[true, true, true, true, true, true, true, false] rfl rfl (Za7 HT_.out (by kernel_rfl)) (fun _ _ _ h => h) (Or.inl ⟨by rfl, ?_⟩) ?_ ?_
    rotate_left
    ·intro w'
     go_simp
     with_reducible rfl
    rotate_left
    ·simp only [Act.put, List.setIfInBounds_toArray, List.set_cons_zero, List.set_cons_succ, Zav, Za0]
     rfl
    refine last_ (i := 7) (N := none) #[true, true, true, true, true, true, true, true] rfl rfl (Zbi HT_.out (by kernel_rfl)) (by decide) (fun K hK => ?_)
    have hs17 : w16.cell? ⟨gb980, 1, none⟩ = some (.int .u64 x981001_1) := (Zai BK980.out 1).trans rfl
    have hfs17 := Zau BK980.out 1
    have hns17_1 := NB981_980.out
    have hms17_1 := NB980_981.out
    refine skip_ (w1 := ?_) (by rfl) rfl ?_ ?_
    rotate_left
    ·go_simp
     rfl
    refine hK.out _ _ ?_
    clear hK K
    refine done_ (done_of HT_.out (by kernel_rfl)) ?_
    obtain ⟨hcz18_0, hcz18_1, hcz18_2, hcz18_3⟩ := bc4 BK980.out
    obtain ⟨hfz18_0, hfz18_1, hfz18_2, hfz18_3⟩ := bf4 BK980.out
    try go_wp2_with (first | ((with_reducible refine Zal (f := 160) rfl ?_); refine Za2 (some 24) rfl rfl Tryd.func160 (by kernel_rfl) rfl #[.int .u64 (IntKind.u64.wrap (x981000_1 + x981001_1)), .int .i64 32] rfl zam ?_; (with_reducible refine (kauditref23_turn.calls (IntKind.u64.wrap (x981000_1 + x981001_1)) 32 t983 _ A7.out).mono ?_); rintro e w19 ⟨rfl, hb⟩; refine ⟨_, rfl, ?_⟩; replace BK980 := Zaa.mk (Zah (g := gb980) (o := .cells #[.int .u64 (IntKind.u64.wrap (x981000_1 + x981001_1)), .int .u64 (Go.bits .xor .u64 t982 (IntKind.u64.wrap (x981000_1 + x981001_1))), .int .u64 x981002_1, .int .u64 x981003_1] 178 (0, 0)) (by (with_reducible repeat (first | refine Zac ?_ _ | refine Zad ?_ | refine Zab ?_ _)); refine Zaj (cs := #[.int .u64 (IntKind.u64.wrap (x981000_1 + x981001_1)), .int .u64 x981001_1, .int .u64 x981002_1, .int .u64 x981003_1]) ?_ 1 _ rfl; (with_reducible repeat (first | refine Zac ?_ _ | refine Zad ?_ | refine Zab ?_ _)); exact BK980.out) hb); replace BK981 := Zaa.mk (Zah (g := gb981) (o := .cells #[.int .u64 0, .int .u64 0, .int .u64 0, .int .u64 0] 178 (0, 0)) (by (with_reducible repeat (first | refine Zac ?_ _ | refine Zad ?_ | refine Zab ?_ _)); refine Zak ?_ NB981_980.out _; (with_reducible repeat (first | refine Zac ?_ _ | refine Zad ?_ | refine Zab ?_ _)); exact BK981.out) hb); replace HB := Zaa.mk (Zaf (zb3 HB GE980.out GE981.out) hb); (try clear hb); have hcz20_0 : w19.cell? ⟨gb980, 0, none⟩ = some (.int .u64 (IntKind.u64.wrap (x981000_1 + x981001_1))) := (Zai BK980.out 0).trans rfl; have hcz20_1 : w19.cell? ⟨gb980, 1, none⟩ = some (.int .u64 (Go.bits .xor .u64 t982 (IntKind.u64.wrap (x981000_1 + x981001_1)))) := (Zai BK980.out 1).trans rfl; have hcz20_2 : w19.cell? ⟨gb980, 2, none⟩ = some (.int .u64 x981002_1) := (Zai BK980.out 2).trans rfl; have hcz20_3 : w19.cell? ⟨gb980, 3, none⟩ = some (.int .u64 x981003_1) := (Zai BK980.out 3).trans rfl; obtain ⟨hfz20_0, hfz20_1, hfz20_2, hfz20_3⟩ := bf4 BK980.out))
    have n0_ : Zaa (((w19.setCell ⟨gb980, 0, none⟩ (.int .u64 t983)).setCell ⟨gb980, 2, none⟩ (.int .u64 (IntKind.u64.wrap (x981002_1 + x981003_1)))).heap[gb980]? = some (.cells #[.int .u64 t983, .int .u64 (Go.bits .xor .u64 t982 (IntKind.u64.wrap (x981000_1 + x981001_1))), .int .u64 (IntKind.u64.wrap (x981002_1 + x981003_1)), .int .u64 x981003_1] 178 (0, 0))) := ⟨by (with_reducible repeat (first | refine Zac ?_ _ | refine Zad ?_ | refine Zab ?_ _)); refine Zaj (cs := #[.int .u64 t983, .int .u64 (Go.bits .xor .u64 t982 (IntKind.u64.wrap (x981000_1 + x981001_1))), .int .u64 x981002_1, .int .u64 x981003_1]) ?_ 2 _ rfl; (with_reducible repeat (first | refine Zac ?_ _ | refine Zad ?_ | refine Zab ?_ _)); refine Zaj (cs := #[.int .u64 (IntKind.u64.wrap (x981000_1 + x981001_1)), .int .u64 (Go.bits .xor .u64 t982 (IntKind.u64.wrap (x981000_1 + x981001_1))), .int .u64 x981002_1, .int .u64 x981003_1]) ?_ 0 _ rfl; (with_reducible repeat (first | refine Zac ?_ _ | refine Zad ?_ | refine Zab ?_ _)); exact BK980.out⟩
    have n1_ : Zaa (((w19.setCell ⟨gb980, 0, none⟩ (.int .u64 t983)).setCell ⟨gb980, 2, none⟩ (.int .u64 (IntKind.u64.wrap (x981002_1 + x981003_1)))).heap[gb981]? = some (.cells #[.int .u64 0, .int .u64 0, .int .u64 0, .int .u64 0] 178 (0, 0))) := ⟨by (with_reducible repeat (first | refine Zac ?_ _ | refine Zad ?_ | refine Zab ?_ _)); refine Zak ?_ NB981_980.out _; (with_reducible repeat (first | refine Zac ?_ _ | refine Zad ?_ | refine Zab ?_ _)); refine Zak ?_ NB981_980.out _; (with_reducible repeat (first | refine Zac ?_ _ | refine Zad ?_ | refine Zab ?_ _)); exact BK981.out⟩
    have n2_ : Zaa (Below w.heap.size w ((w19.setCell ⟨gb980, 0, none⟩ (.int .u64 t983)).setCell ⟨gb980, 2, none⟩ (.int .u64 (IntKind.u64.wrap (x981002_1 + x981003_1))))) := ⟨(zb3 HB GE980.out GE981.out)⟩
    (try clear BK980)
    (try clear BK981)
    (try clear HB)
    generalize ((w19.setCell ⟨gb980, 0, none⟩ (.int .u64 t983)).setCell ⟨gb980, 2, none⟩ (.int .u64 (IntKind.u64.wrap (x981002_1 + x981003_1)))) = w21 at n0_ n1_ n2_ ⊢
    have BK980 := n0_
    have BK981 := n1_
    have HB := n2_
    clear n0_ n1_ n2_
    replace BK980 := Zaa.mk (Zad BK980.out)
    replace BK981 := Zaa.mk (Zad BK981.out)
    replace HB := Zaa.mk (Zaq HB.out)
    refine start_ (n := 8) (S := fun w' => w'.cell? ⟨gb980, 0, none⟩ = some (.int .u64 t983) ∧ w'.cell? ⟨gb980, 1, none⟩ = some (.int .u64 (Go.bits .xor .u64 t982 (IntKind.u64.wrap (x981000_1 + x981001_1)))) ∧ w'.cell? ⟨gb980, 2, none⟩ = some (.int .u64 (IntKind.u64.wrap (x981002_1 + x981003_1))) ∧ w'.cell? ⟨gb980, 3, none⟩ = some (.int .u64 x981003_1)) (ds := [7]) #[false, false, false, false, false, false, false, false] (by kernel_rfl) rfl rfl ⟨(Zai BK980.out 0).trans rfl, (Zai BK980.out 1).trans rfl, (Zai BK980.out 2).trans rfl, (Zai BK980.out 3).trans rfl⟩ (fun hHeld => ?_); refine with_tabW kauditref23_words_rounds.tab7 kauditref23_words_rounds.bits7 (fun HT_ HW_ => ?_)
    generalize w21.drew = w22 at BK980 BK981 HB hHeld ⊢
    refine Za8 (i := 0) (N := some 32) (v := ?_) (a' := ?_) #[true, false, false, false, false, false, false, false] rfl rfl (Za7 HT_.out (by kernel_rfl)) (fun _ _ _ h => h) (Or.inl ⟨by rfl, ?_⟩) ?_ ?_
    rotate_left
    ·intro w'
     go_simp
     with_reducible rfl
    rotate_left
    ·simp only [Act.put, List.setIfInBounds_toArray, List.set_cons_zero, List.set_cons_succ, Zav, Za0]
     rfl
    refine Za8 (i := 3) (N := some 35) (v := ?_) (a' := ?_) #[true, false, false, true, false, false, false, false] rfl rfl (Za7 HT_.out (by kernel_rfl)) (fun _ _ _ h => h) (Or.inl ⟨by rfl, ?_⟩) ?_ ?_
    rotate_left
    ·intro w'
     go_simp
     with_reducible rfl
    rotate_left
    ·simp only [Act.put, List.setIfInBounds_toArray, List.set_cons_zero, List.set_cons_succ, Zav, Za0]
     rfl
    refine take_ (i := 1) (N := some 33) (v := ?_) (a' := ?_) #[true, true, false, true, false, false, false, false] rfl rfl (Zbj HT_.out HW_.out (by kernel_rfl)) (fun _ _ _ h => h) (Or.inl ⟨by rfl, ?_⟩) hHeld ?_ ?_
    rotate_left
    ·rintro w' ⟨s0, s1, s2, s3⟩
     go_simp
     with_reducible rfl
    rotate_left
    ·simp only [Act.put, List.setIfInBounds_toArray, List.set_cons_zero, List.set_cons_succ, Zav, Za0]
     rfl
    refine take_ (i := 4) (N := some 36) (v := ?_) (a' := ?_) #[true, true, false, true, true, false, false, false] rfl rfl (Zbj HT_.out HW_.out (by kernel_rfl)) (fun _ _ _ h => h) (Or.inl ⟨by rfl, ?_⟩) hHeld ?_ ?_
    rotate_left
    ·rintro w' ⟨s0, s1, s2, s3⟩
     go_simp
     with_reducible rfl
    rotate_left
    ·simp only [Act.put, List.setIfInBounds_toArray, List.set_cons_zero, List.set_cons_succ, Zav, Za0]
     rfl
    refine one_ (i := 2) (N := some 34) #[true, true, true, true, true, false, false, false] rfl rfl (Zbi HT_.out (by kernel_rfl)) (by decide) (fun K hK => ?_)
    refine goes_ Tryd.func160 (by kernel_rfl) rfl #[.int .u64 x981003_1, .int .i64 16] (by rfl) rfl rfl zam ?_
    with_reducible refine (kauditref23_turn.calls x981003_1 16 t984 _ A8.out).mono ?_
    rintro e w23 ⟨rfl, hb⟩
    refine ⟨_, rfl, ?_⟩
    replace BK980 := Zaa.mk (Zah (g := gb980) (o := .cells #[.int .u64 t983, .int .u64 (Go.bits .xor .u64 t982 (IntKind.u64.wrap (x981000_1 + x981001_1))), .int .u64 (IntKind.u64.wrap (x981002_1 + x981003_1)), .int .u64 x981003_1] 178 (0, 0)) (zbk BK980) hb)
    replace BK981 := Zaa.mk (Zah (g := gb981) (o := .cells #[.int .u64 0, .int .u64 0, .int .u64 0, .int .u64 0] 178 (0, 0)) (zbk BK981) hb)
    replace HB := Zaa.mk (Zaf (zb3 HB GE980.out GE981.out) hb)
    (try clear hb)
    (try clear hb2)
    (try clear hk)
    (try clear hi)
    refine hK.out _ _ ⟨(Zai BK980.out 0).trans rfl, (Zai BK980.out 1).trans rfl, (Zai BK980.out 2).trans rfl, (Zai BK980.out 3).trans rfl⟩ (fun hHeld => ?_)
    clear hK K
    refine norm_ (a' := ?_) ?_ ?_
    rotate_left
    ·show Act.put _ (some 34) _ = _
     simp only [Act.put, List.setIfInBounds_toArray, List.set_cons_zero, List.set_cons_succ, Zav, Za0]
     rfl
    refine Za8 (i := 5) (N := some 37) (v := ?_) (a' := ?_) #[true, true, true, true, true, true, false, false] rfl rfl (Za7 HT_.out (by kernel_rfl)) (fun _ _ _ h => h) (Or.inl ⟨by rfl, ?_⟩) ?_ ?_
    rotate_left
    ·intro w'
     go_simp
     with_reducible rfl
    rotate_left
    ·simp only [Act.put, List.setIfInBounds_toArray, List.set_cons_zero, List.set_cons_succ, Zav, Za0]
     rfl
    refine Za8 (i := 6) (N := some 38) (v := ?_) (a' := ?_) #[true, true, true, true, true, true, true, false] rfl rfl (Za7 HT_.out (by kernel_rfl)) (fun _ _ _ h => h) (Or.inl ⟨by rfl, ?_⟩) ?_ ?_
    rotate_left
    ·intro w'
     go_simp
     with_reducible rfl
    rotate_left
    ·simp only [Act.put, List.setIfInBounds_toArray, List.set_cons_zero, List.set_cons_succ, Zav, Za0]
     rfl
    refine last_ (i := 7) (N := none) #[true, true, true, true, true, true, true, true] rfl rfl (Zbi HT_.out (by kernel_rfl)) (by decide) (fun K hK => ?_)
    have hs24 : w23.cell? ⟨gb980, 3, none⟩ = some (.int .u64 x981003_1) := (Zai BK980.out 3).trans rfl
    have hfs24 := Zau BK980.out 3
    have hns24_1 := NB981_980.out
    have hms24_1 := NB980_981.out
    refine skip_ (w1 := ?_) (by rfl) rfl ?_ ?_
    rotate_left
    ·go_simp
     rfl
    refine hK.out _ _ ?_
    clear hK K
    refine done_ (done_of HT_.out (by kernel_rfl)) ?_
    have hcz25_0 : w23.cell? ⟨gb980, 0, none⟩ = some (.int .u64 t983) := (Zai BK980.out 0).trans rfl
    have hcz25_1 : w23.cell? ⟨gb980, 1, none⟩ = some (.int .u64 (Go.bits .xor .u64 t982 (IntKind.u64.wrap (x981000_1 + x981001_1)))) := (Zai BK980.out 1).trans rfl
    have hcz25_2 : w23.cell? ⟨gb980, 2, none⟩ = some (.int .u64 (IntKind.u64.wrap (x981002_1 + x981003_1))) := (Zai BK980.out 2).trans rfl
    have hcz25_3 : w23.cell? ⟨gb980, 3, none⟩ = some (.int .u64 x981003_1) := (Zai BK980.out 3).trans rfl
    obtain ⟨hfz25_0, hfz25_1, hfz25_2, hfz25_3⟩ := bf4 BK980.out
    try go_wp2
    have n0_ : Zaa (((w23.setCell ⟨gb980, 3, none⟩ (.int .u64 (Go.bits .xor .u64 t984 (IntKind.u64.wrap (x981002_1 + x981003_1))))).setCell ⟨gb980, 0, none⟩ (.int .u64 (IntKind.u64.wrap (t983 + (Go.bits .xor .u64 t984 (IntKind.u64.wrap (x981002_1 + x981003_1))))))).heap[gb980]? = some (.cells #[.int .u64 (IntKind.u64.wrap (t983 + (Go.bits .xor .u64 t984 (IntKind.u64.wrap (x981002_1 + x981003_1))))), .int .u64 (Go.bits .xor .u64 t982 (IntKind.u64.wrap (x981000_1 + x981001_1))), .int .u64 (IntKind.u64.wrap (x981002_1 + x981003_1)), .int .u64 (Go.bits .xor .u64 t984 (IntKind.u64.wrap (x981002_1 + x981003_1)))] 178 (0, 0))) := ⟨by (with_reducible repeat (first | refine Zac ?_ _ | refine Zad ?_ | refine Zab ?_ _)); refine Zaj (cs := #[.int .u64 t983, .int .u64 (Go.bits .xor .u64 t982 (IntKind.u64.wrap (x981000_1 + x981001_1))), .int .u64 (IntKind.u64.wrap (x981002_1 + x981003_1)), .int .u64 (Go.bits .xor .u64 t984 (IntKind.u64.wrap (x981002_1 + x981003_1)))]) ?_ 0 _ rfl; (with_reducible repeat (first | refine Zac ?_ _ | refine Zad ?_ | refine Zab ?_ _)); refine Zaj (cs := #[.int .u64 t983, .int .u64 (Go.bits .xor .u64 t982 (IntKind.u64.wrap (x981000_1 + x981001_1))), .int .u64 (IntKind.u64.wrap (x981002_1 + x981003_1)), .int .u64 x981003_1]) ?_ 3 _ rfl; (with_reducible repeat (first | refine Zac ?_ _ | refine Zad ?_ | refine Zab ?_ _)); exact BK980.out⟩
    have n1_ : Zaa (((w23.setCell ⟨gb980, 3, none⟩ (.int .u64 (Go.bits .xor .u64 t984 (IntKind.u64.wrap (x981002_1 + x981003_1))))).setCell ⟨gb980, 0, none⟩ (.int .u64 (IntKind.u64.wrap (t983 + (Go.bits .xor .u64 t984 (IntKind.u64.wrap (x981002_1 + x981003_1))))))).heap[gb981]? = some (.cells #[.int .u64 0, .int .u64 0, .int .u64 0, .int .u64 0] 178 (0, 0))) := ⟨by (with_reducible repeat (first | refine Zac ?_ _ | refine Zad ?_ | refine Zab ?_ _)); refine Zak ?_ NB981_980.out _; (with_reducible repeat (first | refine Zac ?_ _ | refine Zad ?_ | refine Zab ?_ _)); refine Zak ?_ NB981_980.out _; (with_reducible repeat (first | refine Zac ?_ _ | refine Zad ?_ | refine Zab ?_ _)); exact BK981.out⟩
    have n2_ : Zaa (Below w.heap.size w ((w23.setCell ⟨gb980, 3, none⟩ (.int .u64 (Go.bits .xor .u64 t984 (IntKind.u64.wrap (x981002_1 + x981003_1))))).setCell ⟨gb980, 0, none⟩ (.int .u64 (IntKind.u64.wrap (t983 + (Go.bits .xor .u64 t984 (IntKind.u64.wrap (x981002_1 + x981003_1)))))))) := ⟨(zb3 HB GE980.out GE981.out)⟩
    (try clear BK980)
    (try clear BK981)
    (try clear HB)
    generalize ((w23.setCell ⟨gb980, 3, none⟩ (.int .u64 (Go.bits .xor .u64 t984 (IntKind.u64.wrap (x981002_1 + x981003_1))))).setCell ⟨gb980, 0, none⟩ (.int .u64 (IntKind.u64.wrap (t983 + (Go.bits .xor .u64 t984 (IntKind.u64.wrap (x981002_1 + x981003_1))))))) = w26 at n0_ n1_ n2_ ⊢
    have BK980 := n0_
    have BK981 := n1_
    have HB := n2_
    clear n0_ n1_ n2_
    replace BK980 := Zaa.mk (Zad BK980.out)
    replace BK981 := Zaa.mk (Zad BK981.out)
    replace HB := Zaa.mk (Zaq HB.out)
    refine start_ (n := 8) (S := fun w' => w'.cell? ⟨gb980, 0, none⟩ = some (.int .u64 (IntKind.u64.wrap (t983 + (Go.bits .xor .u64 t984 (IntKind.u64.wrap (x981002_1 + x981003_1)))))) ∧ w'.cell? ⟨gb980, 1, none⟩ = some (.int .u64 (Go.bits .xor .u64 t982 (IntKind.u64.wrap (x981000_1 + x981001_1)))) ∧ w'.cell? ⟨gb980, 2, none⟩ = some (.int .u64 (IntKind.u64.wrap (x981002_1 + x981003_1))) ∧ w'.cell? ⟨gb980, 3, none⟩ = some (.int .u64 (Go.bits .xor .u64 t984 (IntKind.u64.wrap (x981002_1 + x981003_1))))) (ds := [7]) #[false, false, false, false, false, false, false, false] (by kernel_rfl) rfl rfl ⟨(Zai BK980.out 0).trans rfl, (Zai BK980.out 1).trans rfl, (Zai BK980.out 2).trans rfl, (Zai BK980.out 3).trans rfl⟩ (fun hHeld => ?_); refine with_tabW kauditref23_words_rounds.tab9 kauditref23_words_rounds.bits9 (fun HT_ HW_ => ?_)
    generalize w26.drew = w27 at BK980 BK981 HB hHeld ⊢
    refine Za8 (i := 0) (N := some 45) (v := ?_) (a' := ?_) #[true, false, false, false, false, false, false, false] rfl rfl (Za7 HT_.out (by kernel_rfl)) (fun _ _ _ h => h) (Or.inl ⟨by rfl, ?_⟩) ?_ ?_
    rotate_left
    ·intro w'
     go_simp
     with_reducible rfl
    rotate_left
    ·simp only [Act.put, List.setIfInBounds_toArray, List.set_cons_zero, List.set_cons_succ, Zav, Za0]
     rfl
    refine Za8 (i := 3) (N := some 48) (v := ?_) (a' := ?_) #[true, false, false, true, false, false, false, false] rfl rfl (Za7 HT_.out (by kernel_rfl)) (fun _ _ _ h => h) (Or.inl ⟨by rfl, ?_⟩) ?_ ?_
    rotate_left
    ·intro w'
     go_simp
     with_reducible rfl
    rotate_left
    ·simp only [Act.put, List.setIfInBounds_toArray, List.set_cons_zero, List.set_cons_succ, Zav, Za0]
     rfl
    refine take_ (i := 1) (N := some 46) (v := ?_) (a' := ?_) #[true, true, false, true, false, false, false, false] rfl rfl (Zbj HT_.out HW_.out (by kernel_rfl)) (fun _ _ _ h => h) (Or.inl ⟨by rfl, ?_⟩) hHeld ?_ ?_
    rotate_left
    ·rintro w' ⟨s0, s1, s2, s3⟩
     go_simp
     with_reducible rfl
    rotate_left
    ·simp only [Act.put, List.setIfInBounds_toArray, List.set_cons_zero, List.set_cons_succ, Zav, Za0]
     rfl
    refine take_ (i := 4) (N := some 49) (v := ?_) (a' := ?_) #[true, true, false, true, true, false, false, false] rfl rfl (Zbj HT_.out HW_.out (by kernel_rfl)) (fun _ _ _ h => h) (Or.inl ⟨by rfl, ?_⟩) hHeld ?_ ?_
    rotate_left
    ·rintro w' ⟨s0, s1, s2, s3⟩
     go_simp
     with_reducible rfl
    rotate_left
    ·simp only [Act.put, List.setIfInBounds_toArray, List.set_cons_zero, List.set_cons_succ, Zav, Za0]
     rfl
    refine one_ (i := 2) (N := some 47) #[true, true, true, true, true, false, false, false] rfl rfl (Zbi HT_.out (by kernel_rfl)) (by decide) (fun K hK => ?_)
    refine goes_ Tryd.func160 (by kernel_rfl) rfl #[.int .u64 (Go.bits .xor .u64 t984 (IntKind.u64.wrap (x981002_1 + x981003_1))), .int .i64 21] (by rfl) rfl rfl zam ?_
    with_reducible refine (kauditref23_turn.calls (Go.bits .xor .u64 t984 (IntKind.u64.wrap (x981002_1 + x981003_1))) 21 t985 _ A9.out).mono ?_
    rintro e w28 ⟨rfl, hb⟩
    refine ⟨_, rfl, ?_⟩
    replace BK980 := Zaa.mk (Zah (g := gb980) (o := .cells #[.int .u64 (IntKind.u64.wrap (t983 + (Go.bits .xor .u64 t984 (IntKind.u64.wrap (x981002_1 + x981003_1))))), .int .u64 (Go.bits .xor .u64 t982 (IntKind.u64.wrap (x981000_1 + x981001_1))), .int .u64 (IntKind.u64.wrap (x981002_1 + x981003_1)), .int .u64 (Go.bits .xor .u64 t984 (IntKind.u64.wrap (x981002_1 + x981003_1)))] 178 (0, 0)) (zbk BK980) hb)
    replace BK981 := Zaa.mk (Zah (g := gb981) (o := .cells #[.int .u64 0, .int .u64 0, .int .u64 0, .int .u64 0] 178 (0, 0)) (zbk BK981) hb)
    replace HB := Zaa.mk (Zaf (zb3 HB GE980.out GE981.out) hb)
    (try clear hb)
    (try clear hb2)
    (try clear hk)
    (try clear hi)
    refine hK.out _ _ ⟨(Zai BK980.out 0).trans rfl, (Zai BK980.out 1).trans rfl, (Zai BK980.out 2).trans rfl, (Zai BK980.out 3).trans rfl⟩ (fun hHeld => ?_)
    clear hK K
    refine norm_ (a' := ?_) ?_ ?_
    rotate_left
    ·show Act.put _ (some 47) _ = _
     simp only [Act.put, List.setIfInBounds_toArray, List.set_cons_zero, List.set_cons_succ, Zav, Za0]
     rfl
    refine Za8 (i := 5) (N := some 50) (v := ?_) (a' := ?_) #[true, true, true, true, true, true, false, false] rfl rfl (Za7 HT_.out (by kernel_rfl)) (fun _ _ _ h => h) (Or.inl ⟨by rfl, ?_⟩) ?_ ?_
    rotate_left
    ·intro w'
     go_simp
     with_reducible rfl
    rotate_left
    ·simp only [Act.put, List.setIfInBounds_toArray, List.set_cons_zero, List.set_cons_succ, Zav, Za0]
     rfl
    refine Za8 (i := 6) (N := some 51) (v := ?_) (a' := ?_) #[true, true, true, true, true, true, true, false] rfl rfl (Za7 HT_.out (by kernel_rfl)) (fun _ _ _ h => h) (Or.inl ⟨by rfl, ?_⟩) ?_ ?_
    rotate_left
    ·intro w'
     go_simp
     with_reducible rfl
    rotate_left
    ·simp only [Act.put, List.setIfInBounds_toArray, List.set_cons_zero, List.set_cons_succ, Zav, Za0]
     rfl
    refine last_ (i := 7) (N := none) #[true, true, true, true, true, true, true, true] rfl rfl (Zbi HT_.out (by kernel_rfl)) (by decide) (fun K hK => ?_)
    have hs29 : w28.cell? ⟨gb980, 3, none⟩ = some (.int .u64 (Go.bits .xor .u64 t984 (IntKind.u64.wrap (x981002_1 + x981003_1)))) := (Zai BK980.out 3).trans rfl
    have hfs29 := Zau BK980.out 3
    have hns29_1 := NB981_980.out
    have hms29_1 := NB980_981.out
    refine skip_ (w1 := ?_) (by rfl) rfl ?_ ?_
    rotate_left
    ·go_simp
     rfl
    refine hK.out _ _ ?_
    clear hK K
    refine done_ (done_of HT_.out (by kernel_rfl)) ?_
    have hcz30_0 : w28.cell? ⟨gb980, 0, none⟩ = some (.int .u64 (IntKind.u64.wrap (t983 + (Go.bits .xor .u64 t984 (IntKind.u64.wrap (x981002_1 + x981003_1)))))) := (Zai BK980.out 0).trans rfl
    have hcz30_1 : w28.cell? ⟨gb980, 1, none⟩ = some (.int .u64 (Go.bits .xor .u64 t982 (IntKind.u64.wrap (x981000_1 + x981001_1)))) := (Zai BK980.out 1).trans rfl
    have hcz30_2 : w28.cell? ⟨gb980, 2, none⟩ = some (.int .u64 (IntKind.u64.wrap (x981002_1 + x981003_1))) := (Zai BK980.out 2).trans rfl
    have hcz30_3 : w28.cell? ⟨gb980, 3, none⟩ = some (.int .u64 (Go.bits .xor .u64 t984 (IntKind.u64.wrap (x981002_1 + x981003_1)))) := (Zai BK980.out 3).trans rfl
    obtain ⟨hfz30_0, hfz30_1, hfz30_2, hfz30_3⟩ := bf4 BK980.out
    try go_wp2
    have n0_ : Zaa (((w28.setCell ⟨gb980, 3, none⟩ (.int .u64 (Go.bits .xor .u64 t985 (IntKind.u64.wrap (t983 + (Go.bits .xor .u64 t984 (IntKind.u64.wrap (x981002_1 + x981003_1)))))))).setCell ⟨gb980, 2, none⟩ (.int .u64 (IntKind.u64.wrap ((IntKind.u64.wrap (x981002_1 + x981003_1)) + (Go.bits .xor .u64 t982 (IntKind.u64.wrap (x981000_1 + x981001_1))))))).heap[gb980]? = some (.cells #[.int .u64 (IntKind.u64.wrap (t983 + (Go.bits .xor .u64 t984 (IntKind.u64.wrap (x981002_1 + x981003_1))))), .int .u64 (Go.bits .xor .u64 t982 (IntKind.u64.wrap (x981000_1 + x981001_1))), .int .u64 (IntKind.u64.wrap ((IntKind.u64.wrap (x981002_1 + x981003_1)) + (Go.bits .xor .u64 t982 (IntKind.u64.wrap (x981000_1 + x981001_1))))), .int .u64 (Go.bits .xor .u64 t985 (IntKind.u64.wrap (t983 + (Go.bits .xor .u64 t984 (IntKind.u64.wrap (x981002_1 + x981003_1))))))] 178 (0, 0))) := ⟨by (with_reducible repeat (first | refine Zac ?_ _ | refine Zad ?_ | refine Zab ?_ _)); refine Zaj (cs := #[.int .u64 (IntKind.u64.wrap (t983 + (Go.bits .xor .u64 t984 (IntKind.u64.wrap (x981002_1 + x981003_1))))), .int .u64 (Go.bits .xor .u64 t982 (IntKind.u64.wrap (x981000_1 + x981001_1))), .int .u64 (IntKind.u64.wrap (x981002_1 + x981003_1)), .int .u64 (Go.bits .xor .u64 t985 (IntKind.u64.wrap (t983 + (Go.bits .xor .u64 t984 (IntKind.u64.wrap (x981002_1 + x981003_1))))))]) ?_ 2 _ rfl; (with_reducible repeat (first | refine Zac ?_ _ | refine Zad ?_ | refine Zab ?_ _)); refine Zaj (cs := #[.int .u64 (IntKind.u64.wrap (t983 + (Go.bits .xor .u64 t984 (IntKind.u64.wrap (x981002_1 + x981003_1))))), .int .u64 (Go.bits .xor .u64 t982 (IntKind.u64.wrap (x981000_1 + x981001_1))), .int .u64 (IntKind.u64.wrap (x981002_1 + x981003_1)), .int .u64 (Go.bits .xor .u64 t984 (IntKind.u64.wrap (x981002_1 + x981003_1)))]) ?_ 3 _ rfl; (with_reducible repeat (first | refine Zac ?_ _ | refine Zad ?_ | refine Zab ?_ _)); exact BK980.out⟩
    have n1_ : Zaa (((w28.setCell ⟨gb980, 3, none⟩ (.int .u64 (Go.bits .xor .u64 t985 (IntKind.u64.wrap (t983 + (Go.bits .xor .u64 t984 (IntKind.u64.wrap (x981002_1 + x981003_1)))))))).setCell ⟨gb980, 2, none⟩ (.int .u64 (IntKind.u64.wrap ((IntKind.u64.wrap (x981002_1 + x981003_1)) + (Go.bits .xor .u64 t982 (IntKind.u64.wrap (x981000_1 + x981001_1))))))).heap[gb981]? = some (.cells #[.int .u64 0, .int .u64 0, .int .u64 0, .int .u64 0] 178 (0, 0))) := ⟨by (with_reducible repeat (first | refine Zac ?_ _ | refine Zad ?_ | refine Zab ?_ _)); refine Zak ?_ NB981_980.out _; (with_reducible repeat (first | refine Zac ?_ _ | refine Zad ?_ | refine Zab ?_ _)); refine Zak ?_ NB981_980.out _; (with_reducible repeat (first | refine Zac ?_ _ | refine Zad ?_ | refine Zab ?_ _)); exact BK981.out⟩
    have n2_ : Zaa (Below w.heap.size w ((w28.setCell ⟨gb980, 3, none⟩ (.int .u64 (Go.bits .xor .u64 t985 (IntKind.u64.wrap (t983 + (Go.bits .xor .u64 t984 (IntKind.u64.wrap (x981002_1 + x981003_1)))))))).setCell ⟨gb980, 2, none⟩ (.int .u64 (IntKind.u64.wrap ((IntKind.u64.wrap (x981002_1 + x981003_1)) + (Go.bits .xor .u64 t982 (IntKind.u64.wrap (x981000_1 + x981001_1)))))))) := ⟨(zb3 HB GE980.out GE981.out)⟩
    (try clear BK980)
    (try clear BK981)
    (try clear HB)
    generalize ((w28.setCell ⟨gb980, 3, none⟩ (.int .u64 (Go.bits .xor .u64 t985 (IntKind.u64.wrap (t983 + (Go.bits .xor .u64 t984 (IntKind.u64.wrap (x981002_1 + x981003_1)))))))).setCell ⟨gb980, 2, none⟩ (.int .u64 (IntKind.u64.wrap ((IntKind.u64.wrap (x981002_1 + x981003_1)) + (Go.bits .xor .u64 t982 (IntKind.u64.wrap (x981000_1 + x981001_1))))))) = w31 at n0_ n1_ n2_ ⊢
    have BK980 := n0_
    have BK981 := n1_
    have HB := n2_
    clear n0_ n1_ n2_
    replace BK980 := Zaa.mk (Zad BK980.out)
    replace BK981 := Zaa.mk (Zad BK981.out)
    replace HB := Zaa.mk (Zaq HB.out)
    refine start_ (n := 8) (S := fun w' => w'.cell? ⟨gb980, 0, none⟩ = some (.int .u64 (IntKind.u64.wrap (t983 + (Go.bits .xor .u64 t984 (IntKind.u64.wrap (x981002_1 + x981003_1)))))) ∧ w'.cell? ⟨gb980, 1, none⟩ = some (.int .u64 (Go.bits .xor .u64 t982 (IntKind.u64.wrap (x981000_1 + x981001_1)))) ∧ w'.cell? ⟨gb980, 2, none⟩ = some (.int .u64 (IntKind.u64.wrap ((IntKind.u64.wrap (x981002_1 + x981003_1)) + (Go.bits .xor .u64 t982 (IntKind.u64.wrap (x981000_1 + x981001_1)))))) ∧ w'.cell? ⟨gb980, 3, none⟩ = some (.int .u64 (Go.bits .xor .u64 t985 (IntKind.u64.wrap (t983 + (Go.bits .xor .u64 t984 (IntKind.u64.wrap (x981002_1 + x981003_1)))))))) (ds := [7]) #[false, false, false, false, false, false, false, false] (by kernel_rfl) rfl rfl ⟨(Zai BK980.out 0).trans rfl, (Zai BK980.out 1).trans rfl, (Zai BK980.out 2).trans rfl, (Zai BK980.out 3).trans rfl⟩ (fun hHeld => ?_); refine with_tabW kauditref23_words_rounds.tab11 kauditref23_words_rounds.bits11 (fun HT_ HW_ => ?_)
    generalize w31.drew = w32 at BK980 BK981 HB hHeld ⊢
    refine Za8 (i := 0) (N := some 58) (v := ?_) (a' := ?_) #[true, false, false, false, false, false, false, false] rfl rfl (Za7 HT_.out (by kernel_rfl)) (fun _ _ _ h => h) (Or.inl ⟨by rfl, ?_⟩) ?_ ?_
    rotate_left
    ·intro w'
     go_simp
     with_reducible rfl
    rotate_left
    ·simp only [Act.put, List.setIfInBounds_toArray, List.set_cons_zero, List.set_cons_succ, Zav, Za0]
     rfl
    refine Za8 (i := 3) (N := some 61) (v := ?_) (a' := ?_) #[true, false, false, true, false, false, false, false] rfl rfl (Za7 HT_.out (by kernel_rfl)) (fun _ _ _ h => h) (Or.inl ⟨by rfl, ?_⟩) ?_ ?_
    rotate_left
    ·intro w'
     go_simp
     with_reducible rfl
    rotate_left
    ·simp only [Act.put, List.setIfInBounds_toArray, List.set_cons_zero, List.set_cons_succ, Zav, Za0]
     rfl
    refine take_ (i := 1) (N := some 59) (v := ?_) (a' := ?_) #[true, true, false, true, false, false, false, false] rfl rfl (Zbj HT_.out HW_.out (by kernel_rfl)) (fun _ _ _ h => h) (Or.inl ⟨by rfl, ?_⟩) hHeld ?_ ?_
    rotate_left
    ·rintro w' ⟨s0, s1, s2, s3⟩
     go_simp
     with_reducible rfl
    rotate_left
    ·simp only [Act.put, List.setIfInBounds_toArray, List.set_cons_zero, List.set_cons_succ, Zav, Za0]
     rfl
    refine take_ (i := 4) (N := some 62) (v := ?_) (a' := ?_) #[true, true, false, true, true, false, false, false] rfl rfl (Zbj HT_.out HW_.out (by kernel_rfl)) (fun _ _ _ h => h) (Or.inl ⟨by rfl, ?_⟩) hHeld ?_ ?_
    rotate_left
    ·rintro w' ⟨s0, s1, s2, s3⟩
     go_simp
     with_reducible rfl
    rotate_left
    ·simp only [Act.put, List.setIfInBounds_toArray, List.set_cons_zero, List.set_cons_succ, Zav, Za0]
     rfl
    refine one_ (i := 2) (N := some 60) #[true, true, true, true, true, false, false, false] rfl rfl (Zbi HT_.out (by kernel_rfl)) (by decide) (fun K hK => ?_)
    refine goes_ Tryd.func160 (by kernel_rfl) rfl #[.int .u64 (Go.bits .xor .u64 t982 (IntKind.u64.wrap (x981000_1 + x981001_1))), .int .i64 17] (by rfl) rfl rfl zam ?_
    with_reducible refine (kauditref23_turn.calls (Go.bits .xor .u64 t982 (IntKind.u64.wrap (x981000_1 + x981001_1))) 17 t986 _ A10.out).mono ?_
    rintro e w33 ⟨rfl, hb⟩
    refine ⟨_, rfl, ?_⟩
    replace BK980 := Zaa.mk (Zah (g := gb980) (o := .cells #[.int .u64 (IntKind.u64.wrap (t983 + (Go.bits .xor .u64 t984 (IntKind.u64.wrap (x981002_1 + x981003_1))))), .int .u64 (Go.bits .xor .u64 t982 (IntKind.u64.wrap (x981000_1 + x981001_1))), .int .u64 (IntKind.u64.wrap ((IntKind.u64.wrap (x981002_1 + x981003_1)) + (Go.bits .xor .u64 t982 (IntKind.u64.wrap (x981000_1 + x981001_1))))), .int .u64 (Go.bits .xor .u64 t985 (IntKind.u64.wrap (t983 + (Go.bits .xor .u64 t984 (IntKind.u64.wrap (x981002_1 + x981003_1))))))] 178 (0, 0)) (zbk BK980) hb)
    replace BK981 := Zaa.mk (Zah (g := gb981) (o := .cells #[.int .u64 0, .int .u64 0, .int .u64 0, .int .u64 0] 178 (0, 0)) (zbk BK981) hb)
    replace HB := Zaa.mk (Zaf (zb3 HB GE980.out GE981.out) hb)
    (try clear hb)
    (try clear hb2)
    (try clear hk)
    (try clear hi)
    refine hK.out _ _ ⟨(Zai BK980.out 0).trans rfl, (Zai BK980.out 1).trans rfl, (Zai BK980.out 2).trans rfl, (Zai BK980.out 3).trans rfl⟩ (fun hHeld => ?_)
    clear hK K
    refine norm_ (a' := ?_) ?_ ?_
    rotate_left
    ·show Act.put _ (some 60) _ = _
     simp only [Act.put, List.setIfInBounds_toArray, List.set_cons_zero, List.set_cons_succ, Zav, Za0]
     rfl
    refine Za8 (i := 5) (N := some 63) (v := ?_) (a' := ?_) #[true, true, true, true, true, true, false, false] rfl rfl (Za7 HT_.out (by kernel_rfl)) (fun _ _ _ h => h) (Or.inl ⟨by rfl, ?_⟩) ?_ ?_
    rotate_left
    ·intro w'
     go_simp
     with_reducible rfl
    rotate_left
    ·simp only [Act.put, List.setIfInBounds_toArray, List.set_cons_zero, List.set_cons_succ, Zav, Za0]
     rfl
    refine Za8 (i := 6) (N := some 64) (v := ?_) (a' := ?_) #[true, true, true, true, true, true, true, false] rfl rfl (Za7 HT_.out (by kernel_rfl)) (fun _ _ _ h => h) (Or.inl ⟨by rfl, ?_⟩) ?_ ?_
    rotate_left
    ·intro w'
     go_simp
     with_reducible rfl
    rotate_left
    ·simp only [Act.put, List.setIfInBounds_toArray, List.set_cons_zero, List.set_cons_succ, Zav, Za0]
     rfl
    refine last_ (i := 7) (N := none) #[true, true, true, true, true, true, true, true] rfl rfl (Zbi HT_.out (by kernel_rfl)) (by decide) (fun K hK => ?_)
    have hs34 : w33.cell? ⟨gb980, 1, none⟩ = some (.int .u64 (Go.bits .xor .u64 t982 (IntKind.u64.wrap (x981000_1 + x981001_1)))) := (Zai BK980.out 1).trans rfl
    have hfs34 := Zau BK980.out 1
    have hns34_1 := NB981_980.out
    have hms34_1 := NB980_981.out
    refine skip_ (w1 := ?_) (by rfl) rfl ?_ ?_
    rotate_left
    ·go_simp
     rfl
    refine hK.out _ _ ?_
    clear hK K
    refine done_ (done_of HT_.out (by kernel_rfl)) ?_
    have hcz35_0 : w33.cell? ⟨gb980, 0, none⟩ = some (.int .u64 (IntKind.u64.wrap (t983 + (Go.bits .xor .u64 t984 (IntKind.u64.wrap (x981002_1 + x981003_1)))))) := (Zai BK980.out 0).trans rfl
    have hcz35_1 : w33.cell? ⟨gb980, 1, none⟩ = some (.int .u64 (Go.bits .xor .u64 t982 (IntKind.u64.wrap (x981000_1 + x981001_1)))) := (Zai BK980.out 1).trans rfl
    have hcz35_2 : w33.cell? ⟨gb980, 2, none⟩ = some (.int .u64 (IntKind.u64.wrap ((IntKind.u64.wrap (x981002_1 + x981003_1)) + (Go.bits .xor .u64 t982 (IntKind.u64.wrap (x981000_1 + x981001_1)))))) := (Zai BK980.out 2).trans rfl
    have hcz35_3 : w33.cell? ⟨gb980, 3, none⟩ = some (.int .u64 (Go.bits .xor .u64 t985 (IntKind.u64.wrap (t983 + (Go.bits .xor .u64 t984 (IntKind.u64.wrap (x981002_1 + x981003_1))))))) := (Zai BK980.out 3).trans rfl
    obtain ⟨hfz35_0, hfz35_1, hfz35_2, hfz35_3⟩ := bf4 BK980.out
    try go_wp2_with (first | ((with_reducible refine Zal (f := 160) rfl ?_); refine Za2 (some 67) rfl rfl Tryd.func160 (by kernel_rfl) rfl #[.int .u64 (IntKind.u64.wrap ((IntKind.u64.wrap (x981002_1 + x981003_1)) + (Go.bits .xor .u64 t982 (IntKind.u64.wrap (x981000_1 + x981001_1))))), .int .i64 32] rfl zam ?_; (with_reducible refine (kauditref23_turn.calls (IntKind.u64.wrap ((IntKind.u64.wrap (x981002_1 + x981003_1)) + (Go.bits .xor .u64 t982 (IntKind.u64.wrap (x981000_1 + x981001_1))))) 32 t987 _ A11.out).mono ?_); rintro e w36 ⟨rfl, hb⟩; refine ⟨_, rfl, ?_⟩; replace BK980 := Zaa.mk (Zah (g := gb980) (o := .cells #[.int .u64 (IntKind.u64.wrap (t983 + (Go.bits .xor .u64 t984 (IntKind.u64.wrap (x981002_1 + x981003_1))))), .int .u64 (Go.bits .xor .u64 t986 (IntKind.u64.wrap ((IntKind.u64.wrap (x981002_1 + x981003_1)) + (Go.bits .xor .u64 t982 (IntKind.u64.wrap (x981000_1 + x981001_1)))))), .int .u64 (IntKind.u64.wrap ((IntKind.u64.wrap (x981002_1 + x981003_1)) + (Go.bits .xor .u64 t982 (IntKind.u64.wrap (x981000_1 + x981001_1))))), .int .u64 (Go.bits .xor .u64 t985 (IntKind.u64.wrap (t983 + (Go.bits .xor .u64 t984 (IntKind.u64.wrap (x981002_1 + x981003_1))))))] 178 (0, 0)) (by (with_reducible repeat (first | refine Zac ?_ _ | refine Zad ?_ | refine Zab ?_ _)); refine Zaj (cs := #[.int .u64 (IntKind.u64.wrap (t983 + (Go.bits .xor .u64 t984 (IntKind.u64.wrap (x981002_1 + x981003_1))))), .int .u64 (Go.bits .xor .u64 t982 (IntKind.u64.wrap (x981000_1 + x981001_1))), .int .u64 (IntKind.u64.wrap ((IntKind.u64.wrap (x981002_1 + x981003_1)) + (Go.bits .xor .u64 t982 (IntKind.u64.wrap (x981000_1 + x981001_1))))), .int .u64 (Go.bits .xor .u64 t985 (IntKind.u64.wrap (t983 + (Go.bits .xor .u64 t984 (IntKind.u64.wrap (x981002_1 + x981003_1))))))]) ?_ 1 _ rfl; (with_reducible repeat (first | refine Zac ?_ _ | refine Zad ?_ | refine Zab ?_ _)); exact BK980.out) hb); replace BK981 := Zaa.mk (Zah (g := gb981) (o := .cells #[.int .u64 0, .int .u64 0, .int .u64 0, .int .u64 0] 178 (0, 0)) (by (with_reducible repeat (first | refine Zac ?_ _ | refine Zad ?_ | refine Zab ?_ _)); refine Zak ?_ NB981_980.out _; (with_reducible repeat (first | refine Zac ?_ _ | refine Zad ?_ | refine Zab ?_ _)); exact BK981.out) hb); replace HB := Zaa.mk (Zaf (zb3 HB GE980.out GE981.out) hb); (try clear hb); have hcz37_0 : w36.cell? ⟨gb980, 0, none⟩ = some (.int .u64 (IntKind.u64.wrap (t983 + (Go.bits .xor .u64 t984 (IntKind.u64.wrap (x981002_1 + x981003_1)))))) := (Zai BK980.out 0).trans rfl; have hcz37_1 : w36.cell? ⟨gb980, 1, none⟩ = some (.int .u64 (Go.bits .xor .u64 t986 (IntKind.u64.wrap ((IntKind.u64.wrap (x981002_1 + x981003_1)) + (Go.bits .xor .u64 t982 (IntKind.u64.wrap (x981000_1 + x981001_1))))))) := (Zai BK980.out 1).trans rfl; have hcz37_2 : w36.cell? ⟨gb980, 2, none⟩ = some (.int .u64 (IntKind.u64.wrap ((IntKind.u64.wrap (x981002_1 + x981003_1)) + (Go.bits .xor .u64 t982 (IntKind.u64.wrap (x981000_1 + x981001_1)))))) := (Zai BK980.out 2).trans rfl; have hcz37_3 : w36.cell? ⟨gb980, 3, none⟩ = some (.int .u64 (Go.bits .xor .u64 t985 (IntKind.u64.wrap (t983 + (Go.bits .xor .u64 t984 (IntKind.u64.wrap (x981002_1 + x981003_1))))))) := (Zai BK980.out 3).trans rfl; obtain ⟨hfz37_0, hfz37_1, hfz37_2, hfz37_3⟩ := bf4 BK980.out))
    go_roundg k1
    case measure => have := HK1.out; omega
    case rel => exact ⟨(wrap64 (x1_1 - 1)), (IntKind.u64.wrap (t983 + (Go.bits .xor .u64 t984 (IntKind.u64.wrap (x981002_1 + x981003_1))))), (Go.bits .xor .u64 t986 (IntKind.u64.wrap ((IntKind.u64.wrap (x981002_1 + x981003_1)) + (Go.bits .xor .u64 t982 (IntKind.u64.wrap (x981000_1 + x981001_1)))))), (t987), (Go.bits .xor .u64 t985 (IntKind.u64.wrap (t983 + (Go.bits .xor .u64 t984 (IntKind.u64.wrap (x981002_1 + x981003_1)))))), (by first | rfl | (simp; done) | (simp [*]; done)), H', ⟨by have := HK1.out; omega⟩, ⟨by (with_reducible repeat (first | refine Zac ?_ _ | refine Zad ?_ | refine Zab ?_ _)); refine Zaj (cs := #[.int .u64 (IntKind.u64.wrap (t983 + (Go.bits .xor .u64 t984 (IntKind.u64.wrap (x981002_1 + x981003_1))))), .int .u64 (Go.bits .xor .u64 t986 (IntKind.u64.wrap ((IntKind.u64.wrap (x981002_1 + x981003_1)) + (Go.bits .xor .u64 t982 (IntKind.u64.wrap (x981000_1 + x981001_1)))))), .int .u64 (IntKind.u64.wrap ((IntKind.u64.wrap (x981002_1 + x981003_1)) + (Go.bits .xor .u64 t982 (IntKind.u64.wrap (x981000_1 + x981001_1))))), .int .u64 (Go.bits .xor .u64 t985 (IntKind.u64.wrap (t983 + (Go.bits .xor .u64 t984 (IntKind.u64.wrap (x981002_1 + x981003_1))))))]) ?_ 2 _ rfl; (with_reducible repeat (first | refine Zac ?_ _ | refine Zad ?_ | refine Zab ?_ _)); exact BK980.out⟩, ⟨by (with_reducible repeat (first | refine Zac ?_ _ | refine Zad ?_ | refine Zab ?_ _)); refine Zak ?_ NB981_980.out _; (with_reducible repeat (first | refine Zac ?_ _ | refine Zad ?_ | refine Zab ?_ _)); exact BK981.out⟩, ⟨(zb3 HB GE980.out GE981.out)⟩⟩
   ·rw [if_neg c5] at H
    have c5b0 : decide (0 < x1_1) = false := decide_eq_false c5
    clear c5
    simp only [Option.some.injEq, Prod.mk.injEq] at H
    obtain ⟨rfl, rfl, rfl, rfl⟩ := H
    have hnb38 := NB980_981.out
    have hnc38 := NB981_980.out
    obtain ⟨hcz39_0, hcz39_1, hcz39_2, hcz39_3⟩ := bc4 BK980.out
    obtain ⟨hfz39_0, hfz39_1, hfz39_2, hfz39_3⟩ := bf4 BK980.out
    obtain ⟨hcz40_0, hcz40_1, hcz40_2, hcz40_3⟩ := bc4 BK981.out
    obtain ⟨hfz40_0, hfz40_1, hfz40_2, hfz40_3⟩ := bf4 BK981.out
    go_wp2
    refine bodyPost_ret (results_cell_row rfl _ _ gb981 178 #[.int .u64 x981000_1, .int .u64 x981001_1, .int .u64 x981002_1, .int .u64 x981003_1] (0, 0) _ rfl (by (with_reducible repeat (first | refine Zac ?_ _ | refine Zad ?_ | refine Zab ?_ _)); refine Zaj (cs := #[.int .u64 x981000_1, .int .u64 x981001_1, .int .u64 x981002_1, .int .u64 0]) ?_ 3 _ rfl; (with_reducible repeat (first | refine Zac ?_ _ | refine Zad ?_ | refine Zab ?_ _)); refine Zaj (cs := #[.int .u64 x981000_1, .int .u64 x981001_1, .int .u64 0, .int .u64 0]) ?_ 2 _ rfl; (with_reducible repeat (first | refine Zac ?_ _ | refine Zad ?_ | refine Zab ?_ _)); refine Zaj (cs := #[.int .u64 x981000_1, .int .u64 0, .int .u64 0, .int .u64 0]) ?_ 1 _ rfl; (with_reducible repeat (first | refine Zac ?_ _ | refine Zad ?_ | refine Zab ?_ _)); refine Zaj (cs := #[.int .u64 0, .int .u64 0, .int .u64 0, .int .u64 0]) ?_ 0 _ rfl; (with_reducible repeat (first | refine Zac ?_ _ | refine Zad ?_ | refine Zab ?_ _)); exact BK981.out) Tryd.underlying178 rfl (by kernel_rfl)) rfl ?_
    exact ⟨by first | rfl | (simp [errW_none, errW_some] <;> rfl) | (simp [*, errW_none, errW_some] <;> rfl), (zb3 HB GE980.out GE981.out)⟩
end Go.Proofs.YtkfddpbmclbdhaaDoor.PA
end
section
namespace Go.Proofs.YtkfddpbmclbdhaaDoor.PA
open Go.RowKit Go.Proofs.YtkfddpbmclbdhaaDoorW.PrintWords Go.Proofs.YtkfddpbmclbdhaaDoorW.PrintLast Go.Proofs.YtkfddpbmclbdhaaDoorW.PrintMore
attribute [local go_sem] Zaz Zax Za5 Za4 Zas Zar Zay Zaw   -- for this text's walks alone
set_option linter.unusedVariables false
set_option linter.unusedSimpArgs false
def kauditref23_words_take.f (k : Nat) (a0_0 : Int) (a0_1 : Int) (a0_2 : Int) (a0_3 : Int) (a1 : Int) : Option (Int × Int × Int × Int) := (kauditref23_words_rounds.f k a0_0 a0_1 a0_2 (Go.bits .xor .u64 a0_3 a1) 2).bind fun bt990 => (some (Go.bits .xor .u64 bt990.1 a1, bt990.2.1, bt990.2.2.1, bt990.2.2.2))
theorem kauditref23_words_take.mono : ∀ a0 a1 a2 a3 a4 k, LeO (kauditref23_words_take.f k a0 a1 a2 a3 a4) (kauditref23_words_take.f (k + 1) a0 a1 a2 a3 a4) := by
 intro a0 a1 a2 a3 a4 k
 unfold kauditref23_words_take.f
 repeat' first
   | (with_reducible exact kauditref23_words_rounds.mono _ _ _ _ _ _)
   | (with_reducible exact LeO.refl _)
   | (with_reducible exact LeO.none _)
   | (with_reducible refine LeO.ite ?_ ?_)
   | (with_reducible refine LeO.bind ?_ (fun _ => ?_))
   | exact kauditref23_words_rounds.mono _ _ _ _ _ _
   | exact LeO.none _
   | refine LeO.ite ?_ ?_
   | refine LeO.bind ?_ (fun _ => ?_)
set_option maxHeartbeats 8000000 in
set_option maxRecDepth 100000 in
theorem kauditref23_words_take.calls (k : Nat) (a0_0 : Int) (a0_1 : Int) (a0_2 : Int) (a0_3 : Int) (a1 : Int) (r1 : Int) (r2 : Int) (r3 : Int) (r4 : Int) (w : World) (h : kauditref23_words_take.f k a0_0 a0_1 a0_2 a0_3 a1 = some (r1, r2, r3, r4)) :
  Calls Tryd.prog 151 #[.agg #[.int .u64 a0_0, .int .u64 a0_1, .int .u64 a0_2, .int .u64 a0_3], .int .u64 a1] w fun e w' => e = .returned (.agg #[.int .u64 r1, .int .u64 r2, .int .u64 r3, .int .u64 r4]) ∧ Below w.heap.size w w' := by
 have hu178 := Tryd.underlying178
 have HB := Zaa.mk (Below.refl w.heap.size w)
 unfold kauditref23_words_take.f at h
 have H := h
 clear h
 replace H := Option.bind_eq_some_iff.mp H
 obtain ⟨⟨t990, t991, t992, t993⟩, A30, H⟩ := H
 try dsimp only at H
 have A3 := Zaa.mk A30
 clear A30
 simp only [Option.some.injEq, Prod.mk.injEq] at H
 obtain ⟨rfl, rfl, rfl, rfl⟩ := H
 go_enter Tryd.func151, Tryd.ntmps151
 go_wp2_with (first | ((with_reducible refine Zao (N := 2) rfl ?_); refine Zap ?hg (N := 2) ?hd (cs := #[.int .u64 a0_0, .int .u64 a0_1, .int .u64 a0_2, .int .u64 a0_3]) (t := 178) ?hr ?_; (case hd => rfl); (case hg => rfl); (case hr => first | (go_simp; done) | (go_simp; rfl)); intro gb988 hg w4 hbox hb; have BK988 := Zaa.mk (hbox); have GW988 := Zaa.mk ((by rw [hg]; exact (Zae (zb1 HB)) : w.heap.size ≤ gb988)); have GE988 := Zaa.mk ((by rw [hg]; exact (Zae (zb1 HB)) : w.heap.size ≤ gb988)); replace HB := Zaa.mk (Zaf (zb1 HB) hb); clear hb hbox hg) | ((with_reducible refine Zao (N := 4) rfl ?_); refine Zap ?hg (N := 4) ?hd (cs := #[.int .u64 0, .int .u64 0, .int .u64 0, .int .u64 0]) (t := 178) ?hr ?_; (case hd => rfl); (case hg => rfl); (case hr => first | (go_simp; done) | (go_simp; rfl)); intro gb989 hg w5 hbox hb; have BK989 := Zaa.mk (hbox); have GW989 := Zaa.mk ((by rw [hg]; exact (Zae (zb2 HB GE988.out)) : w.heap.size ≤ gb989)); have GE989 := Zaa.mk ((by rw [hg]; exact (Zae (zb2 HB GE988.out)) : w.heap.size ≤ gb989)); replace HB := Zaa.mk (Zaf (zb2 HB GE988.out) hb); have NB988_989 := Zaa.mk ((by rw [hg]; exact Nat.ne_of_lt (Za1 (g := gb988) (o := .cells #[.int .u64 a0_0, .int .u64 a0_1, .int .u64 a0_2, .int .u64 a0_3] 178 (0, 0)) (zbk BK988)) : gb988 ≠ gb989)); have NB989_988 := Zaa.mk ((by rw [hg]; exact Nat.ne_of_gt (Za1 (g := gb988) (o := .cells #[.int .u64 a0_0, .int .u64 a0_1, .int .u64 a0_2, .int .u64 a0_3] 178 (0, 0)) (zbk BK988)) : gb989 ≠ gb988)); replace BK988 := Zaa.mk (Zah (g := gb988) (o := .cells #[.int .u64 a0_0, .int .u64 a0_1, .int .u64 a0_2, .int .u64 a0_3] 178 (0, 0)) (zbk BK988) hb); clear hb hbox hg; have hnb6 := NB988_989.out; have hnc6 := NB989_988.out; obtain ⟨hcz7_0, hcz7_1, hcz7_2, hcz7_3⟩ := bc4 BK988.out; obtain ⟨hfz7_0, hfz7_1, hfz7_2, hfz7_3⟩ := bf4 BK988.out) | ((with_reducible refine Zal (f := 152) rfl ?_); refine Za2 (some 11) rfl rfl Tryd.func152 (by kernel_rfl) rfl #[.agg #[.int .u64 a0_0, .int .u64 a0_1, .int .u64 a0_2, .int .u64 (Go.bits .xor .u64 a0_3 a1)], .int .i64 2] rfl zam ?_; (with_reducible refine (kauditref23_words_rounds.calls k a0_0 a0_1 a0_2 (Go.bits .xor .u64 a0_3 a1) 2 t990 t991 t992 t993 _ A3.out).mono ?_); rintro e w8 ⟨rfl, hb⟩; refine ⟨_, rfl, ?_⟩; replace BK988 := Zaa.mk (Zah (g := gb988) (o := .cells #[.int .u64 a0_0, .int .u64 a0_1, .int .u64 a0_2, .int .u64 (Go.bits .xor .u64 a0_3 a1)] 178 (0, 0)) (by (with_reducible repeat (first | refine Zac ?_ _ | refine Zad ?_ | refine Zab ?_ _)); refine Zaj (cs := #[.int .u64 a0_0, .int .u64 a0_1, .int .u64 a0_2, .int .u64 a0_3]) ?_ 3 _ rfl; (with_reducible repeat (first | refine Zac ?_ _ | refine Zad ?_ | refine Zab ?_ _)); exact BK988.out) hb); replace BK989 := Zaa.mk (Zah (g := gb989) (o := .cells #[.int .u64 0, .int .u64 0, .int .u64 0, .int .u64 0] 178 (0, 0)) (by (with_reducible repeat (first | refine Zac ?_ _ | refine Zad ?_ | refine Zab ?_ _)); refine Zak ?_ NB989_988.out _; (with_reducible repeat (first | refine Zac ?_ _ | refine Zad ?_ | refine Zab ?_ _)); exact BK989.out) hb); replace HB := Zaa.mk (Zaf (zb3 HB GE988.out GE989.out) hb); (try clear hb); obtain ⟨hcz9_0, hcz9_1, hcz9_2, hcz9_3⟩ := bc4 BK988.out; obtain ⟨hfz9_0, hfz9_1, hfz9_2, hfz9_3⟩ := bf4 BK988.out; obtain ⟨hcz10_0, hcz10_1, hcz10_2, hcz10_3⟩ := bc4 BK989.out; obtain ⟨hfz10_0, hfz10_1, hfz10_2, hfz10_3⟩ := bf4 BK989.out))
 refine bodyPost_ret (results_cell_row rfl _ _ gb989 178 #[.int .u64 (Go.bits .xor .u64 t990 a1), .int .u64 t991, .int .u64 t992, .int .u64 t993] (0, 0) _ rfl (by (with_reducible repeat (first | refine Zac ?_ _ | refine Zad ?_ | refine Zab ?_ _)); refine Zaj (cs := #[.int .u64 (Go.bits .xor .u64 t990 a1), .int .u64 t991, .int .u64 t992, .int .u64 0]) ?_ 3 _ rfl; (with_reducible repeat (first | refine Zac ?_ _ | refine Zad ?_ | refine Zab ?_ _)); refine Zaj (cs := #[.int .u64 (Go.bits .xor .u64 t990 a1), .int .u64 t991, .int .u64 0, .int .u64 0]) ?_ 2 _ rfl; (with_reducible repeat (first | refine Zac ?_ _ | refine Zad ?_ | refine Zab ?_ _)); refine Zaj (cs := #[.int .u64 (Go.bits .xor .u64 t990 a1), .int .u64 0, .int .u64 0, .int .u64 0]) ?_ 1 _ rfl; (with_reducible repeat (first | refine Zac ?_ _ | refine Zad ?_ | refine Zab ?_ _)); refine Zaj (cs := #[.int .u64 0, .int .u64 0, .int .u64 0, .int .u64 0]) ?_ 0 _ rfl; (with_reducible repeat (first | refine Zac ?_ _ | refine Zad ?_ | refine Zab ?_ _)); refine Zak ?_ NB989_988.out _; (with_reducible repeat (first | refine Zac ?_ _ | refine Zad ?_ | refine Zab ?_ _)); refine Zak ?_ NB989_988.out _; (with_reducible repeat (first | refine Zac ?_ _ | refine Zad ?_ | refine Zab ?_ _)); refine Zak ?_ NB989_988.out _; (with_reducible repeat (first | refine Zac ?_ _ | refine Zad ?_ | refine Zab ?_ _)); refine Zak ?_ NB989_988.out _; (with_reducible repeat (first | refine Zac ?_ _ | refine Zad ?_ | refine Zab ?_ _)); refine Zak ?_ NB989_988.out _; (with_reducible repeat (first | refine Zac ?_ _ | refine Zad ?_ | refine Zab ?_ _)); exact BK989.out) Tryd.underlying178 rfl (by kernel_rfl)) rfl ?_
 exact ⟨by first | rfl | (simp [errW_none, errW_some] <;> rfl) | (simp [*, errW_none, errW_some] <;> rfl), (zb3 HB GE988.out GE989.out)⟩
end Go.Proofs.YtkfddpbmclbdhaaDoor.PA
end
/- (mended by gensum.py) Contracts of functions of the program: written by pr2.py (ours, round the print of the kit) out of the translation; conditions: each contract names its own. -/
section
namespace Go.Proofs.YtkfddpbmclbdhaaDoor.PA
open Go.RowKit Go.Proofs.YtkfddpbmclbdhaaDoorW.PrintWords Go.Proofs.YtkfddpbmclbdhaaDoorW.PrintLast Go.Proofs.YtkfddpbmclbdhaaDoorW.PrintMore
attribute [local go_sem] Zaz Zax Za5 Za4 Zas Zar Zay Zaw   -- for this text's walks alone
set_option linter.unusedVariables false
set_option linter.unusedSimpArgs false
def kauditref23_Sum.l0 : Nat → List Int → Int → List Int → Int → Int → Int → Int → Int → Int → Option (Int)
 | 0, _, _, _, _, _, _, _, _, _ => none
 | k + 1, x1, x6, x22, x23, x24, x996000, x996001, x996002, x996003 => if x24 < x23 then (if 0 ≤ x24 then (if x24 < (x22.length : Int) then (if 0 ≤ (wrap64 (8 * (Int.tmod x24 8))) then (if (Int.tmod x24 8) = 7 then ((kauditref23_words_take.f k x996000 x996001 x996002 x996003 (Go.bits .or .u64 x6 (shl .u64 (IntKind.u64.wrap (rd x22 x24)) (wrap64 (8 * (Int.tmod x24 8)))))).bind fun bt997 => (kauditref23_Sum.l0 k x1 0 x22 x23 (wrap64 (x24 + 1)) bt997.1 bt997.2.1 bt997.2.2.1 bt997.2.2.2)) else (kauditref23_Sum.l0 k x1 (Go.bits .or .u64 x6 (shl .u64 (IntKind.u64.wrap (rd x22 x24)) (wrap64 (8 * (Int.tmod x24 8))))) x22 x23 (wrap64 (x24 + 1)) x996000 x996001 x996002 x996003)) else (none)) else (none)) else (none)) else ((kauditref23_words_take.f k x996000 x996001 x996002 x996003 (Go.bits .or .u64 x6 (((x1.length : Int) % 256) * 72057594037927936))).bind fun bt1001 => ((kauditref23_words_rounds.f k bt1001.1 bt1001.2.1 (Go.bits .xor .u64 bt1001.2.2.1 255) bt1001.2.2.2 4).bind fun bt1005 => (some (Go.bits .xor .u64 (Go.bits .xor .u64 (Go.bits .xor .u64 bt1005.1 bt1005.2.1) bt1005.2.2.1) bt1005.2.2.2))))
def kauditref23_Sum.f (k : Nat) (a0_0 : Int) (a0_1 : Int) (l1 : List Int) : Option (Int) := kauditref23_Sum.l0 k l1 0 l1 (l1.length : Int) 0 (Go.bits .xor .u64 a0_0 8317987319222330741) (Go.bits .xor .u64 a0_1 7237128888997146477) (Go.bits .xor .u64 a0_0 7816392313619706465) (Go.bits .xor .u64 a0_1 8387220255154660723)
theorem kauditref23_Sum.mono_l : ∀ k, (∀ y0 y1 y2 y3 y4 y5 y6 y7 y8, LeO (kauditref23_Sum.l0 k y0 y1 y2 y3 y4 y5 y6 y7 y8) (kauditref23_Sum.l0 (k + 1) y0 y1 y2 y3 y4 y5 y6 y7 y8))
 | 0 => fun _ _ _ _ _ _ _ _ _ r h => by simp [kauditref23_Sum.l0] at h
 | k + 1 => by
  have ih0 := kauditref23_Sum.mono_l k
  ·intro y0 y1 y2 y3 y4 y5 y6 y7 y8
   unfold kauditref23_Sum.l0
   repeat' first
   | (with_reducible exact ih0 _ _ _ _ _ _ _ _ _)
   | (with_reducible exact kauditref23_words_rounds.mono _ _ _ _ _ _)
   | (with_reducible exact kauditref23_words_take.mono _ _ _ _ _ _)
   | (with_reducible exact LeO.refl _)
   | (with_reducible exact LeO.none _)
   | (with_reducible refine LeO.ite ?_ ?_)
   | (with_reducible refine LeO.bind ?_ (fun _ => ?_))
   | exact ih0 _ _ _ _ _ _ _ _ _
   | exact kauditref23_words_rounds.mono _ _ _ _ _ _
   | exact kauditref23_words_take.mono _ _ _ _ _ _
   | exact LeO.none _
   | refine LeO.ite ?_ ?_
   | refine LeO.bind ?_ (fun _ => ?_)
theorem kauditref23_Sum.mono : ∀ a0 a1 a2 k, LeO (kauditref23_Sum.f k a0 a1 a2) (kauditref23_Sum.f (k + 1) a0 a1 a2) := by
 intro a0 a1 a2 k
 have ih0 := kauditref23_Sum.mono_l k
 unfold kauditref23_Sum.f
 repeat' first
   | (with_reducible exact ih0 _ _ _ _ _ _ _ _ _)
   | (with_reducible exact kauditref23_words_rounds.mono _ _ _ _ _ _)
   | (with_reducible exact kauditref23_words_take.mono _ _ _ _ _ _)
   | (with_reducible exact LeO.refl _)
   | (with_reducible exact LeO.none _)
   | (with_reducible refine LeO.ite ?_ ?_)
   | (with_reducible refine LeO.bind ?_ (fun _ => ?_))
   | exact ih0 _ _ _ _ _ _ _ _ _
   | exact kauditref23_words_rounds.mono _ _ _ _ _ _
   | exact kauditref23_words_take.mono _ _ _ _ _ _
   | exact LeO.none _
   | refine LeO.ite ?_ ?_
   | refine LeO.bind ?_ (fun _ => ?_)
set_option maxHeartbeats 8000000 in
set_option maxRecDepth 100000 in
theorem kauditref23_Sum.calls (k : Nat) (a0_0 : Int) (a0_1 : Int) (A1 : Option Addr) (c1 : Nat) (l1 : List Int) (r : Int) (w : World) (hr1 : Kd.C (Kd.int .u8) w A1 l1.length l1) (hc1 : l1.length ≤ c1) (h : kauditref23_Sum.f k a0_0 a0_1 l1 = some r) :
  Calls Tryd.prog 132 #[.agg #[.int .u64 a0_0, .int .u64 a0_1], .slice A1 l1.length c1] w fun e w' => e = .returned (.int .u64 r) ∧ Below w.heap.size w w' := by
 have hu80 := Tryd.underlying80
 have hu178 := Tryd.underlying178
 have HR1 := Zaa.mk hr1
 have HC1 := Zaa.mk hc1
 clear hr1 hc1
 have HB := Zaa.mk (Below.refl w.heap.size w)
 unfold kauditref23_Sum.f at h
 have H := h
 clear h
 have H' := Zaa.mk H
 clear H
 go_enter Tryd.func132, Tryd.ntmps132
 go_wp2_with (first | ((with_reducible refine Zao (N := 2) rfl ?_); refine Zap ?hg (N := 2) ?hd (cs := #[.int .u64 a0_0, .int .u64 a0_1]) (t := 80) ?hr ?_; (case hd => rfl); (case hg => rfl); (case hr => first | (go_simp; done) | (go_simp; rfl)); intro gb994 hg w3 hbox hb; have BK994 := Zaa.mk (hbox); have GW994 := Zaa.mk ((by rw [hg]; exact (Zae (zb1 HB)) : w.heap.size ≤ gb994)); have GE994 := Zaa.mk ((by rw [hg]; exact (Zae (zb1 HB)) : w.heap.size ≤ gb994)); replace HB := Zaa.mk (Zaf (zb1 HB) hb); clear hb hbox hg; obtain ⟨hcz4_0, hcz4_1⟩ := bc2 BK994.out; obtain ⟨hfz4_0, hfz4_1⟩ := bf2 BK994.out) | ((with_reducible refine Zao (N := 5) rfl ?_); refine Zap ?hg (N := 5) ?hd (cs := #[.int .u64 0, .int .u64 0, .int .u64 0, .int .u64 0]) (t := 178) ?hr ?_; (case hd => rfl); (case hg => rfl); (case hr => first | (go_simp; done) | (go_simp; rfl)); intro gb995 hg w5 hbox hb; have BK995 := Zaa.mk (hbox); have GW995 := Zaa.mk ((by rw [hg]; exact (Zae (zb2 HB GE994.out)) : w.heap.size ≤ gb995)); have GE995 := Zaa.mk ((by rw [hg]; exact (Zae (zb2 HB GE994.out)) : w.heap.size ≤ gb995)); replace HB := Zaa.mk (Zaf (zb2 HB GE994.out) hb); have NB994_995 := Zaa.mk ((by rw [hg]; exact Nat.ne_of_lt (Za1 (g := gb994) (o := .cells #[.int .u64 a0_0, .int .u64 a0_1] 80 (0, 0)) (zbk BK994)) : gb994 ≠ gb995)); have NB995_994 := Zaa.mk ((by rw [hg]; exact Nat.ne_of_gt (Za1 (g := gb994) (o := .cells #[.int .u64 a0_0, .int .u64 a0_1] 80 (0, 0)) (zbk BK994)) : gb995 ≠ gb994)); replace BK994 := Zaa.mk (Zah (g := gb994) (o := .cells #[.int .u64 a0_0, .int .u64 a0_1] 80 (0, 0)) (zbk BK994) hb); clear hb hbox hg; have hnb6 := NB995_994.out; have hnc6 := NB994_995.out; obtain ⟨hcz7_0, hcz7_1, hcz7_2, hcz7_3⟩ := bc4 BK995.out; obtain ⟨hfz7_0, hfz7_1, hfz7_2, hfz7_3⟩ := bf4 BK995.out))
 go_loopg [6, 24] k (fun kq v6 v24 w' => ∃ (x6_1 : Int) (x24_1 : Int) (x996000_1 : Int) (x996001_1 : Int) (x996002_1 : Int) (x996003_1 : Int), v6 = .int .u64 x6_1 ∧ v24 = .int .i64 x24_1 ∧ Zaa (kauditref23_Sum.l0 kq l1 x6_1 l1 (l1.length : Int) x24_1 x996000_1 x996001_1 x996002_1 x996003_1 = some r) ∧ Zaa (kq ≤ k) ∧ Zaa (w'.heap[gb994]? = some (.cells #[.int .u64 a0_0, .int .u64 a0_1] 80 (0, 0))) ∧ Zaa (w'.heap[gb995]? = some (.cells #[.int .u64 x996000_1, .int .u64 x996001_1, .int .u64 x996002_1, .int .u64 x996003_1] 178 (0, 0))) ∧ Zaa (Below w.heap.size w w'))
 case atStart => exact ⟨(0), (0), (Go.bits .xor .u64 a0_0 8317987319222330741), (Go.bits .xor .u64 a0_1 7237128888997146477), (Go.bits .xor .u64 a0_0 7816392313619706465), (Go.bits .xor .u64 a0_1 8387220255154660723), (by first | rfl | (simp; done) | (simp [*]; done)), (by first | rfl | (simp; done) | (simp [*]; done)), H', ⟨Nat.le_refl _⟩, ⟨by (with_reducible repeat (first | refine Zac ?_ _ | refine Zad ?_ | refine Zab ?_ _)); refine Zak ?_ NB994_995.out _; (with_reducible repeat (first | refine Zac ?_ _ | refine Zad ?_ | refine Zab ?_ _)); refine Zak ?_ NB994_995.out _; (with_reducible repeat (first | refine Zac ?_ _ | refine Zad ?_ | refine Zab ?_ _)); refine Zak ?_ NB994_995.out _; (with_reducible repeat (first | refine Zac ?_ _ | refine Zad ?_ | refine Zab ?_ _)); refine Zak ?_ NB994_995.out _; (with_reducible repeat (first | refine Zac ?_ _ | refine Zad ?_ | refine Zab ?_ _)); exact BK994.out⟩, ⟨by (with_reducible repeat (first | refine Zac ?_ _ | refine Zad ?_ | refine Zab ?_ _)); refine Zaj (cs := #[.int .u64 (Go.bits .xor .u64 a0_0 8317987319222330741), .int .u64 (Go.bits .xor .u64 a0_1 7237128888997146477), .int .u64 (Go.bits .xor .u64 a0_0 7816392313619706465), .int .u64 0]) ?_ 3 _ rfl; (with_reducible repeat (first | refine Zac ?_ _ | refine Zad ?_ | refine Zab ?_ _)); refine Zaj (cs := #[.int .u64 (Go.bits .xor .u64 a0_0 8317987319222330741), .int .u64 (Go.bits .xor .u64 a0_1 7237128888997146477), .int .u64 0, .int .u64 0]) ?_ 2 _ rfl; (with_reducible repeat (first | refine Zac ?_ _ | refine Zad ?_ | refine Zab ?_ _)); refine Zaj (cs := #[.int .u64 (Go.bits .xor .u64 a0_0 8317987319222330741), .int .u64 0, .int .u64 0, .int .u64 0]) ?_ 1 _ rfl; (with_reducible repeat (first | refine Zac ?_ _ | refine Zad ?_ | refine Zab ?_ _)); refine Zaj (cs := #[.int .u64 0, .int .u64 0, .int .u64 0, .int .u64 0]) ?_ 0 _ rfl; (with_reducible repeat (first | refine Zac ?_ _ | refine Zad ?_ | refine Zab ?_ _)); exact BK995.out⟩, ⟨(zb3 HB GE994.out GE995.out)⟩⟩
 case round =>
  clear H'
  (try clear c1)
  (try clear hcz4_0)
  (try clear hcz4_1)
  (try clear hcz7_0)
  (try clear hcz7_1)
  (try clear hcz7_2)
  (try clear hcz7_3)
  (try clear hfz4_0)
  (try clear hfz4_1)
  (try clear hfz7_0)
  (try clear hfz7_1)
  (try clear hfz7_2)
  (try clear hfz7_3)
  obtain ⟨x6_1, x24_1, x996000_1, x996001_1, x996002_1, x996003_1, rfl, rfl, HA, HK1, BK994, BK995, HB⟩ := hrel
  cases gk with
  | zero => exact absurd HA.out (by simp [kauditref23_Sum.l0])
  | succ k1 =>
   have H := HA.out
   clear HA
   simp only [kauditref23_Sum.l0] at H
   by_cases c8 : x24_1 < (l1.length : Int)
   ·rw [if_pos c8] at H
    have c8b0 : decide (x24_1 < (l1.length : Int)) = true := decide_eq_true c8
    clear c8
    by_cases c9 : 0 ≤ x24_1
    ·rw [if_pos c9] at H
     have c9b0 : decide (0 ≤ x24_1) = true := decide_eq_true c9
     clear c9
     by_cases c10 : x24_1 < (l1.length : Int)
     ·rw [if_pos c10] at H
      have c10b0 : decide (x24_1 < (l1.length : Int)) = true := decide_eq_true c10
      clear c10
      obtain ⟨ji11, hji11⟩ : ∃ j_ : Int, (wrap64 (8 * (Int.tmod x24_1 8))) = j_ := ⟨_, rfl⟩
      replace H : (if 0 ≤ (ji11) then (if (Int.tmod x24_1 8) = 7 then ((kauditref23_words_take.f k1 x996000_1 x996001_1 x996002_1 x996003_1 (Go.bits .or .u64 x6_1 (shl .u64 (IntKind.u64.wrap (rd l1 x24_1)) (ji11)))).bind fun bt997 => (kauditref23_Sum.l0 k1 l1 0 l1 (l1.length : Int) (wrap64 (x24_1 + 1)) bt997.1 bt997.2.1 bt997.2.2.1 bt997.2.2.2)) else (kauditref23_Sum.l0 k1 l1 (Go.bits .or .u64 x6_1 (shl .u64 (IntKind.u64.wrap (rd l1 x24_1)) (ji11))) l1 (l1.length : Int) (wrap64 (x24_1 + 1)) x996000_1 x996001_1 x996002_1 x996003_1)) else (none)) = some r := by first | (rw [hji11] at H; exact H) | (simp only [hji11] at H ⊢; exact H)
      have hji11w : (IntKind.i64.wrap (8 * (Int.tmod x24_1 8))) = ji11 := (Zav _).trans hji11
      by_cases c12 : 0 ≤ (ji11)
      ·rw [if_pos c12] at H
       have c12b0 := eq_true c12
       have c12b1 : decide (0 ≤ (ji11)) = true := decide_eq_true c12
       clear c12
       obtain ⟨ji13, hji13⟩ : ∃ j_ : Int, (shl .u64 (IntKind.u64.wrap (rd l1 x24_1)) (ji11)) = j_ := ⟨_, rfl⟩
       replace H : (if (Int.tmod x24_1 8) = 7 then ((kauditref23_words_take.f k1 x996000_1 x996001_1 x996002_1 x996003_1 (Go.bits .or .u64 x6_1 (ji13))).bind fun bt997 => (kauditref23_Sum.l0 k1 l1 0 l1 (l1.length : Int) (wrap64 (x24_1 + 1)) bt997.1 bt997.2.1 bt997.2.2.1 bt997.2.2.2)) else (kauditref23_Sum.l0 k1 l1 (Go.bits .or .u64 x6_1 (ji13)) l1 (l1.length : Int) (wrap64 (x24_1 + 1)) x996000_1 x996001_1 x996002_1 x996003_1)) = some r := by first | (rw [hji13] at H; exact H) | (simp only [hji13] at H ⊢; exact H)
       have hji13_ : (IntKind.u64.wrap ((IntKind.u64.wrap (rd l1 x24_1)) * 2 ^ min (ji11).toNat 64)) = ji13 := hji13
       have hji13z : (ji11) ≤ 64 → (IntKind.u64.wrap ((IntKind.u64.wrap (rd l1 x24_1)) * 2 ^ (ji11).toNat)) = ji13 := shl_small hji13
       by_cases c14 : (Int.tmod x24_1 8) = 7
       ·rw [if_pos c14] at H
        have c14b0 : ((Int.tmod x24_1 8) == 7) = true := beq_iff_eq.mpr c14
        have c14b1 : ((Int.tmod x24_1 8) != 7) = false := bne_eq_false_iff_eq.mpr c14
        clear c14
        replace H := Option.bind_eq_some_iff.mp H
        obtain ⟨⟨t997, t998, t999, t1000⟩, A150, H⟩ := H
        try dsimp only at H
        have A15 := Zaa.mk A150
        clear A150
        have H' := Zaa.mk H
        clear H
        have p996 : 0 ≤ (x24_1 : Int) := zod
        have q996 : x24_1 < (l1.length : Int) := zod
        obtain ⟨ad996, e996, hx996_0⟩ := Kd.at_int HR1.out x24_1 p996 q996
        cases e996
        replace hx996_0 := (HB.out.cell (World.block_lt_of_cell? w _ hx996_0)).trans hx996_0
        replace p996 := eq_true p996
        replace q996 := eq_true q996
        have hnb16 := NB995_994.out
        have hnc16 := NB994_995.out
        obtain ⟨hcz17_0, hcz17_1, hcz17_2, hcz17_3⟩ := bc4 BK995.out
        obtain ⟨hfz17_0, hfz17_1, hfz17_2, hfz17_3⟩ := bf4 BK995.out
        go_wp2_with (first | ((with_reducible refine Zal (f := 151) rfl ?_); refine Za2 (some 42) rfl rfl Tryd.func151 (by kernel_rfl) rfl #[.agg #[.int .u64 x996000_1, .int .u64 x996001_1, .int .u64 x996002_1, .int .u64 x996003_1], .int .u64 (Go.bits .or .u64 x6_1 (ji13))] rfl (by (try simp only [List.map_toArray, List.map_cons, List.map_nil]); first | done | (simp only [hji13]; rfl) | rfl | (simp only [List.length_drop, List.length_take]; rfl)) ?_; (with_reducible refine (kauditref23_words_take.calls k1 x996000_1 x996001_1 x996002_1 x996003_1 (Go.bits .or .u64 x6_1 (ji13)) t997 t998 t999 t1000 _ A15.out).mono ?_); rintro e w18 ⟨rfl, hb⟩; refine ⟨_, rfl, ?_⟩; replace BK994 := Zaa.mk (Zah (g := gb994) (o := .cells #[.int .u64 a0_0, .int .u64 a0_1] 80 (0, 0)) (zbk BK994) hb); replace BK995 := Zaa.mk (Zah (g := gb995) (o := .cells #[.int .u64 x996000_1, .int .u64 x996001_1, .int .u64 x996002_1, .int .u64 x996003_1] 178 (0, 0)) (zbk BK995) hb); replace HB := Zaa.mk (Zaf (zb3 HB GE994.out GE995.out) hb); (try clear hb); obtain ⟨hcz19_0, hcz19_1, hcz19_2, hcz19_3⟩ := bc4 BK995.out; obtain ⟨hfz19_0, hfz19_1, hfz19_2, hfz19_3⟩ := bf4 BK995.out))
        go_roundg k1
        case measure => have := HK1.out; omega
        case rel => exact ⟨(0), (wrap64 (x24_1 + 1)), (t997), (t998), (t999), (t1000), (by first | rfl | (simp; done) | (simp [*]; done)), (by first | rfl | (simp; done) | (simp [*]; done)), H', ⟨by have := HK1.out; omega⟩, ⟨by (with_reducible repeat (first | refine Zac ?_ _ | refine Zad ?_ | refine Zab ?_ _)); refine Zak ?_ NB994_995.out _; (with_reducible repeat (first | refine Zac ?_ _ | refine Zad ?_ | refine Zab ?_ _)); refine Zak ?_ NB994_995.out _; (with_reducible repeat (first | refine Zac ?_ _ | refine Zad ?_ | refine Zab ?_ _)); refine Zak ?_ NB994_995.out _; (with_reducible repeat (first | refine Zac ?_ _ | refine Zad ?_ | refine Zab ?_ _)); refine Zak ?_ NB994_995.out _; (with_reducible repeat (first | refine Zac ?_ _ | refine Zad ?_ | refine Zab ?_ _)); exact BK994.out⟩, ⟨by (with_reducible repeat (first | refine Zac ?_ _ | refine Zad ?_ | refine Zab ?_ _)); refine Zaj (cs := #[.int .u64 t997, .int .u64 t998, .int .u64 t999, .int .u64 x996003_1]) ?_ 3 _ rfl; (with_reducible repeat (first | refine Zac ?_ _ | refine Zad ?_ | refine Zab ?_ _)); refine Zaj (cs := #[.int .u64 t997, .int .u64 t998, .int .u64 x996002_1, .int .u64 x996003_1]) ?_ 2 _ rfl; (with_reducible repeat (first | refine Zac ?_ _ | refine Zad ?_ | refine Zab ?_ _)); refine Zaj (cs := #[.int .u64 t997, .int .u64 x996001_1, .int .u64 x996002_1, .int .u64 x996003_1]) ?_ 1 _ rfl; (with_reducible repeat (first | refine Zac ?_ _ | refine Zad ?_ | refine Zab ?_ _)); refine Zaj (cs := #[.int .u64 x996000_1, .int .u64 x996001_1, .int .u64 x996002_1, .int .u64 x996003_1]) ?_ 0 _ rfl; (with_reducible repeat (first | refine Zac ?_ _ | refine Zad ?_ | refine Zab ?_ _)); exact BK995.out⟩, ⟨(zb3 HB GE994.out GE995.out)⟩⟩
       ·rw [if_neg c14] at H
        have c14b0 : ((Int.tmod x24_1 8) == 7) = false := beq_eq_false_iff_ne.mpr c14
        have c14b1 : ((Int.tmod x24_1 8) != 7) = true := bne_iff_ne.mpr c14
        have H' := Zaa.mk H
        clear H
        have p996 : 0 ≤ (x24_1 : Int) := zod
        have q996 : x24_1 < (l1.length : Int) := zod
        obtain ⟨ad996, e996, hx996_0⟩ := Kd.at_int HR1.out x24_1 p996 q996
        cases e996
        replace hx996_0 := (HB.out.cell (World.block_lt_of_cell? w _ hx996_0)).trans hx996_0
        replace p996 := eq_true p996
        replace q996 := eq_true q996
        go_wp2
        go_roundg k1
        case measure => have := HK1.out; omega
        case rel => exact ⟨(Go.bits .or .u64 x6_1 (ji13)), (wrap64 (x24_1 + 1)), (x996000_1), (x996001_1), (x996002_1), (x996003_1), (by first | rfl | (simp; done) | (simp only [← hji13] <;> (first | rfl | simp)) | (simp [*]; done)), (by first | rfl | (simp; done) | (simp [*]; done)), H', ⟨by have := HK1.out; omega⟩, ⟨by (with_reducible repeat (first | refine Zac ?_ _ | refine Zad ?_ | refine Zab ?_ _)); exact BK994.out⟩, ⟨by (with_reducible repeat (first | refine Zac ?_ _ | refine Zad ?_ | refine Zab ?_ _)); exact BK995.out⟩, ⟨(zb3 HB GE994.out GE995.out)⟩⟩
      ·rw [if_neg c12] at H
       exact absurd H (by simp)
     ·rw [if_neg c10] at H
      exact absurd H (by simp)
    ·rw [if_neg c9] at H
     exact absurd H (by simp)
   ·rw [if_neg c8] at H
    have c8b0 : decide (x24_1 < (l1.length : Int)) = false := decide_eq_false c8
    clear c8
    replace H := Option.bind_eq_some_iff.mp H
    obtain ⟨⟨t1001, t1002, t1003, t1004⟩, A200, H⟩ := H
    try dsimp only at H
    have A20 := Zaa.mk A200
    clear A200
    replace H := Option.bind_eq_some_iff.mp H
    obtain ⟨⟨t1005, t1006, t1007, t1008⟩, A210, H⟩ := H
    try dsimp only at H
    have A21 := Zaa.mk A210
    clear A210
    obtain rfl := Option.some.inj H
    have hnb22 := NB995_994.out
    have hnc22 := NB994_995.out
    obtain ⟨hcz23_0, hcz23_1, hcz23_2, hcz23_3⟩ := bc4 BK995.out
    obtain ⟨hfz23_0, hfz23_1, hfz23_2, hfz23_3⟩ := bf4 BK995.out
    go_upto_region 12 with (first | ((with_reducible refine Zal (f := 151) rfl ?_); refine Za2 (some 52) rfl rfl Tryd.func151 (by kernel_rfl) rfl #[.agg #[.int .u64 x996000_1, .int .u64 x996001_1, .int .u64 x996002_1, .int .u64 x996003_1], .int .u64 (Go.bits .or .u64 x6_1 (((l1.length : Int) % 256) * 72057594037927936))] rfl zam ?_; (with_reducible refine (kauditref23_words_take.calls k1 x996000_1 x996001_1 x996002_1 x996003_1 (Go.bits .or .u64 x6_1 (((l1.length : Int) % 256) * 72057594037927936)) t1001 t1002 t1003 t1004 _ A20.out).mono ?_); rintro e w24 ⟨rfl, hb⟩; refine ⟨_, rfl, ?_⟩; replace BK994 := Zaa.mk (Zah (g := gb994) (o := .cells #[.int .u64 a0_0, .int .u64 a0_1] 80 (0, 0)) (zbk BK994) hb); replace BK995 := Zaa.mk (Zah (g := gb995) (o := .cells #[.int .u64 x996000_1, .int .u64 x996001_1, .int .u64 x996002_1, .int .u64 x996003_1] 178 (0, 0)) (zbk BK995) hb); replace HB := Zaa.mk (Zaf (zb3 HB GE994.out GE995.out) hb); (try clear hb); obtain ⟨hcz25_0, hcz25_1, hcz25_2, hcz25_3⟩ := bc4 BK995.out; obtain ⟨hfz25_0, hfz25_1, hfz25_2, hfz25_3⟩ := bf4 BK995.out))
    (try simp only [Act.put, List.setIfInBounds_toArray, List.set_cons_zero, List.set_cons_succ])
    have n1_ := Zaa.mk (show (((((w24.setCell ⟨gb995, 0, none⟩ (.int .u64 t1001)).setCell ⟨gb995, 1, none⟩ (.int .u64 t1002)).setCell ⟨gb995, 2, none⟩ (.int .u64 t1003)).setCell ⟨gb995, 3, none⟩ (.int .u64 t1004)).setCell ⟨gb995, 2, none⟩ (.int .u64 (Go.bits .xor .u64 t1003 255))).heap[gb995]? = some (.cells #[.int .u64 t1001, .int .u64 t1002, .int .u64 (Go.bits .xor .u64 t1003 255), .int .u64 t1004] 178 (0, 0)) from (by refine Zaj (cs := #[.int .u64 t1001, .int .u64 t1002, .int .u64 t1003, .int .u64 t1004]) ?_ 2 _ rfl; refine Zaj (cs := #[.int .u64 t1001, .int .u64 t1002, .int .u64 t1003, .int .u64 x996003_1]) ?_ 3 _ rfl; refine Zaj (cs := #[.int .u64 t1001, .int .u64 t1002, .int .u64 x996002_1, .int .u64 x996003_1]) ?_ 2 _ rfl; refine Zaj (cs := #[.int .u64 t1001, .int .u64 x996001_1, .int .u64 x996002_1, .int .u64 x996003_1]) ?_ 1 _ rfl; refine Zaj (cs := #[.int .u64 x996000_1, .int .u64 x996001_1, .int .u64 x996002_1, .int .u64 x996003_1]) ?_ 0 _ rfl; exact BK995.out))
    have n2_ := Zaa.mk (show Below w.heap.size w (((((w24.setCell ⟨gb995, 0, none⟩ (.int .u64 t1001)).setCell ⟨gb995, 1, none⟩ (.int .u64 t1002)).setCell ⟨gb995, 2, none⟩ (.int .u64 t1003)).setCell ⟨gb995, 3, none⟩ (.int .u64 t1004)).setCell ⟨gb995, 2, none⟩ (.int .u64 (Go.bits .xor .u64 t1003 255))) from (zb5 HB GE995.out))
    generalize (((((w24.setCell ⟨gb995, 0, none⟩ (.int .u64 t1001)).setCell ⟨gb995, 1, none⟩ (.int .u64 t1002)).setCell ⟨gb995, 2, none⟩ (.int .u64 t1003)).setCell ⟨gb995, 3, none⟩ (.int .u64 t1004)).setCell ⟨gb995, 2, none⟩ (.int .u64 (Go.bits .xor .u64 t1003 255))) = wz_ at n1_ n2_ ⊢
    clear BK995 HB BK994
    have BK995 := n1_
    have HB := n2_
    clear n1_ n2_
    have hcz_0 : wz_.cell? ⟨gb995, 0, none⟩ = some (.int .u64 t1001) := (Zai BK995.out 0).trans rfl
    have hfz_0 := Zau BK995.out 0
    have hcz_1 : wz_.cell? ⟨gb995, 1, none⟩ = some (.int .u64 t1002) := (Zai BK995.out 1).trans rfl
    have hfz_1 := Zau BK995.out 1
    have hcz_2 : wz_.cell? ⟨gb995, 2, none⟩ = some (.int .u64 (Go.bits .xor .u64 t1003 255)) := (Zai BK995.out 2).trans rfl
    have hfz_2 := Zau BK995.out 2
    have hcz_3 : wz_.cell? ⟨gb995, 3, none⟩ = some (.int .u64 t1004) := (Zai BK995.out 3).trans rfl
    have hfz_3 := Zau BK995.out 3
    go_wp2_with (first | ((with_reducible refine Zal (f := 152) rfl ?_); refine Za2 (some 58) rfl rfl Tryd.func152 (by kernel_rfl) rfl #[.agg #[.int .u64 t1001, .int .u64 t1002, .int .u64 (Go.bits .xor .u64 t1003 255), .int .u64 t1004], .int .i64 4] rfl zam ?_; (with_reducible refine (kauditref23_words_rounds.calls k1 t1001 t1002 (Go.bits .xor .u64 t1003 255) t1004 4 t1005 t1006 t1007 t1008 _ A21.out).mono ?_); rintro e w26 ⟨rfl, hb⟩; refine ⟨_, rfl, ?_⟩; have n1_ := Zaa.mk (Zah (g := gb995) (o := .cells #[.int .u64 t1001, .int .u64 t1002, .int .u64 (Go.bits .xor .u64 t1003 255), .int .u64 t1004] 178 (0, 0)) BK995.out hb); have n2_ := Zaa.mk (Zaf HB.out hb); clear BK995 HB; have BK995 := n1_; have HB := n2_; clear n1_ n2_; (try clear hb); obtain ⟨hcz27_0, hcz27_1, hcz27_2, hcz27_3⟩ := bc4 BK995.out; obtain ⟨hfz27_0, hfz27_1, hfz27_2, hfz27_3⟩ := bf4 BK995.out))
    go_ret
    exact ⟨by first | rfl | (simp [errW_none, errW_some] <;> rfl) | (simp [*, errW_none, errW_some] <;> rfl), (zb3 HB GE994.out GE995.out)⟩
end Go.Proofs.YtkfddpbmclbdhaaDoor.PA
end
section
namespace Go.Proofs.YtkfddpbmclbdhaaDoor.PA
open Go.RowKit Go.Proofs.YtkfddpbmclbdhaaDoorW.PrintWords Go.Proofs.YtkfddpbmclbdhaaDoorW.PrintLast Go.Proofs.YtkfddpbmclbdhaaDoorW.PrintMore
attribute [local go_sem] Zaz Zax Za5 Za4 Zas Zar Zay Zaw   -- for this text's walks alone
set_option linter.unusedVariables false
set_option linter.unusedSimpArgs false
def kauditref23_Chain.f (k : Nat) (a0_0 : Int) (a0_1 : Int) (a1 : Int) (l2 : List Int) : Option (Int) := (kauditref23_Put.f k a1).bind fun t1010 => (if t1010.length + l2.length < 140737488355328 then ((kauditref23_Sum.f k a0_0 a0_1 (t1010 ++ l2)).bind fun t1016 => (some t1016)) else (none))
theorem kauditref23_Chain.mono : ∀ a0 a1 a2 a3 k, LeO (kauditref23_Chain.f k a0 a1 a2 a3) (kauditref23_Chain.f (k + 1) a0 a1 a2 a3) := by
 intro a0 a1 a2 a3 k
 unfold kauditref23_Chain.f
 repeat' first
   | (with_reducible exact kauditref23_Put.mono _ _)
   | (with_reducible exact kauditref23_Sum.mono _ _ _ _)
   | (with_reducible exact LeO.refl _)
   | (with_reducible exact LeO.none _)
   | (with_reducible refine LeO.ite ?_ ?_)
   | (with_reducible refine LeO.bind ?_ (fun _ => ?_))
   | exact kauditref23_Put.mono _ _
   | exact kauditref23_Sum.mono _ _ _ _
   | exact LeO.none _
   | refine LeO.ite ?_ ?_
   | refine LeO.bind ?_ (fun _ => ?_)
set_option maxHeartbeats 8000000 in
set_option maxRecDepth 100000 in
theorem kauditref23_Chain.calls (k : Nat) (a0_0 : Int) (a0_1 : Int) (a1 : Int) (A2 : Option Addr) (c2 : Nat) (l2 : List Int) (r : Int) (w : World) (hr2 : Kd.C (Kd.int .u8) w A2 l2.length l2) (hc2 : l2.length ≤ c2) (h : kauditref23_Chain.f k a0_0 a0_1 a1 l2 = some r) :
  Calls Tryd.prog 109 #[.agg #[.int .u64 a0_0, .int .u64 a0_1], .int .u64 a1, .slice A2 l2.length c2] w fun e w' => e = .returned (.int .u64 r) ∧ Below w.heap.size w w' := by
 have hu80 := Tryd.underlying80
 have HR2 := Zaa.mk hr2
 have HC2 := Zaa.mk hc2
 clear hr2 hc2
 have HB := Zaa.mk (Below.refl w.heap.size w)
 unfold kauditref23_Chain.f at h
 have H := h
 clear h
 replace H := Option.bind_eq_some_iff.mp H
 obtain ⟨t1010, A40, H⟩ := H
 try dsimp only at H
 have A4 := Zaa.mk A40
 clear A40
 by_cases c5 : t1010.length + l2.length < 140737488355328
 ·rw [if_pos c5] at H
  have LMc5 := Zaa.mk c5
  clear c5
  obtain ⟨y1013, hy1013⟩ : ∃ y_ : List Int, y_ = (t1010 ++ l2) := ⟨_, rfl⟩
  replace H : ((kauditref23_Sum.f k a0_0 a0_1 y1013).bind fun t1016 => (some t1016)) = some r := by first | (rw [hy1013]; with_reducible exact H) | (have H2_ := (Option.bind_some _ _).symm.trans H; rw [hy1013]; with_reducible exact H2_) | (have H2_ := (Option.bind_some _ _).symm.trans H; with_reducible exact H2_) | with_reducible exact H | (rw [hy1013]; exact H) | exact H
  have Ny1013 := Zaa.mk hy1013
  clear hy1013
  replace H := Option.bind_eq_some_iff.mp H
  obtain ⟨t1016, A60, H⟩ := H
  try dsimp only at H
  have A6 := Zaa.mk A60
  clear A60
  obtain rfl := Option.some.inj H
  go_enter Tryd.func109, Tryd.ntmps109
  try go_wp2_with (first | ((with_reducible refine Zao (N := 3) rfl ?_); refine Zap ?hg (N := 3) ?hd (cs := #[.int .u64 a0_0, .int .u64 a0_1]) (t := 80) ?hr ?_; (case hd => rfl); (case hg => rfl); (case hr => first | (go_simp; done) | (go_simp; rfl)); intro gb1009 hg w7 hbox hb; have BK1009 := Zaa.mk (hbox); have GW1009 := Zaa.mk ((by rw [hg]; exact (Zae (zb1 HB)) : w.heap.size ≤ gb1009)); have GE1009 := Zaa.mk ((by rw [hg]; exact (Zae (zb1 HB)) : w.heap.size ≤ gb1009)); replace HB := Zaa.mk (Zaf (zb1 HB) hb); clear hb hbox hg))
  replace BK1009 := Zaa.mk (Zad BK1009.out)
  replace HB := Zaa.mk (Zaq HB.out)
  refine start_ (n := 7) (S := fun w' => w'.cell? ⟨gb1009, 0, none⟩ = some (.int .u64 a0_0) ∧ w'.cell? ⟨gb1009, 1, none⟩ = some (.int .u64 a0_1)) (ds := []) #[false, false, false, false, false, false, false] (by kernel_rfl) rfl rfl ⟨(Zai BK1009.out 0).trans rfl, (Zai BK1009.out 1).trans rfl⟩ (fun hHeld => ?_)
  generalize w7.drew = w8 at BK1009 HB hHeld ⊢
  refine Za8 (i := 1) (N := some 8) (v := ?_) (a' := ?_) #[false, true, false, false, false, false, false] rfl rfl (by kernel_rfl) (fun _ _ _ h => h) (Or.inl ⟨by rfl, ?_⟩) ?_ ?_
  rotate_left
  ·intro w'
   go_simp
   with_reducible rfl
  rotate_left
  ·simp only [Act.put, List.setIfInBounds_toArray, List.set_cons_zero, List.set_cons_succ, Zav, Za0]
   rfl
  refine Za8 (i := 3) (N := some 10) (v := ?_) (a' := ?_) #[false, true, false, true, false, false, false] rfl rfl (by kernel_rfl) (fun _ _ _ h => h) (Or.inl ⟨by rfl, ?_⟩) ?_ ?_
  rotate_left
  ·intro w'
   go_simp
   with_reducible rfl
  rotate_left
  ·simp only [Act.put, List.setIfInBounds_toArray, List.set_cons_zero, List.set_cons_succ, Zav, Za0]
   rfl
  refine take_ (i := 0) (N := some 7) (v := ?_) (a' := ?_) #[true, true, false, true, false, false, false] rfl rfl (by kernel_rfl) (fun _ _ _ h => h) (Or.inl ⟨by rfl, ?_⟩) hHeld ?_ ?_
  rotate_left
  ·rintro w' ⟨s0, s1⟩
   go_simp
   with_reducible rfl
  rotate_left
  ·simp only [Act.put, List.setIfInBounds_toArray, List.set_cons_zero, List.set_cons_succ, Zav, Za0]
   rfl
  refine one_ (i := 2) (N := some 9) #[true, true, true, true, false, false, false] rfl rfl (by kernel_rfl) (by decide) (fun K hK => ?_)
  refine goes_ Tryd.func110 (by kernel_rfl) rfl #[.int .u64 a1] (by rfl) rfl rfl zam ?_
  with_reducible refine (kauditref23_Put.calls k a1 t1010 _ A4.out).mono ?_
  rintro e w9 ⟨v1011, rfl, ho0, hb⟩
  refine ⟨_, rfl, ?_⟩
  have HO1012 := Zaa.mk (Kd.R_lower ho0 (Zae (zb2 HB GE1009.out)))
  replace BK1009 := Zaa.mk (Zah (g := gb1009) (o := .cells #[.int .u64 a0_0, .int .u64 a0_1] 80 (0, 0)) (zbk BK1009) hb)
  replace HB := Zaa.mk (Zaf (zb2 HB GE1009.out) hb)
  (try clear hb)
  (try clear ho0)
  refine hK.out _ _ ⟨(Zai BK1009.out 0).trans rfl, (Zai BK1009.out 1).trans rfl⟩ (fun hHeld => ?_)
  clear hK K
  refine norm_ (a' := ?_) ?_ ?_
  rotate_left
  ·show Act.put _ (some 9) _ = _
   simp only [Act.put, List.setIfInBounds_toArray, List.set_cons_zero, List.set_cons_succ, Zav, Za0]
   rfl
  refine one_ (i := 4) (N := some 11) #[true, true, true, true, true, false, false] rfl rfl (by kernel_rfl) (by decide) (fun K hK => ?_)
  refine Kd.R_append_rows_step (Kd.int .u8) (w0 := w) w.heap.size (by rfl) (.tmp 9) (.tmp 10) 28 5 (.int .u8 0) 1 rfl Tryd.underlying28 info5 rfl (by decide) (by omega) v1011 t1010 l2 _ _ _ (fun _ => True) (fun _ => False) rfl rfl ?aO ?aR (fun _ _ h => h) (fun _ h => h.elim) ?aF ?aB ?aS ?aL ?_
  (case aR => repeat (first | exact (Kd.C_below HR2.out HB.out) | (with_reducible refine Kd.C_alloc ?_ _) | (with_reducible refine Kd.C_drewN ?_ _) | (with_reducible refine Kd.C_drew ?_)))
  (case aB => exact (zb2 HB GE1009.out))
  (case aF => exact (fun _ _ => trivial))
  (case aO => exact (zrk HO1012))
  (case aS => exact (Zae (zb2 HB GE1009.out)))
  (case aL => have := LMc5.out; omega)
  intro v1014 w10 ho hb hg hat
  rw [← Ny1013.out] at ho
  replace BK1009 := Zaa.mk (Zbl (g := gb1009) (o := .cells #[.int .u64 a0_0, .int .u64 a0_1] 80 (0, 0)) (zbk BK1009) hg (Kd.R_ne HO1012.out BK1009.out (by decide)))
  replace HB := Zaa.mk (hb)
  have HO1015 := Zaa.mk (ho)
  clear HO1012 ho hb hg hat
  obtain ⟨Ao11, co11, eo11⟩ := Kd.R_slice HO1015.out
  (first | subst eo11 | (injection eo11 with f1_ f2_ f3_; have f4_ := f1_.symm; have f5_ := f3_.symm; clear f1_ f2_ f3_; subst f4_; subst f5_))
  refine hK.out _ _ ⟨(Zai BK1009.out 0).trans rfl, (Zai BK1009.out 1).trans rfl⟩ (fun hHeld => ?_)
  clear hK K
  refine norm_ (a' := ?_) ?_ ?_
  rotate_left
  ·show Act.put _ (some 11) _ = _
   simp only [Act.put, List.setIfInBounds_toArray, List.set_cons_zero, List.set_cons_succ, Zav, Za0]
   rfl
  refine one_ (i := 5) (N := some 12) #[true, true, true, true, true, true, false] rfl rfl (by kernel_rfl) (by decide) (fun K hK => ?_)
  refine goes_ Tryd.func132 (by kernel_rfl) rfl #[.agg #[.int .u64 a0_0, .int .u64 a0_1], .slice Ao11 y1013.length co11] (by rfl) rfl rfl zam ?_
  with_reducible refine (kauditref23_Sum.calls k a0_0 a0_1 _ _ y1013 t1016 _ ?side1 ?side2 A6.out).mono ?_
  (case side1 => repeat (first | exact (Kd.R_reads' HO1015.out).2.2 | (with_reducible refine Kd.C_alloc ?_ _) | (with_reducible refine Kd.C_drewN ?_ _) | (with_reducible refine Kd.C_drew ?_)))
  (case side2 => exact (Kd.R_reads' HO1015.out).2.1)
  rintro e w12 ⟨rfl, hb⟩
  refine ⟨_, rfl, ?_⟩
  replace HO1015 := Zaa.mk (Kd.R_below (zrk HO1015) hb)
  replace BK1009 := Zaa.mk (Zah (g := gb1009) (o := .cells #[.int .u64 a0_0, .int .u64 a0_1] 80 (0, 0)) (zbk BK1009) hb)
  replace HB := Zaa.mk (Zaf (zb2 HB GE1009.out) hb)
  (try clear hb)
  refine hK.out _ _ ⟨(Zai BK1009.out 0).trans rfl, (Zai BK1009.out 1).trans rfl⟩ (fun hHeld => ?_)
  clear hK K
  refine norm_ (a' := ?_) ?_ ?_
  rotate_left
  ·show Act.put _ (some 12) _ = _
   simp only [Act.put, List.setIfInBounds_toArray, List.set_cons_zero, List.set_cons_succ, Zav, Za0]
   rfl
  refine Za8 (i := 6) (N := some 6) (v := ?_) (a' := ?_) #[true, true, true, true, true, true, true] rfl rfl (by kernel_rfl) (fun _ _ _ h => h) (Or.inl ⟨by rfl, ?_⟩) ?_ ?_
  rotate_left
  ·intro w'
   go_simp
   with_reducible rfl
  rotate_left
  ·simp only [Act.put, List.setIfInBounds_toArray, List.set_cons_zero, List.set_cons_succ, Zav, Za0]
   rfl
  refine done_ (by kernel_rfl) ?_
  try go_wp2
  go_ret
  exact ⟨by first | rfl | (simp [errW_none, errW_some] <;> rfl) | (simp [*, errW_none, errW_some] <;> rfl), (zb2 HB GE1009.out)⟩
 ·rw [if_neg c5] at H
  exact absurd H (by simp)
end Go.Proofs.YtkfddpbmclbdhaaDoor.PA
end
section
namespace Go.Proofs.YtkfddpbmclbdhaaDoor.PA
open Go.RowKit Go.Proofs.YtkfddpbmclbdhaaDoorW.PrintWords Go.Proofs.YtkfddpbmclbdhaaDoorW.PrintLast Go.Proofs.YtkfddpbmclbdhaaDoorW.PrintMore
attribute [local go_sem] Zaz Zax Za5 Za4 Zas Zar Zay Zaw   -- for this text's walks alone
set_option linter.unusedVariables false
set_option linter.unusedSimpArgs false
def kauditref25_Frame.j0 : Nat → Int → List Int → Int → Bool → Int → Int → Option (List Int × Int × Int)
 | 0, _, _, _, _, _, _ => none
 | k + 1, x1, x2, x9, x19, x1018000, x1018001 => if x19 = true then (some (([] : List Int), 0, 256)) else ((kauditref23_Chain.f k x1018000 x1018001 x1 x2).bind fun t1018 => ((some (([(x9 / 16777216) % 256, (x9 / 65536) % 256, (x9 / 256) % 256, (x9) % 256] : List Int) : List Int)).bind fun y1019 => (if y1019.length + x2.length < 140737488355328 then ((some (y1019 ++ x2 : List Int)).bind fun y1022 => ((kauditref23_Put.f k t1018).bind fun t1025 => (if y1022.length + t1025.length < 140737488355328 then (some ((y1022 ++ t1025), t1018, 0)) else (none)))) else (none))))
def kauditref25_Frame.f (k : Nat) (a0_0 : Int) (a0_1 : Int) (a1 : Int) (l2 : List Int) : Option (List Int × Int × Int) := if (l2.length : Int) < 1 then (kauditref25_Frame.j0 k a1 l2 (l2.length : Int) true a0_0 a0_1) else (kauditref25_Frame.j0 k a1 l2 (l2.length : Int) (decide ((l2.length : Int) > 16384)) a0_0 a0_1)
theorem kauditref25_Frame.mono_l : ∀ k, (∀ y0 y1 y2 y3 y4 y5, LeO (kauditref25_Frame.j0 k y0 y1 y2 y3 y4 y5) (kauditref25_Frame.j0 (k + 1) y0 y1 y2 y3 y4 y5))
 | 0 => fun _ _ _ _ _ _ r h => by simp [kauditref25_Frame.j0] at h
 | k + 1 => by
  have ih0 := kauditref25_Frame.mono_l k
  ·intro y0 y1 y2 y3 y4 y5
   unfold kauditref25_Frame.j0
   repeat' first
   | (with_reducible exact ih0 _ _ _ _ _ _)
   | (with_reducible exact kauditref23_Chain.mono _ _ _ _ _)
   | (with_reducible exact kauditref23_Put.mono _ _)
   | (with_reducible exact LeO.refl _)
   | (with_reducible exact LeO.none _)
   | (with_reducible refine LeO.ite ?_ ?_)
   | (with_reducible refine LeO.bind ?_ (fun _ => ?_))
   | exact ih0 _ _ _ _ _ _
   | exact kauditref23_Chain.mono _ _ _ _ _
   | exact kauditref23_Put.mono _ _
   | exact LeO.none _
   | refine LeO.ite ?_ ?_
   | refine LeO.bind ?_ (fun _ => ?_)
theorem kauditref25_Frame.mono : ∀ a0 a1 a2 a3 k, LeO (kauditref25_Frame.f k a0 a1 a2 a3) (kauditref25_Frame.f (k + 1) a0 a1 a2 a3) := by
 intro a0 a1 a2 a3 k
 have ih0 := kauditref25_Frame.mono_l k
 unfold kauditref25_Frame.f
 repeat' first
   | (with_reducible exact ih0 _ _ _ _ _ _)
   | (with_reducible exact kauditref23_Chain.mono _ _ _ _ _)
   | (with_reducible exact kauditref23_Put.mono _ _)
   | (with_reducible exact LeO.refl _)
   | (with_reducible exact LeO.none _)
   | (with_reducible refine LeO.ite ?_ ?_)
   | (with_reducible refine LeO.bind ?_ (fun _ => ?_))
   | exact ih0 _ _ _ _ _ _
   | exact kauditref23_Chain.mono _ _ _ _ _
   | exact kauditref23_Put.mono _ _
   | exact LeO.none _
   | refine LeO.ite ?_ ?_
   | refine LeO.bind ?_ (fun _ => ?_)
set_option maxHeartbeats 8000000 in
set_option maxRecDepth 100000 in
theorem kauditref25_Frame.calls (k : Nat) (a0_0 : Int) (a0_1 : Int) (a1 : Int) (A2 : Option Addr) (c2 : Nat) (l2 : List Int) (r1 : List Int) (r2 : Int) (r3 : Int) (w : World) (hr2 : Kd.C (Kd.int .u8) w A2 l2.length l2) (hc2 : l2.length ≤ c2) (h : kauditref25_Frame.f k a0_0 a0_1 a1 l2 = some (r1, r2, r3)) :
  Calls Tryd.prog 61 #[.agg #[.int .u64 a0_0, .int .u64 a0_1], .int .u64 a1, .slice A2 l2.length c2] w fun e w' => ∃ v0_ : Value, e = .returned (.tuple #[v0_, .int .u64 r2, .int .i64 r3]) ∧ Kd.R (Kd.int .u8) 5 w' w.heap.size (fun _ => True) v0_ r1 ∧ Below w.heap.size w w' := by
 have hu80 := Tryd.underlying80
 have HR2 := Zaa.mk hr2
 have HC2 := Zaa.mk hc2
 clear hr2 hc2
 have HB := Zaa.mk (Below.refl w.heap.size w)
 unfold kauditref25_Frame.f at h
 have H := h
 clear h
 have HC4 := Zaa.mk H
 clear H
 go_enter Tryd.func61, Tryd.ntmps61
 go_upto_region 2 with (first | ((with_reducible refine Zao (N := 3) rfl ?_); refine Zap ?hg (N := 3) ?hd (cs := #[.int .u64 a0_0, .int .u64 a0_1]) (t := 80) ?hr ?_; (case hd => rfl); (case hg => rfl); (case hr => first | (go_simp; done) | (go_simp; rfl)); intro gb1017 hg w5 hbox hb; have BK1017 := Zaa.mk (hbox); have GW1017 := Zaa.mk ((by rw [hg]; exact (Zae (zb1 HB)) : w.heap.size ≤ gb1017)); have GE1017 := Zaa.mk ((by rw [hg]; exact (Zae (zb1 HB)) : w.heap.size ≤ gb1017)); replace HB := Zaa.mk (Zaf (zb1 HB) hb); clear hb hbox hg))
 (try simp only [Act.put, List.setIfInBounds_toArray, List.set_cons_zero, List.set_cons_succ])
 go_cut [19] (fun v19 wc => ∃ (kq : Nat) (x19_3 : Bool), v19 = .bool x19_3 ∧ Zaa (kauditref25_Frame.j0 kq a1 l2 (l2.length : Int) x19_3 a0_0 a0_1 = some (r1, r2, r3)) ∧ Zaa (kq ≤ k) ∧ Zaa (wc.heap[gb1017]? = some (.cells #[.int .u64 a0_0, .int .u64 a0_1] 80 (0, 0))) ∧ Zaa (Below w.heap.size w wc))
 case first =>
  have H := HC4.out
  clear HC4
  by_cases c6 : (l2.length : Int) < 1
  ·rw [if_pos c6] at H
   have c6b0 : decide ((l2.length : Int) < 1) = true := decide_eq_true c6
   have c6b1 : decide (l2.length < 1) = true := decide_eq_true (by omega)
   clear c6
   (first | rw [c6b0] | (simp only [Zav, Za0]; rw [c6b0]) | skip)
   have H' := Zaa.mk H
   clear H
   go_wp2
   go_meet
   case rel => exact ⟨_, (true), (by first | rfl | (simp; done) | (simp [*]; done)), H', ⟨by first | omega | exact Nat.le_refl _⟩, ⟨by (with_reducible repeat (first | refine Zac ?_ _ | refine Zad ?_ | refine Zab ?_ _)); exact BK1017.out⟩, ⟨(zb2 HB GE1017.out)⟩⟩
  ·rw [if_neg c6] at H
   have c6b0 : decide ((l2.length : Int) < 1) = false := decide_eq_false c6
   have c6b1 : decide (l2.length < 1) = false := decide_eq_false (by omega)
   clear c6
   (first | rw [c6b0] | (simp only [Zav, Za0]; rw [c6b0]) | skip)
   have H' := Zaa.mk H
   clear H
   go_wp2
   go_meet
   case rel => exact ⟨_, (decide ((l2.length : Int) > 16384)), (by first | rfl | (simp; done) | (simp [*]; done)), H', ⟨by first | omega | exact Nat.le_refl _⟩, ⟨by (with_reducible repeat (first | refine Zac ?_ _ | refine Zad ?_ | refine Zab ?_ _)); exact BK1017.out⟩, ⟨(zb2 HB GE1017.out)⟩⟩
 case rest =>
  clear HC4
  (try clear c2)
  obtain ⟨kq, x19_3, rfl, HA, HJ3, BK1017, HB⟩ := hcut
  cases kq with
  | zero => exact absurd HA.out (by simp [kauditref25_Frame.j0])
  | succ kj3 =>
   have H := HA.out
   clear HA
   simp only [kauditref25_Frame.j0] at H
   by_cases c7 : x19_3 = true
   ·subst c7
    rw [if_pos rfl] at H
    simp only [Option.some.injEq, Prod.mk.injEq] at H
    obtain ⟨rfl, rfl, rfl⟩ := H
    go_wp2
    go_ret3
    exact ⟨_, by first | rfl | (simp [errW_none, errW_some] <;> rfl) | (simp [*, errW_none, errW_some] <;> rfl), by first | exact Kd.R_nil _ _ _ _ _ | exact Kd.N_nil _ _ _ _ _ | exact Kd.V_nil _ _ _ _ _ | exact Kd.Q_nil _ _ _ _ _ | exact Kd.S_nil _ _ _ _ _, (zb2 HB GE1017.out)⟩
   ·replace c7 := Bool.eq_false_iff.mpr c7
    subst c7
    rw [if_neg (show ¬ (false = true) by decide)] at H
    replace H := Option.bind_eq_some_iff.mp H
    obtain ⟨t1018, A80, H⟩ := H
    try dsimp only at H
    have A8 := Zaa.mk A80
    clear A80
    obtain ⟨y1019, hy1019⟩ : ∃ y_ : List Int, y_ = (([((l2.length : Int) / 16777216) % 256, ((l2.length : Int) / 65536) % 256, ((l2.length : Int) / 256) % 256, ((l2.length : Int)) % 256] : List Int)) := ⟨_, rfl⟩
    replace H : (if y1019.length + l2.length < 140737488355328 then ((some (y1019 ++ l2 : List Int)).bind fun y1022 => ((kauditref23_Put.f kj3 t1018).bind fun t1025 => (if y1022.length + t1025.length < 140737488355328 then (some ((y1022 ++ t1025), t1018, 0)) else (none)))) else (none)) = some (r1, r2, r3) := by first | (rw [hy1019]; with_reducible exact H) | (have H2_ := (Option.bind_some _ _).symm.trans H; rw [hy1019]; with_reducible exact H2_) | (have H2_ := (Option.bind_some _ _).symm.trans H; with_reducible exact H2_) | with_reducible exact H | (rw [hy1019]; exact H) | exact H
    have Ny1019 := Zaa.mk hy1019
    clear hy1019
    by_cases c9 : y1019.length + l2.length < 140737488355328
    ·rw [if_pos c9] at H
     have LMc9 := Zaa.mk c9
     clear c9
     obtain ⟨y1022, hy1022⟩ : ∃ y_ : List Int, y_ = (y1019 ++ l2) := ⟨_, rfl⟩
     replace H : ((kauditref23_Put.f kj3 t1018).bind fun t1025 => (if y1022.length + t1025.length < 140737488355328 then (some ((y1022 ++ t1025), t1018, 0)) else (none))) = some (r1, r2, r3) := by first | (rw [hy1022]; with_reducible exact H) | (have H2_ := (Option.bind_some _ _).symm.trans H; rw [hy1022]; with_reducible exact H2_) | (have H2_ := (Option.bind_some _ _).symm.trans H; with_reducible exact H2_) | with_reducible exact H | (rw [hy1022]; exact H) | exact H
     have Ny1022 := Zaa.mk hy1022
     clear hy1022
     replace H := Option.bind_eq_some_iff.mp H
     obtain ⟨t1025, A100, H⟩ := H
     try dsimp only at H
     have A10 := Zaa.mk A100
     clear A100
     by_cases c11 : y1022.length + t1025.length < 140737488355328
     ·rw [if_pos c11] at H
      have LMc11 := Zaa.mk c11
      clear c11
      obtain ⟨y1028, hy1028⟩ : ∃ y_ : List Int, y_ = (y1022 ++ t1025) := ⟨_, rfl⟩
      replace H : (some (y1028, t1018, 0)) = some (r1, r2, r3) := by first | (rw [hy1028]; with_reducible exact H) | (have H2_ := (Option.bind_some _ _).symm.trans H; rw [hy1028]; with_reducible exact H2_) | (have H2_ := (Option.bind_some _ _).symm.trans H; with_reducible exact H2_) | with_reducible exact H | (rw [hy1028]; exact H) | exact H
      have Ny1028 := Zaa.mk hy1028
      clear hy1028
      simp only [Option.some.injEq, Prod.mk.injEq] at H
      obtain ⟨rfl, rfl, rfl⟩ := H
      obtain ⟨hcz12_0, hcz12_1⟩ := bc2 BK1017.out
      obtain ⟨hfz12_0, hfz12_1⟩ := bf2 BK1017.out
      go_wp2_with (first | ((with_reducible refine Zal (f := 109) rfl ?_); refine Za2 (some 23) rfl rfl Tryd.func109 (by kernel_rfl) rfl #[.agg #[.int .u64 a0_0, .int .u64 a0_1], .int .u64 a1, .slice A2 l2.length c2] rfl zam ?_; (with_reducible refine (kauditref23_Chain.calls kj3 a0_0 a0_1 a1 _ _ l2 t1018 _ ?side1 ?side2 A8.out).mono ?_); (case side1 => repeat (first | exact (Kd.C_below HR2.out HB.out) | (with_reducible refine Kd.C_alloc ?_ _) | (with_reducible refine Kd.C_drewN ?_ _) | (with_reducible refine Kd.C_drew ?_))); (case side2 => exact HC2.out); rintro e w13 ⟨rfl, hb⟩; refine ⟨_, rfl, ?_⟩; replace BK1017 := Zaa.mk (Zah (g := gb1017) (o := .cells #[.int .u64 a0_0, .int .u64 a0_1] 80 (0, 0)) (zbk BK1017) hb); replace HB := Zaa.mk (Zaf (zb2 HB GE1017.out) hb); (try clear hb)) | ((with_reducible refine Zao (N := 35) rfl ?_); refine Kd.R_lit (Kd.int .u8) _ 5 ?hg (N := 35) ?hd (xs := ([((l2.length : Int) / 16777216) % 256, ((l2.length : Int) / 65536) % 256, ((l2.length : Int) / 256) % 256, ((l2.length : Int)) % 256] : List Int)) (inner := [.int .u8 (((l2.length : Int) / 16777216) % 256), .int .u8 (((l2.length : Int) / 65536) % 256), .int .u8 (((l2.length : Int) / 256) % 256), .int .u8 (((l2.length : Int)) % 256)]) (ok := fun _ => True) (okp := fun _ => True) ?hr ?hp (fun _ hk => hk) trivial (Below.refl _ _) (Nat.le_refl _) (by simp) ?_; (case hd => rfl); (case hg => rfl); (case hr => first | (go_simp; done) | (go_simp; rfl)); (case hp => exact (Reps.one (show Kd.M (Kd.int .u8) _ _ _ (((l2.length : Int) / 16777216) % 256) [.int .u8 (((l2.length : Int) / 16777216) % 256)] from rfl) (Reps.one (show Kd.M (Kd.int .u8) _ _ _ (((l2.length : Int) / 65536) % 256) [.int .u8 (((l2.length : Int) / 65536) % 256)] from rfl) (Reps.one (show Kd.M (Kd.int .u8) _ _ _ (((l2.length : Int) / 256) % 256) [.int .u8 (((l2.length : Int) / 256) % 256)] from rfl) (Reps.one (show Kd.M (Kd.int .u8) _ _ _ (((l2.length : Int)) % 256) [.int .u8 (((l2.length : Int)) % 256)] from rfl) (Reps.none _ _)))))); intro v1020 w14 ho15 hb hg_ hnew_; clear hg_ hnew_; (first | rw [← Ny1019.out] at ho15 | (simp only [Int.reduceToNat] at ho15; rw [← Ny1019.out] at ho15)); have HO1021 := Zaa.mk (Kd.R_lower ho15 (Zae (zb2 HB GE1017.out))); replace BK1017 := Zaa.mk (Zah (g := gb1017) (o := .cells #[.int .u64 a0_0, .int .u64 a0_1] 80 (0, 0)) (zbk BK1017) hb); replace HB := Zaa.mk (Zaf (zb2 HB GE1017.out) hb); clear hb ho15) | ((with_reducible refine Zba (b := .append) (xs := #[.tmp 35, .tmp 36]) rfl ?_); at_builtin; refine Kd.R_append_rows (Kd.int .u8) (w0 := w) w.heap.size rfl (.tmp 35) (.tmp 36) 28 5 (.int .u8 0) 1 rfl Tryd.underlying28 info5 rfl (by decide) (by omega) v1020 y1019 l2 _ _ _ (fun _ => True) (fun _ => False) rfl rfl ?aO ?aR (fun _ _ h => h) (fun _ h => h.elim) ?aF ?aB ?aS ?aL ?_; (case aR => repeat (first | exact (Kd.C_below HR2.out HB.out) | (with_reducible refine Kd.C_alloc ?_ _) | (with_reducible refine Kd.C_drewN ?_ _) | (with_reducible refine Kd.C_drew ?_))); (case aB => exact (zb2 HB GE1017.out)); (case aF => exact (fun _ _ => trivial)); (case aO => exact (zrk HO1021)); (case aS => exact (Zae (zb2 HB GE1017.out))); (case aL => have := LMc9.out; omega); intro v1023 w16 ho hb hg hat; rw [← Ny1022.out] at ho; replace BK1017 := Zaa.mk (Zbl (g := gb1017) (o := .cells #[.int .u64 a0_0, .int .u64 a0_1] 80 (0, 0)) (zbk BK1017) hg (Kd.R_ne HO1021.out BK1017.out (by decide))); replace HB := Zaa.mk (hb); have HO1024 := Zaa.mk (ho); clear HO1021 ho hb hg hat) | ((with_reducible refine Zal (f := 110) rfl ?_); refine Za2 (some 40) rfl rfl Tryd.func110 (by kernel_rfl) rfl #[.int .u64 t1018] rfl zam ?_; (with_reducible refine (kauditref23_Put.calls kj3 t1018 t1025 _ A10.out).mono ?_); rintro e w17 ⟨v1026, rfl, ho0, hb⟩; refine ⟨_, rfl, ?_⟩; have HO1027 := Zaa.mk (Kd.R_lower (Kd.R_new' ho0 (Kd.R_lt (zrk HO1024))) (Zae (zb2 HB GE1017.out))); replace HO1024 := Zaa.mk (Kd.R_elder' (zrk HO1024) (Kd.R_base ho0) hb); replace BK1017 := Zaa.mk (Zah (g := gb1017) (o := .cells #[.int .u64 a0_0, .int .u64 a0_1] 80 (0, 0)) (zbk BK1017) hb); replace HB := Zaa.mk (Zaf (zb2 HB GE1017.out) hb); (try clear hb); (try clear ho0); obtain ⟨Ao19, co19, eo19⟩ := Kd.R_slice HO1027.out; subst eo19) | ((with_reducible refine Zba (b := .append) (xs := #[.tmp 38, .tmp 40]) rfl ?_); at_builtin; refine Kd.R_append_rows (Kd.int .u8) (w0 := w) w.heap.size rfl (.tmp 38) (.tmp 40) 28 5 (.int .u8 0) 1 rfl Tryd.underlying28 info5 rfl (by decide) (by omega) v1023 y1022 t1025 _ _ _ (fun k_ => some k_ ≠ (.slice Ao19 t1025.length co19 : Value).ownBlock) (fun _ => False) rfl rfl ?aO ?aR (fun _ _ h => h) (fun _ h => h.elim) ?aF ?aB ?aS ?aL ?_; (case aR => repeat (first | exact (Kd.R_reads' HO1027.out).2.2 | (with_reducible refine Kd.C_alloc ?_ _) | (with_reducible refine Kd.C_drewN ?_ _) | (with_reducible refine Kd.C_drew ?_))); (case aB => exact (zb2 HB GE1017.out)); (case aF => exact (fun k_ hk => Kd.fresh' (Kd.R_lt (zrk HO1027)) k_ hk)); (case aO => exact (by (with_reducible repeat (first | apply Kd.R_alloc | apply Kd.R_drewN | apply Kd.R_drew)); exact Kd.R_mono HO1024.out (fun _ hk => hk.2))); (case aS => exact (Zae (zb2 HB GE1017.out))); (case aL => have := LMc11.out; omega); intro v1029 w18 ho hb hg hat; rw [← Ny1028.out] at ho; replace BK1017 := Zaa.mk (Zbl (g := gb1017) (o := .cells #[.int .u64 a0_0, .int .u64 a0_1] 80 (0, 0)) (zbk BK1017) hg (Kd.R_ne HO1024.out BK1017.out (by decide))); replace HO1027 := Zaa.mk (Kd.R_after (ok := (fun _ => True)) (zrk HO1027) hg hat); replace HB := Zaa.mk (hb); have HO1030 := Zaa.mk (ho); clear HO1024 ho hb hg hat))
      go_ret3
      exact ⟨_, by first | rfl | (simp [errW_none, errW_some] <;> rfl) | (simp [*, errW_none, errW_some] <;> rfl), by (with_reducible repeat (first | apply Kd.R_alloc | apply Kd.R_drewN | apply Kd.R_drew)); exact Kd.R_mono HO1030.out (fun _ hk => trivial), (zb2 HB GE1017.out)⟩
     ·rw [if_neg c11] at H
      exact absurd H (by simp)
    ·rw [if_neg c9] at H
     exact absurd H (by simp)
end Go.Proofs.YtkfddpbmclbdhaaDoor.PA
end
/- (mended by genhead.py) Contracts of functions of the program: written by pr2.py (ours, round the print of the kit) out of the translation; conditions: each contract names its own. -/
section
namespace Go.Proofs.YtkfddpbmclbdhaaDoor.PA
open Go.RowKit Go.Proofs.YtkfddpbmclbdhaaDoorW.PrintWords Go.Proofs.YtkfddpbmclbdhaaDoorW.PrintLast Go.Proofs.YtkfddpbmclbdhaaDoorW.PrintMore
attribute [local go_sem] Zaz Zax Za5 Za4 Zas Zar Zay Zaw   -- for this text's walks alone
set_option linter.unusedVariables false
set_option linter.unusedSimpArgs false
def kauditref25_Head.j0 : Nat → Int → Int → Bool → Int → Int → Option (List Int × Int × Int)
 | 0, _, _, _, _, _ => none
 | k + 1, x1, x2, x14, x1050000, x1050001 => if x14 = true then (some (([] : List Int), 0, 257)) else ((kauditref25_Put.f k (([107, 97, 117, 100, 105, 116] : List Int)) x1).bind fun t1053 => ((kauditref23_Put.f k x2).bind fun t1056 => (if t1053.length + t1056.length < 140737488355328 then ((kauditref25_Frame.f k x1050000 x1050001 x2 (t1053 ++ t1056)).bind fun bt1062 => (some (bt1062.1, bt1062.2.1, bt1062.2.2))) else (none))))
def kauditref25_Head.f (k : Nat) (a0_0 : Int) (a0_1 : Int) (a1 : Int) (a2 : Int) : Option (List Int × Int × Int) := if a1 < 1 then (kauditref25_Head.j0 k a1 a2 true a0_0 a0_1) else (kauditref25_Head.j0 k a1 a2 (decide (a1 > 1000)) a0_0 a0_1)
theorem kauditref25_Head.mono_l : ∀ k, (∀ y0 y1 y2 y3 y4, LeO (kauditref25_Head.j0 k y0 y1 y2 y3 y4) (kauditref25_Head.j0 (k + 1) y0 y1 y2 y3 y4))
 | 0 => fun _ _ _ _ _ r h => by simp [kauditref25_Head.j0] at h
 | k + 1 => by
  have ih0 := kauditref25_Head.mono_l k
  ·intro y0 y1 y2 y3 y4
   unfold kauditref25_Head.j0
   repeat' first
   | (with_reducible exact ih0 _ _ _ _ _)
   | (with_reducible exact kauditref23_Put.mono _ _)
   | (with_reducible exact kauditref25_Frame.mono _ _ _ _ _)
   | (with_reducible exact kauditref25_Put.mono _ _ _)
   | (with_reducible exact LeO.refl _)
   | (with_reducible exact LeO.none _)
   | (with_reducible refine LeO.ite ?_ ?_)
   | (with_reducible refine LeO.bind ?_ (fun _ => ?_))
   | exact ih0 _ _ _ _ _
   | exact kauditref23_Put.mono _ _
   | exact kauditref25_Frame.mono _ _ _ _ _
   | exact kauditref25_Put.mono _ _ _
   | exact LeO.none _
   | refine LeO.ite ?_ ?_
   | refine LeO.bind ?_ (fun _ => ?_)
theorem kauditref25_Head.mono : ∀ a0 a1 a2 a3 k, LeO (kauditref25_Head.f k a0 a1 a2 a3) (kauditref25_Head.f (k + 1) a0 a1 a2 a3) := by
 intro a0 a1 a2 a3 k
 have ih0 := kauditref25_Head.mono_l k
 unfold kauditref25_Head.f
 repeat' first
   | (with_reducible exact ih0 _ _ _ _ _)
   | (with_reducible exact kauditref23_Put.mono _ _)
   | (with_reducible exact kauditref25_Frame.mono _ _ _ _ _)
   | (with_reducible exact kauditref25_Put.mono _ _ _)
   | (with_reducible exact LeO.refl _)
   | (with_reducible exact LeO.none _)
   | (with_reducible refine LeO.ite ?_ ?_)
   | (with_reducible refine LeO.bind ?_ (fun _ => ?_))
   | exact ih0 _ _ _ _ _
   | exact kauditref23_Put.mono _ _
   | exact kauditref25_Frame.mono _ _ _ _ _
   | exact kauditref25_Put.mono _ _ _
   | exact LeO.none _
   | refine LeO.ite ?_ ?_
   | refine LeO.bind ?_ (fun _ => ?_)
def kauditref25_Head.T3 : Bool × List (List Nat × List Nat) := (true, [([], []), ([], []), ([], []), ([2], [2]), ([], []), ([3, 4], [3, 4]), ([], []), ([6, 5], [6]), ([5, 7, 7], [5, 7]), ([0, 1, 8, 8], [0, 1, 8]), ([9], [9]), ([9], [9]), ([9], [9]), ([10, 9, 0, 1, 2, 3, 4, 5, 6, 7, 8, 9, 10, 11, 12], [10]), ([11, 13, 0, 1, 2, 3, 4, 5, 6, 7, 8, 9, 10, 11, 12, 13], [11]), ([12, 14, 0, 1, 2, 3, 4, 5, 6, 7, 8, 9, 10, 11, 12, 13, 14], [12])])
def kauditref25_Head.B3 : List Nat := [0, 0, 0, 4, 0, 28, 0, 124, 252, 511, 1023, 1023, 1023, 8191, 16383, 32767]
theorem kauditref25_Head.tab3 : rtab .any (opsOf Tryd.f63 3) = kauditref25_Head.T3 := by kernel_rfl
theorem kauditref25_Head.bits3 : waitsOk kauditref25_Head.T3.2 kauditref25_Head.B3 = true := by kernel_rfl
set_option maxHeartbeats 8000000 in
set_option maxRecDepth 100000 in
theorem kauditref25_Head.calls (k : Nat) (a0_0 : Int) (a0_1 : Int) (a1 : Int) (a2 : Int) (r1 : List Int) (r2 : Int) (r3 : Int) (w : World) (h : kauditref25_Head.f k a0_0 a0_1 a1 a2 = some (r1, r2, r3)) :
  Calls Tryd.prog 63 #[.agg #[.int .u64 a0_0, .int .u64 a0_1], .int .i64 a1, .int .u64 a2] w fun e w' => ∃ v0_ : Value, e = .returned (.tuple #[v0_, .int .u64 r2, .int .i64 r3]) ∧ Kd.R (Kd.int .u8) 5 w' w.heap.size (fun _ => True) v0_ r1 ∧ Below w.heap.size w w' := by
 have hu80 := Tryd.underlying80
 have HB := Zaa.mk (Below.refl w.heap.size w)
 unfold kauditref25_Head.f at h
 have H := h
 clear h
 have HC4 := Zaa.mk H
 clear H
 go_enter Tryd.func63, Tryd.ntmps63
 go_upto_region 1 with (first | ((with_reducible refine Zao (N := 3) rfl ?_); refine Zap ?hg (N := 3) ?hd (cs := #[.int .u64 a0_0, .int .u64 a0_1]) (t := 80) ?hr ?_; (case hd => rfl); (case hg => rfl); (case hr => first | (go_simp; done) | (go_simp; rfl)); intro gb1049 hg w5 hbox hb; have BK1049 := Zaa.mk (hbox); have GW1049 := Zaa.mk ((by rw [hg]; exact (Zae (zb1 HB)) : w.heap.size ≤ gb1049)); have GE1049 := Zaa.mk ((by rw [hg]; exact (Zae (zb1 HB)) : w.heap.size ≤ gb1049)); replace HB := Zaa.mk (Zaf (zb1 HB) hb); clear hb hbox hg))
 (try simp only [Act.put, List.setIfInBounds_toArray, List.set_cons_zero, List.set_cons_succ])
 go_cut [14] (fun v14 wc => ∃ (kq : Nat) (x14_3 : Bool), v14 = .bool x14_3 ∧ Zaa (kauditref25_Head.j0 kq a1 a2 x14_3 a0_0 a0_1 = some (r1, r2, r3)) ∧ Zaa (kq ≤ k) ∧ Zaa (wc.heap[gb1049]? = some (.cells #[.int .u64 a0_0, .int .u64 a0_1] 80 (0, 0))) ∧ Zaa (Below w.heap.size w wc))
 case first =>
  have H := HC4.out
  clear HC4
  by_cases c6 : a1 < 1
  ·rw [if_pos c6] at H
   have c6b0 : decide (a1 < 1) = true := decide_eq_true c6
   clear c6
   (first | rw [c6b0] | (simp only [Zav, Za0]; rw [c6b0]) | skip)
   have H' := Zaa.mk H
   clear H
   go_wp2
   go_meet
   case rel => exact ⟨_, (true), (by first | rfl | (simp; done) | (simp [*]; done)), H', ⟨by first | omega | exact Nat.le_refl _⟩, ⟨by (with_reducible repeat (first | refine Zac ?_ _ | refine Zad ?_ | refine Zab ?_ _)); exact BK1049.out⟩, ⟨(zb2 HB GE1049.out)⟩⟩
  ·rw [if_neg c6] at H
   have c6b0 : decide (a1 < 1) = false := decide_eq_false c6
   clear c6
   (first | rw [c6b0] | (simp only [Zav, Za0]; rw [c6b0]) | skip)
   have H' := Zaa.mk H
   clear H
   go_wp2
   go_meet
   case rel => exact ⟨_, (decide (a1 > 1000)), (by first | rfl | (simp; done) | (simp [*]; done)), H', ⟨by first | omega | exact Nat.le_refl _⟩, ⟨by (with_reducible repeat (first | refine Zac ?_ _ | refine Zad ?_ | refine Zab ?_ _)); exact BK1049.out⟩, ⟨(zb2 HB GE1049.out)⟩⟩
 case rest =>
  clear HC4
  obtain ⟨kq, x14_3, rfl, HA, HJ3, BK1049, HB⟩ := hcut
  cases kq with
  | zero => exact absurd HA.out (by simp [kauditref25_Head.j0])
  | succ kj3 =>
   have H := HA.out
   clear HA
   simp only [kauditref25_Head.j0] at H
   by_cases c7 : x14_3 = true
   ·subst c7
    rw [if_pos rfl] at H
    simp only [Option.some.injEq, Prod.mk.injEq] at H
    obtain ⟨rfl, rfl, rfl⟩ := H
    go_wp2
    go_ret3
    exact ⟨_, by first | rfl | (simp [errW_none, errW_some] <;> rfl) | (simp [*, errW_none, errW_some] <;> rfl), by first | exact Kd.R_nil _ _ _ _ _ | exact Kd.N_nil _ _ _ _ _ | exact Kd.V_nil _ _ _ _ _ | exact Kd.Q_nil _ _ _ _ _ | exact Kd.S_nil _ _ _ _ _, (zb2 HB GE1049.out)⟩
   ·replace c7 := Bool.eq_false_iff.mpr c7
    subst c7
    rw [if_neg (show ¬ (false = true) by decide)] at H
    obtain ⟨y1050, hy1050⟩ : ∃ y_ : List Int, y_ = (([107, 97, 117, 100, 105, 116] : List Int)) := ⟨_, rfl⟩
    replace H : ((kauditref25_Put.f kj3 y1050 a1).bind fun t1053 => ((kauditref23_Put.f kj3 a2).bind fun t1056 => (if t1053.length + t1056.length < 140737488355328 then ((kauditref25_Frame.f kj3 a0_0 a0_1 a2 (t1053 ++ t1056)).bind fun bt1062 => (some (bt1062.1, bt1062.2.1, bt1062.2.2))) else (none)))) = some (r1, r2, r3) := by first | (rw [hy1050]; with_reducible exact H) | (have H2_ := (Option.bind_some _ _).symm.trans H; rw [hy1050]; with_reducible exact H2_) | (have H2_ := (Option.bind_some _ _).symm.trans H; with_reducible exact H2_) | with_reducible exact H | (rw [hy1050]; exact H) | exact H
    have Ny1050 := Zaa.mk hy1050
    clear hy1050
    replace H := Option.bind_eq_some_iff.mp H
    obtain ⟨t1053, A80, H⟩ := H
    try dsimp only at H
    have A8 := Zaa.mk A80
    clear A80
    replace H := Option.bind_eq_some_iff.mp H
    obtain ⟨t1056, A90, H⟩ := H
    try dsimp only at H
    have A9 := Zaa.mk A90
    clear A90
    by_cases c10 : t1053.length + t1056.length < 140737488355328
    ·rw [if_pos c10] at H
     have LMc10 := Zaa.mk c10
     clear c10
     obtain ⟨y1059, hy1059⟩ : ∃ y_ : List Int, y_ = (t1053 ++ t1056) := ⟨_, rfl⟩
     replace H : ((kauditref25_Frame.f kj3 a0_0 a0_1 a2 y1059).bind fun bt1062 => (some (bt1062.1, bt1062.2.1, bt1062.2.2))) = some (r1, r2, r3) := by first | (rw [hy1059]; with_reducible exact H) | (have H2_ := (Option.bind_some _ _).symm.trans H; rw [hy1059]; with_reducible exact H2_) | (have H2_ := (Option.bind_some _ _).symm.trans H; with_reducible exact H2_) | with_reducible exact H | (rw [hy1059]; exact H) | exact H
     have Ny1059 := Zaa.mk hy1059
     clear hy1059
     replace H := Option.bind_eq_some_iff.mp H
     obtain ⟨⟨t1062, t1065, t1066⟩, A110, H⟩ := H
     try dsimp only at H
     have A11 := Zaa.mk A110
     clear A110
     simp only [Option.some.injEq, Prod.mk.injEq] at H
     obtain ⟨rfl, rfl, rfl⟩ := H
     try go_wp2
     replace BK1049 := Zaa.mk (Zad BK1049.out)
     replace HB := Zaa.mk (Zaq HB.out)
     refine start_ (n := 16) (S := fun w' => w'.cell? ⟨gb1049, 0, none⟩ = some (.int .u64 a0_0) ∧ w'.cell? ⟨gb1049, 1, none⟩ = some (.int .u64 a0_1)) (ds := []) #[false, false, false, false, false, false, false, false, false, false, false, false, false, false, false, false] (by kernel_rfl) rfl rfl ⟨(Zai BK1049.out 0).trans rfl, (Zai BK1049.out 1).trans rfl⟩ (fun hHeld => ?_); refine with_tabW kauditref25_Head.tab3 kauditref25_Head.bits3 (fun HT_ HW_ => ?_)
     generalize wc.drew = w12 at BK1049 HB hHeld ⊢
     refine Za8 (i := 1) (N := some 16) (v := ?_) (a' := ?_) #[false, true, false, false, false, false, false, false, false, false, false, false, false, false, false, false] rfl rfl (Za7 HT_.out (by kernel_rfl)) (fun _ _ _ h => h) (Or.inl ⟨by rfl, ?_⟩) ?_ ?_
     rotate_left
     ·intro w'
      go_simp
      with_reducible rfl
     rotate_left
     ·simp only [Act.put, List.setIfInBounds_toArray, List.set_cons_zero, List.set_cons_succ, Zav, Za0]
      rfl
     refine Za8 (i := 4) (N := some 19) (v := ?_) (a' := ?_) #[false, true, false, false, true, false, false, false, false, false, false, false, false, false, false, false] rfl rfl (Za7 HT_.out (by kernel_rfl)) (fun _ _ _ h => h) (Or.inl ⟨by rfl, ?_⟩) ?_ ?_
     rotate_left
     ·intro w'
      go_simp
      with_reducible rfl
     rotate_left
     ·simp only [Act.put, List.setIfInBounds_toArray, List.set_cons_zero, List.set_cons_succ, Zav, Za0]
      rfl
     refine Za8 (i := 6) (N := some 21) (v := ?_) (a' := ?_) #[false, true, false, false, true, false, true, false, false, false, false, false, false, false, false, false] rfl rfl (Za7 HT_.out (by kernel_rfl)) (fun _ _ _ h => h) (Or.inl ⟨by rfl, ?_⟩) ?_ ?_
     rotate_left
     ·intro w'
      go_simp
      with_reducible rfl
     rotate_left
     ·simp only [Act.put, List.setIfInBounds_toArray, List.set_cons_zero, List.set_cons_succ, Zav, Za0]
      rfl
     refine take_ (i := 0) (N := some 15) (v := ?_) (a' := ?_) #[true, true, false, false, true, false, true, false, false, false, false, false, false, false, false, false] rfl rfl (Zbj HT_.out HW_.out (by kernel_rfl)) (fun _ _ _ h => h) (Or.inl ⟨by rfl, ?_⟩) hHeld ?_ ?_
     rotate_left
     ·rintro w' ⟨s0, s1⟩
      go_simp
      with_reducible rfl
     rotate_left
     ·simp only [Act.put, List.setIfInBounds_toArray, List.set_cons_zero, List.set_cons_succ, Zav, Za0]
      rfl
     refine one_ (i := 2) (N := some 17) #[true, true, true, false, true, false, true, false, false, false, false, false, false, false, false, false] rfl rfl (Zbi HT_.out (by kernel_rfl)) (by decide) (fun K hK => ?_)
     refine event_step (W := w12) (w1 := w12.alloc (.cells #[.int .u8 107, .int .u8 97, .int .u8 117, .int .u8 100, .int .u8 105, .int .u8 116] 5)) (v := .slice (some ⟨w12.heap.size, 0, none⟩) 6 6) (by rfl) (by first | (go_simp; done) | (go_simp; rfl)) ?_
     refine hK.out _ _ ⟨(Zai (Zab BK1049.out _) 0).trans rfl, (Zai (Zab BK1049.out _) 1).trans rfl⟩ (fun hHeld => ?_)
     clear hK K
     refine norm_ (a' := ?_) ?_ ?_
     rotate_left
     ·show Act.put _ (some 17) _ = _
      simp only [Act.put, List.setIfInBounds_toArray, List.set_cons_zero, List.set_cons_succ, Zav, Za0]
      rfl
     refine one_ (i := 3) (N := some 18) #[true, true, true, true, true, false, true, false, false, false, false, false, false, false, false, false] rfl rfl (Zbi HT_.out (by kernel_rfl)) (by decide) (fun K hK => ?_)
     refine event_step (W := w12.alloc (.cells #[.int .u8 107, .int .u8 97, .int .u8 117, .int .u8 100, .int .u8 105, .int .u8 116] 5)) (w1 := w12.alloc (.cells #[.int .u8 107, .int .u8 97, .int .u8 117, .int .u8 100, .int .u8 105, .int .u8 116] 5 (6, 6 + 1))) (v := .slice (some ⟨w12.heap.size, 0, none⟩) 6 6) (by rfl) (by have kc := Lib.run_convert_bytes_const (P := Tryd.prog) w12 28 5 #[.int .u8 107, .int .u8 97, .int .u8 117, .int .u8 100, .int .u8 105, .int .u8 116] 6 6 Tryd.underlying28 Tryd.underlying5; first | (go_simp; done) | (simp only [execOp]; erw [kc]; rfl) | (simp only [execOp]; erw [kc]) | (go_simp; rw [kc]; rfl)) ?_
     obtain ⟨gc_, hgc_⟩ : ∃ g, g = w12.heap.size := ⟨_, rfl⟩
     have hgl_ : w12.heap.size < (w12.alloc (.cells #[.int .u8 107, .int .u8 97, .int .u8 117, .int .u8 100, .int .u8 105, .int .u8 116] 5 (6, 6 + 1))).heap.size := by simp
     have hgh_ : (w12.alloc (.cells #[.int .u8 107, .int .u8 97, .int .u8 117, .int .u8 100, .int .u8 105, .int .u8 116] 5 (6, 6 + 1))).heap[w12.heap.size]? = some (.cells #[.int .u8 107, .int .u8 97, .int .u8 117, .int .u8 100, .int .u8 105, .int .u8 116] 5 (6, 6 + 1)) := blk_new _ _
     have hgn_ : gb1049 < w12.heap.size := Za1 BK1049.out
     have hgb_ : w.heap.size ≤ w12.heap.size := Zae HB.out
     rw [← hgc_] at hgl_ hgh_ hgn_ hgb_ ⊢
     replace BK1049 := Zaa.mk (Zab BK1049.out (.cells #[.int .u8 107, .int .u8 97, .int .u8 117, .int .u8 100, .int .u8 105, .int .u8 116] 5 (6, 6 + 1)))
     replace HB := Zaa.mk (Zam HB.out (.cells #[.int .u8 107, .int .u8 97, .int .u8 117, .int .u8 100, .int .u8 105, .int .u8 116] 5 (6, 6 + 1)))
     clear hgc_
     generalize w12.alloc (.cells #[.int .u8 107, .int .u8 97, .int .u8 117, .int .u8 100, .int .u8 105, .int .u8 116] 5 (6, 6 + 1)) = wm_ at BK1049 HB hgl_ hgh_ ⊢
     have HOM := Zaa.mk (show RR wm_ w.heap.size (fun k_ => k_ = gc_) (.slice (some ⟨gc_, 0, none⟩) 6 6) [107, 97, 117, 100, 105, 116] from .inr ⟨gc_, _, _, rfl, rfl, hgl_, hgh_, rfl⟩)
     have HNE := Zaa.mk (Nat.ne_of_gt hgn_)
     clear hgl_ hgh_ hgn_ hgb_
     refine hK.out _ _ ⟨(Zai BK1049.out 0).trans rfl, (Zai BK1049.out 1).trans rfl⟩ (fun hHeld => ?_)
     clear hK K
     refine norm_ (a' := ?_) ?_ ?_
     rotate_left
     ·show Act.put _ (some 18) _ = _
      simp only [Act.put, List.setIfInBounds_toArray, List.set_cons_zero, List.set_cons_succ, Zav, Za0]
      rfl
     refine one_ (i := 5) (N := some 20) #[true, true, true, true, true, true, true, false, false, false, false, false, false, false, false, false] rfl rfl (Zbi HT_.out (by kernel_rfl)) (by decide) (fun K hK => ?_)
     refine goes_ Tryd.func106 (by kernel_rfl) rfl #[.slice (some ⟨gc_, 0, none⟩) 6 6, .int .i64 a1] (by rfl) rfl rfl zam ?_
     with_reducible refine (kauditref25_Put.callsM kj3 (fun k_ => k_ = gc_) (.slice (some ⟨gc_, 0, none⟩) 6 6) [107, 97, 117, 100, 105, 116] a1 t1053 w _ ?side1 ?side2 (by have h8_ := A8.out; rw [Ny1050.out] at h8_; exact h8_)).mono ?_
     (case side1 => repeat (first | (with_reducible first | exact HB.out | apply Zam | apply Zan | apply Zaq | refine Za9 ?_ GE1049.out) | exact HB.out))
     (case side2 => exact HOM.out)
     rintro e w16 ⟨v1054, rfl, ho0, hb, hkp⟩
     refine ⟨_, rfl, ?_⟩
     replace BK1049 := Zaa.mk (Zbp (zbk BK1049) hkp (fun hs_ => HNE.out hs_.symm))
     have HO1055 := Zaa.mk (Kd.R_mono (ok' := fun k_ => True) ho0 (fun k_ hk_ => trivial))
     replace HB := Zaa.mk (hb)
     (try clear hb)
     (try clear hkp)
     (try clear ho0)
     refine hK.out _ _ ⟨(Zai BK1049.out 0).trans rfl, (Zai BK1049.out 1).trans rfl⟩ (fun hHeld => ?_)
     clear hK K
     refine norm_ (a' := ?_) ?_ ?_
     rotate_left
     ·show Act.put _ (some 20) _ = _
      simp only [Act.put, List.setIfInBounds_toArray, List.set_cons_zero, List.set_cons_succ, Zav, Za0]
      rfl
     refine one_ (i := 7) (N := some 22) #[true, true, true, true, true, true, true, true, false, false, false, false, false, false, false, false] rfl rfl (Zbi HT_.out (by kernel_rfl)) (by decide) (fun K hK => ?_)
     refine goes_ Tryd.func110 (by kernel_rfl) rfl #[.int .u64 a2] (by rfl) rfl rfl zam ?_
     with_reducible refine (kauditref23_Put.calls kj3 a2 t1056 _ A9.out).mono ?_
     rintro e w17 ⟨v1057, rfl, ho0, hb⟩
     refine ⟨_, rfl, ?_⟩
     have HO1058 := Zaa.mk (Kd.R_lower (Kd.R_new' ho0 (Kd.R_lt (zrk HO1055))) (Zae (zb2 HB GE1049.out)))
     replace HO1055 := Zaa.mk (Kd.R_elder' (zrk HO1055) (Kd.R_base ho0) hb)
     replace BK1049 := Zaa.mk (Zah (g := gb1049) (o := .cells #[.int .u64 a0_0, .int .u64 a0_1] 80 (0, 0)) (zbk BK1049) hb)
     replace HB := Zaa.mk (Zaf (zb2 HB GE1049.out) hb)
     (try clear hb)
     (try clear ho0)
     obtain ⟨Ao19, co19, eo19⟩ := Kd.R_slice HO1058.out
     (first | subst eo19 | (injection eo19 with f1_ f2_ f3_; have f4_ := f1_.symm; have f5_ := f3_.symm; clear f1_ f2_ f3_; subst f4_; subst f5_))
     refine hK.out _ _ ⟨(Zai BK1049.out 0).trans rfl, (Zai BK1049.out 1).trans rfl⟩ (fun hHeld => ?_)
     clear hK K
     refine norm_ (a' := ?_) ?_ ?_
     rotate_left
     ·show Act.put _ (some 22) _ = _
      simp only [Act.put, List.setIfInBounds_toArray, List.set_cons_zero, List.set_cons_succ, Zav, Za0]
      rfl
     refine one_ (i := 8) (N := some 23) #[true, true, true, true, true, true, true, true, true, false, false, false, false, false, false, false] rfl rfl (Zbi HT_.out (by kernel_rfl)) (by decide) (fun K hK => ?_)
     refine Kd.R_append_rows_step (Kd.int .u8) (w0 := w) w.heap.size (by rfl) (.tmp 20) (.tmp 22) 28 5 (.int .u8 0) 1 rfl Tryd.underlying28 info5 rfl (by decide) (by omega) v1054 t1053 t1056 _ _ _ (fun k_ => some k_ ≠ (.slice Ao19 t1056.length co19 : Value).ownBlock) (fun _ => False) rfl rfl ?aO ?aR (fun _ _ h => h) (fun _ h => h.elim) ?aF ?aB ?aS ?aL ?_
     (case aR => repeat (first | exact (Kd.R_reads' HO1058.out).2.2 | (with_reducible refine Kd.C_alloc ?_ _) | (with_reducible refine Kd.C_drewN ?_ _) | (with_reducible refine Kd.C_drew ?_)))
     (case aB => exact (zb2 HB GE1049.out))
     (case aF => exact (fun k_ hk => Kd.fresh' (Kd.R_lt (zrk HO1058)) k_ hk))
     (case aO => exact (by (with_reducible repeat (first | apply Kd.R_alloc | apply Kd.R_drewN | apply Kd.R_drew)); exact Kd.R_mono HO1055.out (fun _ hk => hk.2)))
     (case aS => exact (Zae (zb2 HB GE1049.out)))
     (case aL => have := LMc10.out; omega)
     intro v1060 w18 ho hb hg hat
     rw [← Ny1059.out] at ho
     replace BK1049 := Zaa.mk (Zbl (g := gb1049) (o := .cells #[.int .u64 a0_0, .int .u64 a0_1] 80 (0, 0)) (zbk BK1049) hg (Kd.R_ne HO1055.out BK1049.out (by decide)))
     replace HO1058 := Zaa.mk (Kd.R_after (ok := (fun _ => True)) (zrk HO1058) hg hat)
     replace HB := Zaa.mk (hb)
     have HO1061 := Zaa.mk (ho)
     clear HO1055 ho hb hg hat
     obtain ⟨Ao20, co20, eo20⟩ := Kd.R_slice HO1061.out
     (first | subst eo20 | (injection eo20 with f1_ f2_ f3_; have f4_ := f1_.symm; have f5_ := f3_.symm; clear f1_ f2_ f3_; subst f4_; subst f5_))
     refine hK.out _ _ ⟨(Zai BK1049.out 0).trans rfl, (Zai BK1049.out 1).trans rfl⟩ (fun hHeld => ?_)
     clear hK K
     refine norm_ (a' := ?_) ?_ ?_
     rotate_left
     ·show Act.put _ (some 23) _ = _
      simp only [Act.put, List.setIfInBounds_toArray, List.set_cons_zero, List.set_cons_succ, Zav, Za0]
      rfl
     refine one_ (i := 9) (N := some 24) #[true, true, true, true, true, true, true, true, true, true, false, false, false, false, false, false] rfl rfl (Zbi HT_.out (by kernel_rfl)) (by decide) (fun K hK => ?_)
     refine goes_ Tryd.func61 (by kernel_rfl) rfl #[.agg #[.int .u64 a0_0, .int .u64 a0_1], .int .u64 a2, .slice Ao20 y1059.length co20] (by rfl) rfl rfl zam ?_
     with_reducible refine (kauditref25_Frame.calls kj3 a0_0 a0_1 a2 _ _ y1059 t1062 t1065 t1066 _ ?side1 ?side2 A11.out).mono ?_
     (case side1 => repeat (first | exact (Kd.R_reads' HO1061.out).2.2 | (with_reducible refine Kd.C_alloc ?_ _) | (with_reducible refine Kd.C_drewN ?_ _) | (with_reducible refine Kd.C_drew ?_)))
     (case side2 => exact (Kd.R_reads' HO1061.out).2.1)
     rintro e w21 ⟨v1063, rfl, ho0, hb⟩
     refine ⟨_, rfl, ?_⟩
     have HO1064 := Zaa.mk (Kd.R_lower (Kd.R_new' (Kd.R_new' ho0 (Kd.R_lt (zrk HO1058))) (Kd.R_lt (zrk HO1061))) (Zae (zb2 HB GE1049.out)))
     replace HO1058 := Zaa.mk (Kd.R_elder' (zrk HO1058) (Kd.R_base ho0) hb)
     replace HO1061 := Zaa.mk (Kd.R_elder' (zrk HO1061) (Kd.R_base ho0) hb)
     replace BK1049 := Zaa.mk (Zah (g := gb1049) (o := .cells #[.int .u64 a0_0, .int .u64 a0_1] 80 (0, 0)) (zbk BK1049) hb)
     replace HB := Zaa.mk (Zaf (zb2 HB GE1049.out) hb)
     (try clear hb)
     (try clear hk)
     (try clear ho0)
     refine hK.out _ _ ⟨(Zai BK1049.out 0).trans rfl, (Zai BK1049.out 1).trans rfl⟩ (fun hHeld => ?_)
     clear hK K
     refine norm_ (a' := ?_) ?_ ?_
     rotate_left
     ·show Act.put _ (some 24) _ = _
      simp only [Act.put, List.setIfInBounds_toArray, List.set_cons_zero, List.set_cons_succ, Zav, Za0]
      rfl
     refine Za8 (i := 10) (N := some 25) (v := ?_) (a' := ?_) #[true, true, true, true, true, true, true, true, true, true, true, false, false, false, false, false] rfl rfl (Za7 HT_.out (by kernel_rfl)) (fun _ _ _ h => h) (Or.inl ⟨by rfl, ?_⟩) ?_ ?_
     rotate_left
     ·intro w'
      go_simp
      with_reducible rfl
     rotate_left
     ·simp only [Act.put, List.setIfInBounds_toArray, List.set_cons_zero, List.set_cons_succ, Zav, Za0]
      rfl
     refine Za8 (i := 11) (N := some 26) (v := ?_) (a' := ?_) #[true, true, true, true, true, true, true, true, true, true, true, true, false, false, false, false] rfl rfl (Za7 HT_.out (by kernel_rfl)) (fun _ _ _ h => h) (Or.inl ⟨by rfl, ?_⟩) ?_ ?_
     rotate_left
     ·intro w'
      go_simp
      with_reducible rfl
     rotate_left
     ·simp only [Act.put, List.setIfInBounds_toArray, List.set_cons_zero, List.set_cons_succ, Zav, Za0]
      rfl
     refine Za8 (i := 12) (N := some 27) (v := ?_) (a' := ?_) #[true, true, true, true, true, true, true, true, true, true, true, true, true, false, false, false] rfl rfl (Za7 HT_.out (by kernel_rfl)) (fun _ _ _ h => h) (Or.inl ⟨by rfl, ?_⟩) ?_ ?_
     rotate_left
     ·intro w'
      go_simp
      with_reducible rfl
     rotate_left
     ·simp only [Act.put, List.setIfInBounds_toArray, List.set_cons_zero, List.set_cons_succ, Zav, Za0]
      rfl
     refine Za8 (i := 13) (N := some 6) (v := ?_) (a' := ?_) #[true, true, true, true, true, true, true, true, true, true, true, true, true, true, false, false] rfl rfl (Za7 HT_.out (by kernel_rfl)) (fun _ _ _ h => h) (Or.inl ⟨by rfl, ?_⟩) ?_ ?_
     rotate_left
     ·intro w'
      go_simp
      with_reducible rfl
     rotate_left
     ·simp only [Act.put, List.setIfInBounds_toArray, List.set_cons_zero, List.set_cons_succ, Zav, Za0]
      rfl
     refine Za8 (i := 14) (N := some 7) (v := ?_) (a' := ?_) #[true, true, true, true, true, true, true, true, true, true, true, true, true, true, true, false] rfl rfl (Za7 HT_.out (by kernel_rfl)) (fun _ _ _ h => h) (Or.inl ⟨by rfl, ?_⟩) ?_ ?_
     rotate_left
     ·intro w'
      go_simp
      with_reducible rfl
     rotate_left
     ·simp only [Act.put, List.setIfInBounds_toArray, List.set_cons_zero, List.set_cons_succ, Zav, Za0]
      rfl
     refine Za8 (i := 15) (N := some 8) (v := ?_) (a' := ?_) #[true, true, true, true, true, true, true, true, true, true, true, true, true, true, true, true] rfl rfl (Za7 HT_.out (by kernel_rfl)) (fun _ _ _ h => h) (Or.inl ⟨by rfl, ?_⟩) ?_ ?_
     rotate_left
     ·intro w'
      go_simp
      with_reducible rfl
     rotate_left
     ·simp only [Act.put, List.setIfInBounds_toArray, List.set_cons_zero, List.set_cons_succ, Zav, Za0]
      rfl
     refine done_ (done_of HT_.out (by kernel_rfl)) ?_
     try go_wp2
     go_ret3
     exact ⟨_, by first | rfl | (simp [errW_none, errW_some] <;> rfl) | (simp [*, errW_none, errW_some] <;> rfl), by (with_reducible repeat (first | apply Kd.R_alloc | apply Kd.R_drewN | apply Kd.R_drew)); exact Kd.R_mono HO1064.out (fun _ hk => trivial), (zb2 HB GE1049.out)⟩
    ·rw [if_neg c10] at H
     exact absurd H (by simp)
end Go.Proofs.YtkfddpbmclbdhaaDoor.PA
end
