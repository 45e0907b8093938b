/- The Go function record.Parse returns the one record that Format writes so, or the error. Conditions: the tables and the library's variables are there (GT 2); the text has at most 100000 bytes. -/
import Derived.Test.YtodbabeldolcbaaGreatDoorY9ESplit
import Derived.Test.YtodbabeldolcbaaGreatDoorY9EVParse
import Derived.Maps.OwnIn
namespace Go.Proofs.YtodbabeldolcbaaGreatDoor.PA
open Go.RowKit Go.Shelf Go.Proofs.YtodbabeldolcbaaGreatDoorW.PrintWords Go.Proofs.YtodbabeldolcbaaGreatDoorW.PrintLast Go.Proofs.YtodbabeldolcbaaGreatDoorW.PrintMore Go.Proofs.YtodbabeldolcbaaGreatDoor.M0
attribute [local go_sem] Oper.semAt_some
set_option linter.unusedVariables false
set_option linter.unusedSimpArgs false
theorem Zb9 {fn : Func} {p q : Tmp} (h : fn.results = #[.cell p 51, .cell q 24]) (tmps : Array Value) (w : World) (g g2 : Nat) (t : TypeId) (cs : Array Value) (fr : Nat × Nat) (x : Int)
    (hp : tmps.getD p undef = .pointer (some ⟨g, 0, none⟩)) (hq : tmps.getD q undef = .pointer (some ⟨g2, 0, none⟩)) (hg : w.heap[g]? = some (.cells cs t fr)) (hc : w.cell? ⟨g2, 0, none⟩ = some (.int .i64 x)) (hi : (Tryz.prog.info? 51).map (·.size) = some cs.size) :
    (results fn tmps).run Tryz.prog w = .ok (.tuple #[.agg cs, .int .i64 x]) w := by
  have hp' : tmps[p]?.getD undef = .pointer (some ⟨g, 0, none⟩) := by simpa using hp
  have hq' : tmps[q]?.getD undef = .pointer (some ⟨g2, 0, none⟩) := by simpa using hq
  have h1 := run_loadVar_row w g t 51 cs fr _ hg Tryz.underlying51 rfl hi
  have h2 : (loadVar 24 ⟨g2, 0, none⟩).run Tryz.prog w = .ok (.int .i64 x) w := by simp [go_sem, hc]
  simp [results, h, hp', hq', asAddr, h1, h2]
structure St (w W : World) (rest : ByteArray) (bad : Bool) : Prop where
  r0 : W.heap[w.heap.size]? = some (.cells #[.int .i64 0, .int .i64 0, .int .i64 0, .slice none 0 0] 51 (0, 0))
  r1 : W.heap[w.heap.size + 1]? = some (.cells #[.int .i64 0] 24 (0, 0))
  ln : W.heap[w.heap.size + 1 + 1]? = some (.cells #[.string rest, .bool bad] 134 (0, 0))
  bel : Below w.heap.size w W
theorem St.start (w : World) (rest : ByteArray) (bad : Bool) : St w (((w.alloc (.cells #[.int .i64 0, .int .i64 0, .int .i64 0, .slice none 0 0] 51)).alloc (.cells #[.int .i64 0] 24)).alloc (.cells #[.string rest, .bool bad] 134)) rest bad :=
  ⟨Zab (Zab (Za9 w _) _) _, by have := Zab (Za9 (w.alloc (.cells #[.int .i64 0, .int .i64 0, .int .i64 0, .slice none 0 0] 51)) (.cells #[.int .i64 0] 24)) (.cells #[.string rest, .bool bad] 134); rwa [World.size_alloc] at this,
   by have := Za9 ((w.alloc (.cells #[.int .i64 0, .int .i64 0, .int .i64 0, .slice none 0 0] 51)).alloc (.cells #[.int .i64 0] 24)) (.cells #[.string rest, .bool bad] 134); rwa [World.size_alloc, World.size_alloc] at this,
   Zal (Zal (Zal (Below.refl _ _) _) _) _⟩
theorem St.off {w W W' : World} {rest rest' : ByteArray} {bad bad' : Bool} (h : St w W rest bad) (hL : W'.heap[w.heap.size + 1 + 1]? = some (.cells #[.string rest', .bool bad'] 134 (0, 0))) (hO : Off (w.heap.size + 1 + 1) W W') : St w W' rest' bad' :=
  ⟨hO.2.1 _ _ (by omega) h.r0, hO.2.1 _ _ (by omega) h.r1, hL, hO.1 _ _ (by omega) h.bel⟩
theorem St.below {w W W' : World} {rest : ByteArray} {bad : Bool} (h : St w W rest bad) (hb : Below W.heap.size W W') : St w W' rest bad :=
  ⟨Zah h.r0 hb, Zah h.r1 hb, Zah h.ln hb, Zae h.bel hb⟩
theorem St.alloc {w W : World} {rest : ByteArray} {bad : Bool} (h : St w W rest bad) (o : Obj) : St w (W.alloc o) rest bad :=
  ⟨Zab h.r0 o, Zab h.r1 o, Zab h.ln o, Zal h.bel o⟩
theorem St.far {w W : World} {rest : ByteArray} {bad : Bool} (h : St w W rest bad) {g i : Nat} (v : Value) (hg : w.heap.size + 1 + 1 < g) : St w (W.setCell ⟨g, i, none⟩ v) rest bad :=
  ⟨Zaq h.r0 (by show w.heap.size ≠ g; omega) _, Zaq h.r1 (by show w.heap.size + 1 ≠ g; omega) _, Zaq h.ln (by show w.heap.size + 1 + 1 ≠ g; omega) _, Zag h.bel (by omega)⟩
theorem St.gt {w W : World} {rest : ByteArray} {bad : Bool} (h : St w W rest bad) (hG : GT 2 w) : GT 1 W := GT.below (by omega) hG h.bel
theorem St.gtwo {w W : World} {rest : ByteArray} {bad : Bool} (h : St w W rest bad) (hG : GT 2 w) : GT 2 W := GT.below (by omega) hG h.bel
theorem St.lt {w W : World} {rest : ByteArray} {bad : Bool} (h : St w W rest bad) : w.heap.size + 1 + 1 < W.heap.size := Za3 h.ln
theorem rows_own {W W' : World} {base : Nat} {v : Value} {qs : List S88} {row : Option Nat} (h : Kd.R k88 88 W base (fun _ => True) v qs) (hg : W.grownBy W' row) (hr : ∀ r, row = some r → ∃ o : Obj, W.heap[r]? = some o ∧ o.isCells = false) : Kd.R k88 88 W' base (fun _ => True) v qs := by
  refine Kd.R_mono (Kd.R_grown (Kd.R_bound h) hg (fun k hk he => ?_)) (fun _ _ => trivial)
  obtain ⟨o, ho, hc⟩ := hr k he.symm
  obtain ⟨_, _, _, q, _, cells, hb⟩ := hk
  rw [hb] at ho
  cases ho
  cases hc
theorem cells_own {W W' : World} {row : Option Nat} {k : Nat} {cs : Array Value} {t : TypeId} (h : W.heap[k]? = some (.cells cs t (0, 0))) (hg : W.grownBy W' row) (hr : ∀ r, row = some r → ∃ o : Obj, W.heap[r]? = some o ∧ o.isCells = false) : W'.heap[k]? = some (.cells cs t (0, 0)) :=
  (grownBy_keeps_cells hg hr h rfl).trans h
structure LoopI (w : World) (g : Nat) (t tm sr : Int) (pre : List ByteArray) (W : World) (v : Value) (qs : List S88) : Prop where
  txt : Texts pre qs
  row : Kd.R k88 88 W w.heap.size (fun _ => True) v qs
  rb : W.heap[g]? = some (.cells #[.int .i64 t, .int .i64 tm, .int .i64 sr, v] 51 (0, 0))
  r0 : W.heap[w.heap.size]? = some (.cells #[.int .i64 0, .int .i64 0, .int .i64 0, .slice none 0 0] 51 (0, 0))
  r1 : W.heap[w.heap.size + 1]? = some (.cells #[.int .i64 0] 24 (0, 0))
  bel : Below w.heap.size w W
structure LoopX (w : World) (pre : List ByteArray) (W : World) : Prop where
  no : ∃ ini x, pre = ini ++ [x] ∧ ∀ p, ¬ Forms p x
  r0 : W.heap[w.heap.size]? = some (.cells #[.int .i64 0, .int .i64 0, .int .i64 0, .slice none 0 0] 51 (0, 0))
  r1 : W.heap[w.heap.size + 1]? = some (.cells #[.int .i64 34] 24 (0, 0))
  bel : Below w.heap.size w W
theorem LoopI.own {w : World} {g B : Nat} {t tm sr : Int} (hB : w.heap.size ≤ B) : OwnFrom B (fun pre W => ∃ v qs, LoopI w g t tm sr pre W v qs) := by
  rintro pre W W' row ⟨v, qs, h⟩ hg hr
  have hr' : ∀ r, row = some r → ∃ o : Obj, W.heap[r]? = some o ∧ o.isCells = false := fun r e => (hr r e).2
  exact ⟨v, qs, h.txt, rows_own h.row hg hr', cells_own h.rb hg hr', cells_own h.r0 hg hr', cells_own h.r1 hg hr', h.bel.grown hg h.bel.size (fun k e => Nat.le_trans hB (hr k e).1)⟩
theorem LoopX.own {w : World} {B : Nat} (hB : w.heap.size ≤ B) : OwnFrom B (fun pre W => LoopX w pre W) := by
  rintro pre W W' row h hg hr
  have hr' : ∀ r, row = some r → ∃ o : Obj, W.heap[r]? = some o ∧ o.isCells = false := fun r e => (hr r e).2
  exact ⟨h.no, cells_own h.r0 hg hr', cells_own h.r1 hg hr', h.bel.grown hg h.bel.size (fun k e => Nat.le_trans hB (hr k e).1)⟩
theorem LoopI.set {w : World} {g b0 bs b2 : Nat} {t tm sr : Int} {pre : List ByteArray} {W : World} {v0 : ByteArray} {r : ByteArray} (hx : Boxes b0 bs b2 W r) (h1 : w.heap.size + 1 < bs) (h2 : bs ≠ g) (h : ∃ v qs, LoopI w g t tm sr pre W v qs) : ∃ v qs, LoopI w g t tm sr pre (W.setCell ⟨bs, 0, none⟩ (.string v0)) v qs := by
  obtain ⟨v, qs, h⟩ := h
  exact ⟨v, qs, h.txt, Kd.R_set h.row hx.txt (by decide) 0 _, Zaq h.rb (fun e => h2 e.symm) _, Zaq h.r0 (by show w.heap.size ≠ bs; omega) _, Zaq h.r1 (by show w.heap.size + 1 ≠ bs; omega) _, Zag h.bel (by omega)⟩
theorem KeepsOthers.of_below {W W' : World} (h : Below W.heap.size W W') : KeepsOthers W W' := ⟨h.size, fun k o hk _ => Zah hk h⟩
theorem new_cells4 (W : World) (cs : List Value) (T : TypeId) (j : Nat) (u : Value) (h : cs[j]? = some u) : (W.alloc (.cells cs.toArray T)).cell? (Addr.add ⟨W.heap.size, 0, none⟩ j) = some u := by
  have h1 := Zaf (Za9 W (.cells cs.toArray T)) j
  have h2 : Addr.add ⟨W.heap.size, 0, none⟩ j = ⟨W.heap.size, j, none⟩ := by simp [Addr.add]; exact fun h => h.symm
  rw [h2, h1]
  simpa using h
theorem one4 (a d : ByteArray) (b c : Int) : ∀ u ∈ ([.string a, .int .i64 b, .int .i64 c, .string d] : List Value), u.oneCell' = true := by
  intro u hu
  simp only [List.mem_cons, List.not_mem_nil, or_false] at hu
  rcases hu with rfl | rfl | rfl | rfl <;> rfl
theorem infoPair : (Tryz.prog.info? 88).map (fun i => (i.zero, i.size, i.bytes)) = some (some (.agg #[.string ⟨#[]⟩, .int .i64 0, .int .i64 0, .string ⟨#[]⟩]), 4, 48) := by kernel_rfl
theorem parts_of {a0 r5 tp : ByteArray} {q : RecT} (hq : Zbw q a0) (hr : L r5 = Zbt q.2.2.2) (hne : ¬ L r5 = []) (htp : (⟨(Lib.trimPrefix (L r5) [32]).toArray⟩ : ByteArray) = tp) :
    Zbz tp = q.2.2.2.map (fun p => ⟨(Zcj (L p.f0) p.f1 p.f2 (L p.f3)).toArray⟩) ∧ goodP q.2.2.2 := by
  obtain ⟨_, _, _, _, _, hp⟩ := checkR_ok hq.2.1
  have hg : goodP q.2.2.2 := Zcm _ [] hp
  refine ⟨?_, hg⟩
  rcases hq4 : q.2.2.2 with _ | ⟨z, zs⟩
  · rw [hq4] at hr; exact absurd hr hne
  · rw [hq4, Zb4] at hr
    rw [hq4] at hg
    have e : Lib.trimPrefix (L r5) [32] = Zcj (L z.f0) z.f1 z.f2 (L z.f3) ++ Zbt zs := by
      rw [hr]; rfl
    rw [← htp, e]
    unfold Zbz
    rw [L_mk, splitB_restL z zs hg, List.map_map]
    rfl
theorem putObj_below {w W : World} {D : Nat} {o : Obj} (h : Below w.heap.size w W) (hD : w.heap.size ≤ D) : Below w.heap.size w (W.putObj D o) := h.grown (grownBy_putObj' W D o) h.size (fun k e => by cases e; exact hD)
noncomputable def record_Parse.f (a0 : ByteArray) : Option (Int × Int × Int × List S88 × Int) :=
  if a0.size ≤ 100000 then some ((Zcl a0).1.1, (Zcl a0).1.2.1, (Zcl a0).1.2.2.1, (Zcl a0).1.2.2.2, (Zcl a0).2) else none
set_option maxHeartbeats 8000000 in
set_option maxRecDepth 100000 in
theorem rparse_walk (a0 x1 r1 nm r2 s3 r3 s4 r4 s5 r5 : ByteArray) (o1 o2 o3 o4 o5 : Bool) (t : Int) (w : World) (hG : GT 2 w) (hs : a0.size ≤ 100000) (C : Cuts a0 x1 r1 nm r2 s3 r3 s4 r4 s5 r5 o1 o2 o3 o4 o5) (ht : record_Number.f nm = some t)
    (y1 y2 y3 : Int) (y4 : List S88) (y5 : Int) (hW : Zcl a0 = ((y1, y2, y3, y4), y5)) :
    Calls Tryz.prog 47 #[.string a0] w fun e w' => ∃ v3_ : Value, e = .returned (.tuple #[.agg #[.int .i64 y1, .int .i64 y2, .int .i64 y3, v3_], .int .i64 y5]) ∧ Kd.R k88 88 w' w.heap.size (fun _ => True) v3_ y4 ∧ Below w.heap.size w w' := by
  have z1 := Zcg C.c1
  have z2 := Zcg C.c2
  have z3 := Zcg C.c3
  have z4 := Zcg C.c4
  have z5 := Zcg C.c5
  obtain ⟨b0, hb0⟩ : ∃ b, decide ((31240 : Int) < (a0.size : Int)) = b := ⟨_, rfl⟩
  have HZ := Zaa.mk (show r1.size ≤ 1000000 ∧ r2.size ≤ 1000000 ∧ r3.size ≤ 1000000 ∧ r4.size ≤ 1000000 ∧ s3.size ≤ 1000000 ∧ s4.size ≤ 1000000 ∧ s5.size ≤ 1000000 ∧ a0.size ≤ 1000000 by omega)
  have HC := Zaa.mk C
  have HG := Zaa.mk hG
  have HS0 := Zaa.mk (St.start w a0 b0)
  have HT := Zaa.mk ht
  have HW := Zaa.mk hW
  have HSZ := Zaa.mk hs
  clear C hG z1 z2 z3 z4 z5 ht hs hW
  refine (callsIn_wide (n := 5)).1 ?_
  refine callsIn_of_wp_marks Tryz.func47 rfl trivial ?_ rfl
  simp only [Tryz.ntmps47, List.size_toArray, List.length_cons, List.length_nil, Nat.reduceAdd, Nat.reduceSub, Array.replicate_succ, Array.replicate_zero, List.push_toArray, List.append_toArray, List.nil_append, List.cons_append]
  gi_wp2_with (first
    | (refine ⟨trivial, ?_⟩; gi_at_call 89; refine (callsIn_wide.2 (reader_until (w.heap.size + 1 + 1) 134 a0 sType x1 r1 b0 o1 _ (HS0.out.gt HG.out) HZ.out.2.2.2.2.2.2.2 HS0.out.ln HC.out.c1)).mono ?_; rintro e w1 ⟨rfl, hL, hO⟩; have HS1 := Zaa.mk (HS0.out.off hL hO); clear hL hO HS0)
    | (refine ⟨trivial, ?_⟩; gi_at_call 89; refine (callsIn_wide.2 (reader_until (w.heap.size + 1 + 1) 134 r1 sMsg nm r2 (b0 || !o1) o2 _ (HS1.out.gt HG.out) HZ.out.1 HS1.out.ln HC.out.c2)).mono ?_; rintro e w2 ⟨rfl, hL, hO⟩; have HS2 := Zaa.mk (HS1.out.off hL hO); clear hL hO HS1)
    | (refine ⟨trivial, ?_⟩; gi_at_call 90; refine (callsIn_wide.2 (record_Number.calls nm t _ (HS2.out.gtwo HG.out) HT.out)).mono ?_; rintro e w3 ⟨rfl, hb⟩; have HS3 := Zaa.mk (HS2.out.below hb); have L3 := HS3.out.lt; clear hb HS2)
    | (refine ⟨trivial, ?_⟩; gi_at_call 91; refine (callsIn_wide.2 (line_number_any (w.heap.size + 1 + 1) 134 r2 ⟨#[46]⟩ s3 r3 ((b0 || !o1) || !o2) o3 1099511627 w _ (GT.mono (by omega) HG.out) (HS3.out.alloc _).bel (by omega) HZ.out.2.1 HZ.out.2.2.2.2.1 (HS3.out.alloc _).ln HC.out.c3)).mono ?_; rintro e w4 ⟨n3, b3, rfl, hL, hO, hy, hn⟩; have HS4 := Zaa.mk ((HS3.out.alloc _).off hL hO); have RB4 := Zaa.mk (hO.2.1 _ _ (Nat.ne_of_gt L3) (Za9 w3 (.cells #[.int .i64 t, .int .i64 0, .int .i64 0, .slice none 0 0] 51))); have Y3 := Zaa.mk hy; have N3 := Zaa.mk hn; clear hL hO hy hn HS3)
    | (refine ⟨trivial, ?_⟩; gi_at_call 91; refine (callsIn_wide.2 (line_number_any (w.heap.size + 1 + 1) 134 r3 ⟨#[58]⟩ s4 r4 b3 o4 999 w _ (GT.mono (by omega) HG.out) HS4.out.bel (by omega) HZ.out.2.2.1 HZ.out.2.2.2.2.2.1 HS4.out.ln HC.out.c4)).mono ?_; rintro e w5 ⟨n4, b4, rfl, hL, hO, hy, hn⟩; have HS5 := Zaa.mk (HS4.out.off hL hO); have RB5 := Zaa.mk (hO.2.1 _ _ (Nat.ne_of_gt L3) RB4.out); have Y4 := Zaa.mk hy; have N4 := Zaa.mk hn; have f1 : w5.frozen? ⟨w3.heap.size, 1, none⟩ = false := Zak RB5.out 1; have d1 : w5.cell? ⟨w3.heap.size, 1, none⟩ = some (.int .i64 0) := (Zaf RB5.out 1).trans rfl; clear hL hO hy hn HS4 RB4)
    | (refine ⟨trivial, ?_⟩; gi_at_call 91; refine (callsIn_wide.2 (line_number_any (w.heap.size + 1 + 1) 134 r4 ⟨#[41, 58]⟩ s5 r5 b4 o5 1073741824 w _ (GT.mono (by omega) HG.out) (HS5.out.far _ L3).bel (by omega) HZ.out.2.2.2.1 HZ.out.2.2.2.2.2.2.1 (HS5.out.far _ L3).ln HC.out.c5)).mono ?_; rintro e w6 ⟨n5, b5, rfl, hL, hO, hy, hn⟩; have HS6 := Zaa.mk ((HS5.out.far _ L3).off hL hO); have RB6 := Zaa.mk (hO.2.1 _ _ (Nat.ne_of_gt L3) (Zan RB5.out 1 _)); have Y5 := Zaa.mk hy; have N5 := Zaa.mk hn; have f1 : w6.frozen? ⟨w3.heap.size, 1, none⟩ = false := Zak RB6.out 1; have f2 : w6.frozen? ⟨w3.heap.size, 2, none⟩ = false := Zak RB6.out 2; have d0 : w6.cell? ⟨w3.heap.size, 0, none⟩ = some (.int .i64 t) := (Zaf RB6.out 0).trans rfl; have d1 : w6.cell? ⟨w3.heap.size, 1, none⟩ = some (.int .i64 n4) := (Zaf RB6.out 1).trans rfl; have d2 : w6.cell? ⟨w3.heap.size, 2, none⟩ = some (.int .i64 0) := (Zaf RB6.out 2).trans rfl; have d3 : w6.cell? ⟨w3.heap.size, 3, none⟩ = some (.slice none 0 0) := (Zaf RB6.out 3).trans rfl; have e0 : w6.cell? ⟨w.heap.size + 1 + 1, 0, none⟩ = some (.string r5) := (Zaf HS6.out.ln 0).trans rfl; have e1 : w6.cell? ⟨w.heap.size + 1 + 1, 1, none⟩ = some (.bool b5) := (Zaf HS6.out.ln 1).trans rfl; have NB1 := Nat.ne_of_gt L3; have NB2 := Nat.ne_of_lt L3; have x0 : w6.cell? ⟨w.heap.size, 0, none⟩ = some (.int .i64 0) := (Zaf HS6.out.r0 0).trans rfl; have g0 : w6.frozen? ⟨w.heap.size, 0, none⟩ = false := Zak HS6.out.r0 0; have x1 : w6.cell? ⟨w.heap.size, 1, none⟩ = some (.int .i64 0) := (Zaf HS6.out.r0 1).trans rfl; have g1 : w6.frozen? ⟨w.heap.size, 1, none⟩ = false := Zak HS6.out.r0 1; have x2 : w6.cell? ⟨w.heap.size, 2, none⟩ = some (.int .i64 0) := (Zaf HS6.out.r0 2).trans rfl; have g2 : w6.frozen? ⟨w.heap.size, 2, none⟩ = false := Zak HS6.out.r0 2; have x3 : w6.cell? ⟨w.heap.size, 3, none⟩ = some (.slice none 0 0) := (Zaf HS6.out.r0 3).trans rfl; have g3 : w6.frozen? ⟨w.heap.size, 3, none⟩ = false := Zak HS6.out.r0 3; have xe : w6.cell? ⟨w.heap.size + 1, 0, none⟩ = some (.int .i64 0) := (Zaf HS6.out.r1 0).trans rfl; have ge : w6.frozen? ⟨w.heap.size + 1, 0, none⟩ = false := Zak HS6.out.r1 0; clear hL hO hy hn HS5 RB5; refine Hid.out ?_))
  refine Lib.hid ?_
  have NC1 : w.heap.size ≠ w3.heap.size := by omega
  have NC2 : w.heap.size + 1 ≠ w3.heap.size := by omega
  have NC3 : w3.heap.size ≠ w.heap.size := by omega
  have NC4 : w3.heap.size ≠ w.heap.size + 1 := by omega
  have NE1 : w.heap.size + 1 ≠ w.heap.size := by omega
  have HN := Zaa.mk (show ∀ q, Zbw q a0 → b5 = false ∧ t = q.1 ∧ n4 + 1000 * n3 = q.2.1 ∧ n5 = q.2.2.1 ∧ L r5 = Zbt q.2.2.2 from fun q hq => by
    obtain ⟨h1, h2, h3, h4, h5, hn, ha3, ha4, ha5, hr, t0, t1, s0, s1, hz⟩ := HC.out.forms hq
    have hb : ((b0 || !o1) || !o2) = false := by rw [h1, h2, ← hb0, decide_eq_false (by omega)]; rfl
    obtain ⟨e3, m3⟩ := N3.out hb h3 _ ha3 (by omega) (by omega)
    obtain ⟨e4, m4⟩ := N4.out e3 h4 _ ha4 (by omega) (by omega)
    obtain ⟨e5, m5⟩ := N5.out e4 h5 _ ha5 s0 s1
    have ht := HT.out
    rw [hn] at ht
    exact ⟨e5, (Option.some.inj ht).symm, by omega, m5, hr⟩)
  cases b5 with
  | true =>
    gi_wp2
    refine ⟨_, Zb9 rfl _ _ w.heap.size (w.heap.size + 1) 51 #[.int .i64 0, .int .i64 0, .int .i64 0, .slice none 0 0] (0, 0) 34 rfl rfl ?hg ?hc (by kernel_rfl), ?_⟩
    case hg => exact Zaq (Zan (Zan (Zan (Zan (Zaq HS6.out.r0 NC1 _) 0 _) 1 _) 2 _) 3 _) (by show w.heap.size ≠ w.heap.size + 1; omega) _
    case hc => exact (Zaf (Zan (Zaq (Zaq (Zaq (Zaq (Zaq HS6.out.r1 NC2 _) NE1 _) NE1 _) NE1 _) NE1 _) 0 _) 0).trans rfl
    have hz := HW.out
    rw [parseW_no (fun q hq => absurd (HN.out q hq).1 (by decide))] at hz
    simp only [zeroR, Prod.mk.injEq] at hz
    obtain ⟨⟨rfl, rfl, rfl, rfl⟩, rfl⟩ := hz
    exact ⟨_, rfl, Kd.R_nil _ _ _ _ _, Zag (Zag (Zag (Zag (Zag (Zag HS6.out.bel (by omega)) (Nat.le_refl _)) (Nat.le_refl _)) (Nat.le_refl _)) (Nat.le_refl _)) (Nat.le_succ _)⟩
  | false =>
    obtain ⟨hb4, _, _, p50, p51⟩ := Y5.out rfl
    obtain ⟨hb3, _, _, p40, p41⟩ := Y4.out hb4
    obtain ⟨_, _, _, p30, p31⟩ := Y3.out hb3
    have w1 : wrap64 (1000 * n3) = 1000 * n3 := wrap64_id (by omega) (by omega)
    have w2 : wrap64 (n4 + 1000 * n3) = n4 + 1000 * n3 := wrap64_id (by omega) (by omega)
    obtain ⟨tm, htm⟩ : ∃ tm, n4 + 1000 * n3 = tm := ⟨_, rfl⟩
    rw [htm] at w2
    by_cases hr5 : L r5 = []
    · have hq5 : r5.toList.isEmpty = true := by rw [toList_L, hr5]; rfl
      have HD := Zaa.mk (show Zbt ([] : List S88) = [] from rfl)
      have HF := Zaa.mk (show Zcl a0 = if Zby t tm n5 [] = (a0, 0) then ((t, tm, n5, []), 0) else (zeroR, 34) from parseW_of (p := (t, tm, n5, [])) rfl (fun q hq => by
        obtain ⟨_, e1, e2, e3, e4⟩ := HN.out q hq
        have e5 : q.2.2.2 = [] := by
          rw [hr5] at e4
          rcases hq4 : q.2.2.2 with _ | ⟨z, zs⟩
          · rfl
          · rw [hq4, Zb4] at e4; cases e4
        obtain ⟨q1, q2, q3, q4⟩ := q
        simp only at e1 e2 e3 e5
        rw [← e1, ← e2, ← e3, e5, htm]))
      obtain ⟨fs, fe, hff⟩ : ∃ fs fe, Zby t tm n5 [] = (fs, fe) := ⟨_, _, rfl⟩
      have HFF := Zaa.mk (show record_Format.f t tm n5 [] = some (fs, fe) by unfold record_Format.f; rw [← hff]; rfl)
      have HR := Zaa.mk (show (((y1, y2, y3, y4), y5) : RecT × Int) = if fe = 0 ∧ fs = a0 then ((t, tm, n5, []), 0) else (zeroR, 34) by
        rw [← HW.out, HF.out, hff]
        by_cases hq : fe = 0 ∧ fs = a0
        · rw [if_pos hq, hq.1, hq.2, if_pos rfl]
        · rw [if_neg hq, if_neg (fun e => hq ⟨(Prod.mk.inj e).2, (Prod.mk.inj e).1⟩)])
      clear hff hr5
      gi_wp2_with (first
        | (refine ⟨trivial, ?_⟩; gi_at_call 23; refine (callsIn_wide.2 (record_Format.calls t tm n5 none 0 [] fs fe _ (GT.below (Nat.le_refl 2) HG.out (Zag (Zag HS6.out.bel (by omega)) (by omega))) (Kd.C_nil _ _) (Nat.le_refl _) HFF.out)).mono ?_; rintro e w7 ⟨rfl, hb⟩; have HS7 := Zaa.mk (((HS6.out.far _ L3).far _ L3).below hb); have RB7 := Zaa.mk (Zah (Zan (Zan RB6.out 2 _) 1 _) hb); have x07 : w7.cell? ⟨w.heap.size, 0, none⟩ = some (.int .i64 0) := (Zaf HS7.out.r0 0).trans rfl; have g07 : w7.frozen? ⟨w.heap.size, 0, none⟩ = false := Zak HS7.out.r0 0; have x17 : w7.cell? ⟨w.heap.size, 1, none⟩ = some (.int .i64 0) := (Zaf HS7.out.r0 1).trans rfl; have g17 : w7.frozen? ⟨w.heap.size, 1, none⟩ = false := Zak HS7.out.r0 1; have x27 : w7.cell? ⟨w.heap.size, 2, none⟩ = some (.int .i64 0) := (Zaf HS7.out.r0 2).trans rfl; have g27 : w7.frozen? ⟨w.heap.size, 2, none⟩ = false := Zak HS7.out.r0 2; have x37 : w7.cell? ⟨w.heap.size, 3, none⟩ = some (.slice none 0 0) := (Zaf HS7.out.r0 3).trans rfl; have g37 : w7.frozen? ⟨w.heap.size, 3, none⟩ = false := Zak HS7.out.r0 3; have xe7 : w7.cell? ⟨w.heap.size + 1, 0, none⟩ = some (.int .i64 0) := (Zaf HS7.out.r1 0).trans rfl; have ge7 : w7.frozen? ⟨w.heap.size + 1, 0, none⟩ = false := Zak HS7.out.r1 0; have d07 : w7.cell? ⟨w3.heap.size, 0, none⟩ = some (.int .i64 t) := (Zaf RB7.out 0).trans rfl; have d17 : w7.cell? ⟨w3.heap.size, 1, none⟩ = some (.int .i64 tm) := (Zaf RB7.out 1).trans rfl; have d27 : w7.cell? ⟨w3.heap.size, 2, none⟩ = some (.int .i64 n5) := (Zaf RB7.out 2).trans rfl; have d37 : w7.cell? ⟨w3.heap.size, 3, none⟩ = some (.slice none 0 0) := (Zaf RB7.out 3).trans rfl; clear hb))
      · have hq : (!(fs.toList == a0.toList)) = true := by assumption
        rw [Zbl] at hq
        have hr := HR.out
        rw [if_neg (fun e => by rw [decide_eq_true e.2] at hq; cases hq)] at hr
        simp only [zeroR, Prod.mk.injEq] at hr
        obtain ⟨⟨rfl, rfl, rfl, rfl⟩, rfl⟩ := hr
        refine ⟨_, Zb9 rfl _ _ w.heap.size (w.heap.size + 1) 51 #[.int .i64 0, .int .i64 0, .int .i64 0, .slice none 0 0] (0, 0) 34 rfl rfl ?hg ?hc (by kernel_rfl), ?_⟩
        case hg => exact Zaq (Zan (Zan (Zan (Zan HS7.out.r0 0 _) 1 _) 2 _) 3 _) (by show w.heap.size ≠ w.heap.size + 1; omega) _
        case hc => exact (Zaf (Zan (Zaq (Zaq (Zaq (Zaq HS7.out.r1 NE1 _) NE1 _) NE1 _) NE1 _) 0 _) 0).trans rfl
        exact ⟨_, rfl, Kd.R_nil _ _ _ _ _, Zag (Zag (Zag (Zag (Zag HS7.out.bel (Nat.le_refl _)) (Nat.le_refl _)) (Nat.le_refl _)) (Nat.le_refl _)) (Nat.le_succ _)⟩
      · have hq : (!(fs.toList == a0.toList)) = false := by assumption
        have he : fe = 0 := by assumption
        rw [Zbl] at hq
        have hr := HR.out
        rw [if_pos ⟨he, of_decide_eq_true (by simpa using hq)⟩] at hr
        simp only [Prod.mk.injEq] at hr
        obtain ⟨⟨rfl, rfl, rfl, rfl⟩, rfl⟩ := hr
        refine ⟨_, Zb9 rfl _ _ w.heap.size (w.heap.size + 1) 51 #[.int .i64 y1, .int .i64 y2, .int .i64 y3, .slice none 0 0] (0, 0) 0 rfl rfl ?hg ?hc (by kernel_rfl), ?_⟩
        case hg => exact Zaq (Zan (Zan (Zan (Zan HS7.out.r0 0 _) 1 _) 2 _) 3 _) (by show w.heap.size ≠ w.heap.size + 1; omega) _
        case hc => exact (Zaf (Zan (Zaq (Zaq (Zaq (Zaq HS7.out.r1 NE1 _) NE1 _) NE1 _) NE1 _) 0 _) 0).trans rfl
        exact ⟨_, rfl, Kd.R_nil _ _ _ _ _, Zag (Zag (Zag (Zag (Zag HS7.out.bel (Nat.le_refl _)) (Nat.le_refl _)) (Nat.le_refl _)) (Nat.le_refl _)) (Nat.le_succ _)⟩
      · have he : ¬ fe = 0 := by assumption
        have hr := HR.out
        rw [if_neg (fun e => he e.1)] at hr
        simp only [zeroR, Prod.mk.injEq] at hr
        obtain ⟨⟨rfl, rfl, rfl, rfl⟩, rfl⟩ := hr
        refine ⟨_, Zb9 rfl _ _ w.heap.size (w.heap.size + 1) 51 #[.int .i64 0, .int .i64 0, .int .i64 0, .slice none 0 0] (0, 0) 34 rfl rfl ?hg ?hc (by kernel_rfl), ?_⟩
        case hg => exact Zaq (Zan (Zan (Zan (Zan HS7.out.r0 0 _) 1 _) 2 _) 3 _) (by show w.heap.size ≠ w.heap.size + 1; omega) _
        case hc => exact (Zaf (Zan (Zaq (Zaq (Zaq (Zaq HS7.out.r1 NE1 _) NE1 _) NE1 _) NE1 _) 0 _) 0).trans rfl
        exact ⟨_, rfl, Kd.R_nil _ _ _ _ _, Zag (Zag (Zag (Zag (Zag HS7.out.bel (Nat.le_refl _)) (Nat.le_refl _)) (Nat.le_refl _)) (Nat.le_refl _)) (Nat.le_succ _)⟩
    · have hq5 : r5.toList.isEmpty = false := by
        rw [toList_L]
        cases h : L r5 with
        | nil => exact absurd h hr5
        | cons b l => rfl
      obtain ⟨tp, htp⟩ : ∃ tp : ByteArray, (⟨(Lib.trimPrefix (L r5) [32]).toArray⟩ : ByteArray) = tp := ⟨_, rfl⟩
      have HTP := Zaa.mk htp
      have HQ5 := Zaa.mk hr5
      clear htp hr5
      gi_wp2_with (first
        | (refine ⟨trivial, ?_⟩; gi_at_call 93; refine (callsIn_wide.2 (Tryz.strings_TrimPrefix r5 ⟨#[32]⟩ _)).mono ?_; rintro e w7 ⟨rfl, rfl⟩; rw [show (⟨(Lib.trimPrefix r5.data.toList (⟨#[32]⟩ : ByteArray).data.toList).toArray⟩ : ByteArray) = tp from HTP.out])
        | (refine ⟨trivial, ?_⟩; gi_at_call 92; refine (callsIn_wide.2 (split_seq tp _)).mono ?_; rintro e w8 ⟨rfl, rfl⟩))
      have hsz6 : ((w6.setCell ⟨w3.heap.size, 2, none⟩ (.int .i64 n5)).setCell ⟨w3.heap.size, 1, none⟩ (.int .i64 tm)).heap.size = w6.heap.size := by simp [World.setCell]
      obtain ⟨V, hV⟩ : ∃ V, (w6.setCell ⟨w3.heap.size, 2, none⟩ (.int .i64 n5)).setCell ⟨w3.heap.size, 1, none⟩ (.int .i64 tm) = V := ⟨_, rfl⟩
      have SV : St w V r5 false := by rw [← hV]; exact (HS6.out.far _ L3).far _ L3
      have RV : V.heap[w3.heap.size]? = some (.cells #[.int .i64 t, .int .i64 tm, .int .i64 n5, .slice none 0 0] 51 (0, 0)) := by rw [← hV]; exact Zan (Zan RB6.out 2 _) 1 _
      rw [hV] at hsz6 ⊢
      have hlt3 : w3.heap.size < V.heap.size := Za3 RV
      have hB1 : (((V.alloc (.cells #[.string tp] 9)).alloc (.cells #[.string ⟨#[32]⟩] 9)).alloc (.cells #[.int .i64 0] 3)).heap[w6.heap.size]? = some (.cells #[.string tp] 9 (0, 0)) := by
        rw [← hsz6]; exact Zab (Zab (Za9 V _) _) _
      have hB2 : (((V.alloc (.cells #[.string tp] 9)).alloc (.cells #[.string ⟨#[32]⟩] 9)).alloc (.cells #[.int .i64 0] 3)).heap[w6.heap.size + 1]? = some (.cells #[.string ⟨#[32]⟩] 9 (0, 0)) := by
        have := Zab (Za9 (V.alloc (.cells #[.string tp] 9)) (.cells #[.string ⟨#[32]⟩] 9)) (.cells #[.int .i64 0] 3)
        rwa [World.size_alloc, hsz6] at this
      have hB3 : (((V.alloc (.cells #[.string tp] 9)).alloc (.cells #[.string ⟨#[32]⟩] 9)).alloc (.cells #[.int .i64 0] 3)).heap[w6.heap.size + 1 + 1]? = some (.cells #[.int .i64 0] 3 (0, 0)) := by
        have := Za9 ((V.alloc (.cells #[.string tp] 9)).alloc (.cells #[.string ⟨#[32]⟩] 9)) (.cells #[.int .i64 0] 3)
        rwa [World.size_alloc, World.size_alloc, hsz6] at this
      obtain ⟨V3, hV3⟩ : ∃ V3, ((V.alloc (.cells #[.string tp] 9)).alloc (.cells #[.string ⟨#[32]⟩] 9)).alloc (.cells #[.int .i64 0] 3) = V3 := ⟨_, rfl⟩
      have S3 : St w V3 r5 false := by rw [← hV3]; exact ((SV.alloc _).alloc _).alloc _
      have R3 : V3.heap[w3.heap.size]? = some (.cells #[.int .i64 t, .int .i64 tm, .int .i64 n5, .slice none 0 0] 51 (0, 0)) := by rw [← hV3]; exact Zab (Zab (Zab RV _) _) _
      rw [hV3] at hB1 hB2 hB3 ⊢
      have htz : tp.size ≤ 100000 := by
        rw [← HTP.out, Zbk]
        have := HSZ.out
        have hz5 := Za2 r5
        have h5 := (Zcg HC.out.c5).2
        have h4 := (Zcg HC.out.c4).2
        have h3 := (Zcg HC.out.c3).2
        have h2 := (Zcg HC.out.c2).2
        have h1 := (Zcg HC.out.c1).2
        unfold Lib.trimPrefix
        split
        · rw [List.length_drop]; omega
        · omega
      have hle6 : w.heap.size + 1 + 1 < w6.heap.size := HS6.out.lt
      have hlt36 : w3.heap.size < w6.heap.size := Za3 RB6.out
      have hSV3 : w6.heap.size ≤ V3.heap.size := Nat.le_of_lt (Za3 hB1)
      clear hV hV3 SV RV
      refine range_split (by decide) (w6.heap.size + 1) w6.heap.size (w6.heap.size + 1 + 1) rfl (by omega) (by omega) tp (by omega) ⟨hB2, hB1, hB3⟩
        (fun pre W => ∃ v qs, LoopI w w3.heap.size t tm n5 pre W v qs) (fun pre W => LoopX w pre W) (LoopI.own (by omega)) (LoopX.own (by omega)) (fun pre W v0 r hx h => LoopI.set hx (by omega) (by omega) h)
        ⟨.slice none 0 0, [], .nil, Kd.R_nil _ _ _ _ _, R3, S3.r0, S3.r1, S3.bel⟩
        7 ?assign ?body ?done ?stop
      case assign =>
        intro l x W K hK
        simp only [List.zip_toArray, List.zip_cons_cons, List.zip_nil_right, List.foldl_toArray, List.foldl_cons, List.foldl_nil, List.setIfInBounds_toArray, List.set_cons_zero, List.set_cons_succ] at hK ⊢
        gi_wp2
        exact hK
      case body =>
        rintro l pre x post W r hpart hbox ⟨v, qs, hI⟩
        simp only [List.zip_toArray, List.zip_cons_cons, List.zip_nil_right, List.foldl_toArray, List.foldl_cons, List.foldl_nil, List.setIfInBounds_toArray, List.set_cons_zero, List.set_cons_succ]
        obtain ⟨hpl, hxl⟩ := partsB_bound hpart
        obtain ⟨A, c, rfl⟩ := Kd.R_slice hI.row
        have HI := Zaa.mk hI
        have HBX := Zaa.mk hbox
        have hgt : GT 1 W := GT.below (by omega) HG.out hI.bel
        have HGT := Zaa.mk hgt
        have hd3 : 1 ≤ 5 - 1 - 1 := by decide
        clear hI hbox hgt
        rcases parseV_cases x with ⟨p, hf, hpv⟩ | ⟨hno, hpv⟩
        · have HVP := Zaa.mk (show value_Parse.f x = some (p.f0, p.f1, p.f2, p.f3, 0) by unfold value_Parse.f; rw [if_pos (by omega), hpv])
          have HFO := Zaa.mk hf
          clear hf hpv
          obtain ⟨i0, hi, hz0, hz1, hz2⟩ := info_parts infoPair
          have hql : qs.length ≤ 100000 := by rw [← HI.out.txt.length]; omega
          gi_wp2_with (first
            | (refine ⟨trivial, ?_⟩; gi_at_call 94; refine (CallsIn.inRound l (callsIn_wide.2 (value_Parse.calls x _ _ _ _ _ W HGT.out HVP.out))).mono ?_; rintro e W1 ⟨rfl, hb⟩; have K0 := Zaa.mk (Zah HI.out.r0 hb); have K1 := Zaa.mk (Zah HI.out.r1 hb); have K2 := Zaa.mk (Zah HI.out.rb hb); have KO := Zaa.mk (KeepsOthers.of_below hb); have KB := Zaa.mk (Zae HI.out.bel hb); have KX := Zaa.mk (HBX.out.of_blocks (fun k hk => hb.block k (by have := Za3 HBX.out.sep; have := Za3 HBX.out.txt; have := Za3 HBX.out.sav; omega))); have HR1 := Zaa.mk (Kd.R_below HI.out.row hb); have hlt2 : w3.heap.size < W1.heap.size := Za3 K2.out; have d09 : W1.cell? ⟨w3.heap.size, 0, none⟩ = some (.int .i64 t) := (Zaf K2.out 0).trans rfl; have k09 : W1.frozen? ⟨w3.heap.size, 0, none⟩ = false := Zak K2.out 0; have d19 : W1.cell? ⟨w3.heap.size, 1, none⟩ = some (.int .i64 tm) := (Zaf K2.out 1).trans rfl; have k19 : W1.frozen? ⟨w3.heap.size, 1, none⟩ = false := Zak K2.out 1; have d29 : W1.cell? ⟨w3.heap.size, 2, none⟩ = some (.int .i64 n5) := (Zaf K2.out 2).trans rfl; have k29 : W1.frozen? ⟨w3.heap.size, 2, none⟩ = false := Zak K2.out 2; have d39 : W1.cell? ⟨w3.heap.size, 3, none⟩ = some (.slice A qs.length c) := (Zaf K2.out 3).trans rfl; have k39 : W1.frozen? ⟨w3.heap.size, 3, none⟩ = false := Zak K2.out 3; clear hb)
            | (gi_at_builtin
               obtain ⟨h0, inner, hown, hr⟩ := Kd.R_alloc (Kd.R_alloc HR1.out (.cells #[.string p.f0, .int .i64 p.f1, .int .i64 p.f2, .string p.f3] 88)) (.cells #[.string p.f0, .int .i64 p.f1, .int .i64 p.f2, .string p.f3] 88)
               refine wpListIn_append_own_at _ rfl (.tmp 72) (.tmp 74) 49 rfl w.heap.size 88 i0 _ 4 48 Tryz.underlying49 hi hz0 hz1 hz2 rfl (by decide) _ qs.length inner rfl hown ⟨W1.heap.size + 1, 0, none⟩ 1 1 [.string p.f0, .int .i64 p.f1, .int .i64 p.f2, .string p.f3] rfl rfl (by have := new_cells4 (W1.alloc (.cells #[.string p.f0, .int .i64 p.f1, .int .i64 p.f2, .string p.f3] 88)) [.string p.f0, .int .i64 p.f1, .int .i64 p.f2, .string p.f3] 88; rw [World.size_alloc] at this; exact this) (one4 _ _ _ _) (by unfold maxLen; omega) (by omega) (by have := KB.out.size; simp only [World.size_alloc]; omega) ?_
               intro v' W3 hown' hgrow _ hat
               refine Hid.out ?_))
          refine Lib.hid ?_
          have HRX := Kd.R_alloc (Kd.R_alloc HR1.out (.cells #[.string p.f0, .int .i64 p.f1, .int .i64 p.f2, .string p.f3] 88)) (.cells #[.string p.f0, .int .i64 p.f1, .int .i64 p.f2, .string p.f3] 88)
          have HV := Zaa.mk (Kd.R_appended (d := k88) h0 hr (k88_mkM _ _ (fun _ => False) p) (fun _ hk => hk.elim) (fun _ _ => trivial) hown' hgrow (hat.imp id (fun h => ⟨_, h, Nat.le_refl _⟩)))
          have HV1 := Zaa.mk hgrow
          have J0 := Zaa.mk (Zb2 (Zab (Zab K0.out _) _) hgrow (Kd.R_ne HRX (Zab (Zab K0.out _) _) (by decide)))
          have J1 := Zaa.mk (Zb2 (Zab (Zab K1.out _) _) hgrow (Kd.R_ne HRX (Zab (Zab K1.out _) _) (by decide)))
          have J2 := Zaa.mk (Zb2 (Zab (Zab K2.out _) _) hgrow (Kd.R_ne HRX (Zab (Zab K2.out _) _) (by decide)))
          have JB := Zaa.mk (show Below w.heap.size w W3 from (Zal (Zal KB.out _) _).grown hgrow (by have := KB.out.size; simp only [World.size_alloc]; omega) (fun k e => own_base hown k e))
          have f3 : W3.frozen? ⟨w3.heap.size, 3, none⟩ = false := Zak J2.out 3
          have JK := Zaa.mk (KeepsOthers.of_grownBy hgrow (fun j o e ho => by obtain ⟨cells, hc⟩ := own_typed hown j e; rw [hc] at ho; cases ho; rfl))
          have c3 : W3.cell? ⟨w3.heap.size, 3, none⟩ = some (.slice A qs.length c) := (Zaf J2.out 3).trans rfl
          have JX := Zaa.mk (show Boxes (w6.heap.size + 1) w6.heap.size (w6.heap.size + 1 + 1) W3 r from
            ⟨Zb2 (Zab (Zab KX.out.sep _) _) hgrow (Kd.R_ne HRX (Zab (Zab KX.out.sep _) _) (by decide)),
             Zb2 (Zab (Zab KX.out.txt _) _) hgrow (Kd.R_ne HRX (Zab (Zab KX.out.txt _) _) (by decide)),
             Zb2 (Zab (Zab KX.out.sav _) _) hgrow (Kd.R_ne HRX (Zab (Zab KX.out.sav _) _) (by decide))⟩)
          obtain ⟨A9, c9, rfl⟩ := Kd.R_slice HV.out
          clear h0 hr hown hown' hgrow hat HRX
          gi_wp2
          have HVV := HV.out
          rw [List.length_append, List.length_singleton] at HVV
          refine ⟨(((KO.out.trans (KeepsOthers.alloc _ _)).trans (KeepsOthers.alloc _ _)).trans JK.out).trans (KeepsOthers.setCell _ _ _), fun k hk => ?_, .slice A9 (qs.length + 1) c9, qs ++ [p], HI.out.txt.snoc HFO.out, Kd.R_set HVV J2.out (by decide) 3 _, Zan J2.out 3 _, Zaq J0.out NC1 _, Zaq J1.out NC2 _, Zag JB.out (by omega)⟩
          refine (Below.heap_setCell _ _ _ k (by show k ≠ w3.heap.size; omega)).trans ?_
          rcases hk with rfl | rfl | rfl
          · exact JX.out.sep.trans HBX.out.sep.symm
          · exact JX.out.txt.trans HBX.out.txt.symm
          · exact JX.out.sav.trans HBX.out.sav.symm
        · have HVP := Zaa.mk (show value_Parse.f x = some (⟨#[]⟩, 0, 0, ⟨#[]⟩, 21) by unfold value_Parse.f; rw [if_pos (by omega), hpv]; rfl)
          have HNO := Zaa.mk hno
          clear hno hpv
          gi_wp2_with (refine ⟨trivial, ?_⟩; gi_at_call 94; refine (CallsIn.inRound l (callsIn_wide.2 (value_Parse.calls x _ _ _ _ _ W HGT.out HVP.out))).mono ?_; rintro e W1 ⟨rfl, hb⟩; have K0 := Zaa.mk (Zah HI.out.r0 hb); have K1 := Zaa.mk (Zah HI.out.r1 hb); have KO := Zaa.mk (KeepsOthers.of_below hb); have KB := Zaa.mk (Zae HI.out.bel hb); have hlt0 : w.heap.size < W1.heap.size := Za3 K0.out; have hlt1 : w.heap.size + 1 < W1.heap.size := Za3 K1.out; have x09 : W1.cell? ⟨w.heap.size, 0, none⟩ = some (.int .i64 0) := (Zaf K0.out 0).trans rfl; have g09 : W1.frozen? ⟨w.heap.size, 0, none⟩ = false := Zak K0.out 0; have x19 : W1.cell? ⟨w.heap.size, 1, none⟩ = some (.int .i64 0) := (Zaf K0.out 1).trans rfl; have g19 : W1.frozen? ⟨w.heap.size, 1, none⟩ = false := Zak K0.out 1; have x29 : W1.cell? ⟨w.heap.size, 2, none⟩ = some (.int .i64 0) := (Zaf K0.out 2).trans rfl; have g29 : W1.frozen? ⟨w.heap.size, 2, none⟩ = false := Zak K0.out 2; have x39 : W1.cell? ⟨w.heap.size, 3, none⟩ = some (.slice none 0 0) := (Zaf K0.out 3).trans rfl; have g39 : W1.frozen? ⟨w.heap.size, 3, none⟩ = false := Zak K0.out 3; have xe9 : W1.cell? ⟨w.heap.size + 1, 0, none⟩ = some (.int .i64 0) := (Zaf K1.out 0).trans rfl; have ge9 : W1.frozen? ⟨w.heap.size + 1, 0, none⟩ = false := Zak K1.out 0; clear hb)
          exact ⟨(((((KO.out.trans (KeepsOthers.setCell _ _ _)).trans (KeepsOthers.setCell _ _ _)).trans (KeepsOthers.setCell _ _ _)).trans (KeepsOthers.setCell _ _ _)).trans (KeepsOthers.setCell _ _ _)).trans (KeepsOthers.alloc _ _),
            ⟨pre, x, rfl, HNO.out⟩, Zab (Zaq (Zan (Zan (Zan (Zan K0.out 0 _) 1 _) 2 _) 3 _) (by show w.heap.size ≠ w.heap.size + 1; omega) _) _,
            Zab (Zan (Zaq (Zaq (Zaq (Zaq K1.out NE1 _) NE1 _) NE1 _) NE1 _) 0 _) _,
            Zal (Zag (Zag (Zag (Zag (Zag KB.out (Nat.le_refl _)) (Nat.le_refl _)) (Nat.le_refl _)) (Nat.le_refl _)) (Nat.le_succ _)) _⟩
      case done =>
        rintro D W hD ⟨v, qs, hI⟩ hK
        obtain ⟨A, c, rfl, hcc, hC⟩ := Kd.R_reads hI.row
        have HI := Zaa.mk hI
        have HC3 := Zaa.mk hC
        have HK := Zaa.mk hK
        have ND0 : D ≠ w.heap.size := by omega
        have ND1 : D ≠ w.heap.size + 1 := by omega
        have HF := Zaa.mk (show Zcl a0 = if Zby t tm n5 qs = (a0, 0) then ((t, tm, n5, qs), 0) else (zeroR, 34) from parseW_of (p := (t, tm, n5, qs)) hI.txt.nums.1 (fun q hq => by
          obtain ⟨_, e1, e2, e3, e4⟩ := HN.out q hq
          obtain ⟨h1, h2⟩ := parts_of hq e4 HQ5.out HTP.out
          have e5 := hI.txt.unique h1 h2 hq.1
          obtain ⟨q1, q2, q3, q4⟩ := q
          simp only at e1 e2 e3 e5
          rw [← e1, ← e2, ← e3, ← e5, htm]))
        obtain ⟨fs, fe, hff⟩ : ∃ fs fe, Zby t tm n5 qs = (fs, fe) := ⟨_, _, rfl⟩
        have HFF := Zaa.mk (show record_Format.f t tm n5 qs = some (fs, fe) by unfold record_Format.f; rw [if_pos (by rw [hI.txt.nums.1, hI.txt.nums.2]; rfl), hff])
        have HR := Zaa.mk (show (((y1, y2, y3, y4), y5) : RecT × Int) = if fe = 0 ∧ fs = a0 then ((t, tm, n5, qs), 0) else (zeroR, 34) by
          rw [← HW.out, HF.out, hff]
          by_cases hq : fe = 0 ∧ fs = a0
          · rw [if_pos hq, hq.1, hq.2, if_pos rfl]
          · rw [if_neg hq, if_neg (fun e => hq ⟨(Prod.mk.inj e).2, (Prod.mk.inj e).1⟩)])
        have d08 : W.cell? ⟨w3.heap.size, 0, none⟩ = some (.int .i64 t) := (Zaf HI.out.rb 0).trans rfl
        have d18 : W.cell? ⟨w3.heap.size, 1, none⟩ = some (.int .i64 tm) := (Zaf HI.out.rb 1).trans rfl
        have d28 : W.cell? ⟨w3.heap.size, 2, none⟩ = some (.int .i64 n5) := (Zaf HI.out.rb 2).trans rfl
        have d38 : W.cell? ⟨w3.heap.size, 3, none⟩ = some (.slice A qs.length c) := (Zaf HI.out.rb 3).trans rfl
        clear hff hI hC hK
        gi_wp2_with (first
          | (refine ⟨trivial, ?_⟩; gi_at_call 23; refine (callsIn_wide.2 (record_Format.calls t tm n5 A c qs fs fe _ (GT.below (Nat.le_refl 2) HG.out HI.out.bel) HC3.out hcc HFF.out)).mono ?_; rintro e w7 ⟨rfl, hb⟩; have HI7 := Zaa.mk (show w7.heap[w.heap.size]? = some (.cells #[.int .i64 0, .int .i64 0, .int .i64 0, .slice none 0 0] 51 (0, 0)) ∧ w7.heap[w.heap.size + 1]? = some (.cells #[.int .i64 0] 24 (0, 0)) ∧ Below w.heap.size w w7 from ⟨Zah HI.out.r0 hb, Zah HI.out.r1 hb, Zae HI.out.bel hb⟩); have RB7 := Zaa.mk (Zah HI.out.rb hb); have HRW := Zaa.mk (Kd.R_below HI.out.row hb); have K7 := Zaa.mk (Zah HK.out hb); have x07 : w7.cell? ⟨w.heap.size, 0, none⟩ = some (.int .i64 0) := (Zaf HI7.out.1 0).trans rfl; have g07 : w7.frozen? ⟨w.heap.size, 0, none⟩ = false := Zak HI7.out.1 0; have x17 : w7.cell? ⟨w.heap.size, 1, none⟩ = some (.int .i64 0) := (Zaf HI7.out.1 1).trans rfl; have g17 : w7.frozen? ⟨w.heap.size, 1, none⟩ = false := Zak HI7.out.1 1; have x27 : w7.cell? ⟨w.heap.size, 2, none⟩ = some (.int .i64 0) := (Zaf HI7.out.1 2).trans rfl; have g27 : w7.frozen? ⟨w.heap.size, 2, none⟩ = false := Zak HI7.out.1 2; have x37 : w7.cell? ⟨w.heap.size, 3, none⟩ = some (.slice none 0 0) := (Zaf HI7.out.1 3).trans rfl; have g37 : w7.frozen? ⟨w.heap.size, 3, none⟩ = false := Zak HI7.out.1 3; have xe7 : w7.cell? ⟨w.heap.size + 1, 0, none⟩ = some (.int .i64 0) := (Zaf HI7.out.2.1 0).trans rfl; have ge7 : w7.frozen? ⟨w.heap.size + 1, 0, none⟩ = false := Zak HI7.out.2.1 0; have d07 : w7.cell? ⟨w3.heap.size, 0, none⟩ = some (.int .i64 t) := (Zaf RB7.out 0).trans rfl; have d17 : w7.cell? ⟨w3.heap.size, 1, none⟩ = some (.int .i64 tm) := (Zaf RB7.out 1).trans rfl; have d27 : w7.cell? ⟨w3.heap.size, 2, none⟩ = some (.int .i64 n5) := (Zaf RB7.out 2).trans rfl; have d37 : w7.cell? ⟨w3.heap.size, 3, none⟩ = some (.slice A qs.length c) := (Zaf RB7.out 3).trans rfl; clear hb))
        · have hq : (!(fs.toList == a0.toList)) = true := by assumption
          rw [Zbl] at hq
          have hr := HR.out
          rw [if_neg (fun e => by rw [decide_eq_true e.2] at hq; cases hq)] at hr
          simp only [zeroR, Prod.mk.injEq] at hr
          obtain ⟨⟨rfl, rfl, rfl, rfl⟩, rfl⟩ := hr
          have hK' : (((((w7.setCell ⟨w.heap.size, 0, none⟩ (.int .i64 0)).setCell ⟨w.heap.size, 1, none⟩ (.int .i64 0)).setCell ⟨w.heap.size, 2, none⟩ (.int .i64 0)).setCell ⟨w.heap.size, 3, none⟩ (.slice none 0 0)).setCell ⟨w.heap.size + 1, 0, none⟩ (.int .i64 34)).heap[D]? = some (.deferred (some [])) :=
            (Below.heap_setCell _ _ _ D ND1).trans ((Below.heap_setCell _ _ _ D ND0).trans ((Below.heap_setCell _ _ _ D ND0).trans ((Below.heap_setCell _ _ _ D ND0).trans ((Below.heap_setCell _ _ _ D ND0).trans K7.out))))
          refine ⟨by simp, .inl ⟨_, _, rfl, run_takeDeferred hK', ?_⟩⟩
          refine ⟨_, Zb9 rfl _ _ w.heap.size (w.heap.size + 1) 51 #[(.int .i64 0), (.int .i64 0), (.int .i64 0), (.slice none 0 0)] (0, 0) 34 rfl rfl ?hg ?hc (by kernel_rfl), ?_⟩
          case hg => exact (World.putObj_heap_other ND0.symm).trans (Zaq (Zan (Zan (Zan (Zan HI7.out.1 0 _) 1 _) 2 _) 3 _) (by show w.heap.size ≠ w.heap.size + 1; omega) _)
          case hc => exact (Zaf ((World.putObj_heap_other ND1.symm).trans (Zan (Zaq (Zaq (Zaq (Zaq HI7.out.2.1 NE1 _) NE1 _) NE1 _) NE1 _) 0 _)) 0).trans rfl
          exact ⟨_, rfl, Kd.R_nil _ _ _ _ _, putObj_below (Zag (Zag (Zag (Zag (Zag HI7.out.2.2 (Nat.le_refl _)) (Nat.le_refl _)) (Nat.le_refl _)) (Nat.le_refl _)) (Nat.le_succ _)) (by omega)⟩
        · have hq : (!(fs.toList == a0.toList)) = false := by assumption
          have he : fe = 0 := by assumption
          rw [Zbl] at hq
          have hr := HR.out
          rw [if_pos ⟨he, of_decide_eq_true (by simpa using hq)⟩] at hr
          simp only [Prod.mk.injEq] at hr
          obtain ⟨⟨rfl, rfl, rfl, rfl⟩, rfl⟩ := hr
          have hK' : (((((w7.setCell ⟨w.heap.size, 0, none⟩ (.int .i64 y1)).setCell ⟨w.heap.size, 1, none⟩ (.int .i64 y2)).setCell ⟨w.heap.size, 2, none⟩ (.int .i64 y3)).setCell ⟨w.heap.size, 3, none⟩ (.slice A y4.length c)).setCell ⟨w.heap.size + 1, 0, none⟩ (.int .i64 0)).heap[D]? = some (.deferred (some [])) :=
            (Below.heap_setCell _ _ _ D ND1).trans ((Below.heap_setCell _ _ _ D ND0).trans ((Below.heap_setCell _ _ _ D ND0).trans ((Below.heap_setCell _ _ _ D ND0).trans ((Below.heap_setCell _ _ _ D ND0).trans K7.out))))
          refine ⟨by simp, .inl ⟨_, _, rfl, run_takeDeferred hK', ?_⟩⟩
          refine ⟨_, Zb9 rfl _ _ w.heap.size (w.heap.size + 1) 51 #[(.int .i64 y1), (.int .i64 y2), (.int .i64 y3), (.slice A y4.length c)] (0, 0) 0 rfl rfl ?hg ?hc (by kernel_rfl), ?_⟩
          case hg => exact (World.putObj_heap_other ND0.symm).trans (Zaq (Zan (Zan (Zan (Zan HI7.out.1 0 _) 1 _) 2 _) 3 _) (by show w.heap.size ≠ w.heap.size + 1; omega) _)
          case hc => exact (Zaf ((World.putObj_heap_other ND1.symm).trans (Zan (Zaq (Zaq (Zaq (Zaq HI7.out.2.1 NE1 _) NE1 _) NE1 _) NE1 _) 0 _)) 0).trans rfl
          exact ⟨_, rfl, rows_own (Kd.R_set (Kd.R_set (Kd.R_set (Kd.R_set (Kd.R_set HRW.out HI7.out.1 (by decide) 0 _) (Zan HI7.out.1 0 _) (by decide) 1 _) (Zan (Zan HI7.out.1 0 _) 1 _) (by decide) 2 _) (Zan (Zan (Zan HI7.out.1 0 _) 1 _) 2 _) (by decide) 3 _) (Zaq (Zaq (Zaq (Zaq HI7.out.2.1 NE1 _) NE1 _) NE1 _) NE1 _) (by decide) 0 _) (grownBy_putObj' _ D _) (fun r e => by cases e; exact ⟨_, hK', rfl⟩), putObj_below (Zag (Zag (Zag (Zag (Zag HI7.out.2.2 (Nat.le_refl _)) (Nat.le_refl _)) (Nat.le_refl _)) (Nat.le_refl _)) (Nat.le_succ _)) (by omega)⟩
        · have he : ¬ fe = 0 := by assumption
          have hr := HR.out
          rw [if_neg (fun e => he e.1)] at hr
          simp only [zeroR, Prod.mk.injEq] at hr
          obtain ⟨⟨rfl, rfl, rfl, rfl⟩, rfl⟩ := hr
          have hK' : (((((w7.setCell ⟨w.heap.size, 0, none⟩ (.int .i64 0)).setCell ⟨w.heap.size, 1, none⟩ (.int .i64 0)).setCell ⟨w.heap.size, 2, none⟩ (.int .i64 0)).setCell ⟨w.heap.size, 3, none⟩ (.slice none 0 0)).setCell ⟨w.heap.size + 1, 0, none⟩ (.int .i64 34)).heap[D]? = some (.deferred (some [])) :=
            (Below.heap_setCell _ _ _ D ND1).trans ((Below.heap_setCell _ _ _ D ND0).trans ((Below.heap_setCell _ _ _ D ND0).trans ((Below.heap_setCell _ _ _ D ND0).trans ((Below.heap_setCell _ _ _ D ND0).trans K7.out))))
          refine ⟨by simp, .inl ⟨_, _, rfl, run_takeDeferred hK', ?_⟩⟩
          refine ⟨_, Zb9 rfl _ _ w.heap.size (w.heap.size + 1) 51 #[(.int .i64 0), (.int .i64 0), (.int .i64 0), (.slice none 0 0)] (0, 0) 34 rfl rfl ?hg ?hc (by kernel_rfl), ?_⟩
          case hg => exact (World.putObj_heap_other ND0.symm).trans (Zaq (Zan (Zan (Zan (Zan HI7.out.1 0 _) 1 _) 2 _) 3 _) (by show w.heap.size ≠ w.heap.size + 1; omega) _)
          case hc => exact (Zaf ((World.putObj_heap_other ND1.symm).trans (Zan (Zaq (Zaq (Zaq (Zaq HI7.out.2.1 NE1 _) NE1 _) NE1 _) NE1 _) 0 _)) 0).trans rfl
          exact ⟨_, rfl, Kd.R_nil _ _ _ _ _, putObj_below (Zag (Zag (Zag (Zag (Zag HI7.out.2.2 (Nat.le_refl _)) (Nat.le_refl _)) (Nat.le_refl _)) (Nat.le_refl _)) (Nat.le_succ _)) (by omega)⟩
      case stop =>
        rintro D pre x post W hD hpart hX hK
        have ND0 : D ≠ w.heap.size := by omega
        have ND1 : D ≠ w.heap.size + 1 := by omega
        have hz := HW.out
        rw [parseW_no (fun q hq => by
          obtain ⟨_, _, _, _, e4⟩ := HN.out q hq
          obtain ⟨h1, h2⟩ := parts_of hq e4 HQ5.out HTP.out
          obtain ⟨ini, x', he, hno⟩ := hX.no
          obtain ⟨_, hx2⟩ := List.append_inj' he rfl
          have hxe : x = x' := by simpa using hx2
          have hm : x ∈ q.2.2.2.map (fun p => (⟨(Zcj (L p.f0) p.f1 p.f2 (L p.f3)).toArray⟩ : ByteArray)) := by rw [← h1, hpart]; exact List.mem_append_right _ (List.mem_cons_self ..)
          obtain ⟨p, hp, rfl⟩ := List.mem_map.1 hm
          have hn := hq.1
          unfold Zce at hn
          rw [List.all_eq_true] at hn
          have hnp := hn p hp
          rw [Bool.and_eq_true, decide_eq_true_eq, decide_eq_true_eq] at hnp
          exact hno p ⟨hnp, h2 p hp, by rw [← hxe, L_mk]⟩)] at hz
        simp only [zeroR, Prod.mk.injEq] at hz
        obtain ⟨⟨rfl, rfl, rfl, rfl⟩, rfl⟩ := hz
        have HX := Zaa.mk hX
        have HK := Zaa.mk hK
        clear hX hK
        gi_wp2
        refine ⟨by simp, .inl ⟨_, _, rfl, run_takeDeferred HK.out, ?_⟩⟩
        refine ⟨_, Zb9 rfl _ _ w.heap.size (w.heap.size + 1) 51 #[.int .i64 0, .int .i64 0, .int .i64 0, .slice none 0 0] (0, 0) 34 rfl rfl ?hg ?hc (by kernel_rfl), ?_⟩
        case hg => exact (World.putObj_heap_other ND0.symm).trans HX.out.r0
        case hc => exact (Zaf ((World.putObj_heap_other ND1.symm).trans HX.out.r1) 0).trans rfl
        exact ⟨_, rfl, Kd.R_nil _ _ _ _ _, putObj_below HX.out.bel (by omega)⟩
theorem record_Parse.calls (a0 : ByteArray) (r1 : Int) (r2 : Int) (r3 : Int) (r4 : List S88) (r5 : Int) (w : World) (hG : GT 2 w) (h : record_Parse.f a0 = some (r1, r2, r3, r4, r5)) :
    Calls Tryz.prog 47 #[.string a0] w fun e w' => ∃ v3_ : Value, e = .returned (.tuple #[.agg #[.int .i64 r1, .int .i64 r2, .int .i64 r3, v3_], .int .i64 r5]) ∧ Kd.R k88 88 w' w.heap.size (fun _ => True) v3_ r4 ∧ Below w.heap.size w w' := by
  unfold record_Parse.f at h
  by_cases hs : a0.size ≤ 100000
  case neg => rw [if_neg hs] at h; cases h
  rw [if_pos hs] at h
  have h := Option.some.inj h
  simp only [Prod.mk.injEq] at h
  obtain ⟨e1, e2, e3, e4, e5⟩ := h
  obtain ⟨x1, q1, nm, q2, s3, q3, s4, q4, s5, q5, o1, o2, o3, o4, o5, C⟩ := Cuts.exist a0
  obtain ⟨t, ht⟩ : ∃ t, record_Number.f nm = some t := ⟨_, rfl⟩
  refine rparse_walk a0 x1 q1 nm q2 s3 q3 s4 q4 s5 q5 o1 o2 o3 o4 o5 t w hG hs C ht r1 r2 r3 r4 r5 ?_
  rw [← e1, ← e2, ← e3, ← e4, ← e5]
end Go.Proofs.YtodbabeldolcbaaGreatDoor.PA
