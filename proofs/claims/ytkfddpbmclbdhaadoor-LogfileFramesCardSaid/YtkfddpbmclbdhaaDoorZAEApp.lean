/- fresh.AppendNumber and kauditref25.Put on a row that may be that of a constant's conversion. Conditions: each contract names its own. -/
import Derived.Test.YtkfddpbmclbdhaaDoorZAPAxfreshAppendNumber
import Derived.Lib.SmallJoins
namespace Go.Proofs.YtkfddpbmclbdhaaDoor.PA
open Go.RowKit Go.Proofs.YtkfddpbmclbdhaaDoorW.PrintWords Go.Proofs.YtkfddpbmclbdhaaDoorW.PrintLast Go.Proofs.YtkfddpbmclbdhaaDoorW.PrintMore
attribute [local go_sem] Zaz Zax Za5 Za4 Zas Zar Zay Zaw   -- for this text's walks alone
set_option linter.unusedVariables false
set_option linter.unusedSimpArgs false
def RR (W : World) (base : Nat) (ok : Nat → Prop) (v : Value) (xs : List Int) : Prop :=
 Kd.R (Kd.int .u8) 5 W base ok v xs ∨ ∃ g cur fz, v = .slice (some ⟨g, 0, none⟩) xs.length xs.length ∧ ok g ∧ g < W.heap.size ∧ W.heap[g]? = some (.cells cur 5 fz) ∧ cur.toList = nums .u8 xs
theorem RR_mono {W : World} {base : Nat} {ok ok' : Nat → Prop} {v : Value} {xs : List Int} (h : RR W base ok v xs) (hk : ∀ k, ok k → ok' k) : RR W base ok' v xs := by
 rcases h with h | ⟨g, cur, fz, h1, h2, h3⟩
 ·exact .inl (Kd.R_mono h hk)
 ·exact .inr ⟨g, cur, fz, h1, hk _ h2, h3⟩
theorem RR_below {W W1 : World} {base : Nat} {ok : Nat → Prop} {v : Value} {xs : List Int} (h : RR W base ok v xs) (hb : Below W.heap.size W W1) : RR W1 base ok v xs := by
 rcases h with h | ⟨g, cur, fz, h1, h2, h3, h4, h5⟩
 ·exact .inl (Kd.R_below h hb)
 ·exact .inr ⟨g, cur, fz, h1, h2, Nat.lt_of_lt_of_le h3 hb.size, (hb.block g h3).trans h4, h5⟩
theorem RR_alloc {W : World} {base : Nat} {ok : Nat → Prop} {v : Value} {xs : List Int} (h : RR W base ok v xs) (o : Obj) : RR (W.alloc o) base ok v xs := RR_below h (Zam (Below.refl _ _) o)
theorem RR_drew {W : World} {base : Nat} {ok : Nat → Prop} {v : Value} {xs : List Int} (h : RR W base ok v xs) : RR W.drew base ok v xs := RR_below h (below_drew (Below.refl _ _))
theorem RR_drewN {W : World} {base : Nat} {ok : Nat → Prop} {v : Value} {xs : List Int} (h : RR W base ok v xs) (m : Nat) : RR (W.drewN m) base ok v xs := RR_below h (Zan (Below.refl _ _) m)
theorem RR_own {W : World} {base : Nat} {ok : Nat → Prop} {v : Value} {xs : List Int} (h : RR W base ok v xs) : ∀ k, v.ownBlock = some k → ok k := by
 rcases h with h | ⟨g, cur, fz, rfl, h2, _⟩
 ·exact h.1
 ·intro k hk
  have : g = k := by simpa [Value.ownBlock] using hk
  subst this
  exact h2
section
variable {P : Program} {ops : Array Oper} {rest : List Oper} {o : Oper} {a : Act} {Q : Exit → Act → World → Prop}
theorem RR_append {w0 W : World} (base : Nat) (hgd : o.guard = none) (s x : Operand) (t e : TypeId) (z : Value) (bytes : Nat)
  (ho : o.op = .call { callee := .builtin .append, args := #[s, x], argTypes := #[t, t] })
  (ht : P.underlying t = some (.slice 5)) (hinfo : (P.info? 5).map (fun i => (i.zero, i.size, i.bytes)) = some (some (.int .u8 0), 1, 1)) (hz : z.cells.size = 1) (hs0 : 0 < 1) (hb0 : 0 < bytes)
  (v : Value) (xs : List Int) (p : Int) (cs : List Value) (ok okp : Nat → Prop) (hs : a.eval s = v) (hx : a.eval x = .slice (some ⟨W.heap.size, 0, none⟩) 1 1) (hp : (Kd.int .u8).M W base okp p cs) (hokp : ∀ k, okp k → ok k ∧ some k ≠ v.ownBlock) (hfresh : ∀ k, W.heap.size ≤ k → ok k)
  (HO : RR W base ok v xs) (HB : Below base w0 W) (hbase : base ≤ W.heap.size) (hl : (xs.length + 1) * 1 ≤ 140737488355328)
  (h : ∀ v1 w1, Kd.R (Kd.int .u8) 5 w1 base ok v1 (xs ++ [p]) → Below base w0 w1 → W.grownBy w1 v.ownBlock → True → wpList P ops Q rest (a.put o.dst v1) w1) :
  wpList P ops Q (o :: rest) a (W.alloc (.cells cs.toArray 5)) := by
 rcases HO with HO | ⟨g, cur, fz, rfl, hok, hlt, hg, hcur⟩
 ·exact Kd.R_append (Kd.int .u8) (w0 := w0) base hgd s x t 5 (.int .u8 0) 1 ho ht hinfo rfl (by decide) (by omega) v xs p cs ok okp hs hx hp hokp hfresh HO HB hbase hl (fun v1 w1 h1 h2 h3 _ => h v1 w1 h1 h2 h3 trivial)
 ·obtain ⟨i0, hi, hzz⟩ := Option.map_eq_some_iff.1 hinfo
  simp only [Prod.mk.injEq] at hzz
  obtain ⟨hz0, hz1, hz2⟩ := hzz
  have hcs : cs = [.int .u8 p] := hp
  subst hcs
  have hlen : (nums .u8 xs).length = xs.length := nums_length _ _
  refine wpList_append_grows (P := P) _ hgd s x t ho 5 i0 (.int .u8 0) 1 1 ht hi hz0 hz1 hz2 rfl (by decide) (some ⟨g, 0, none⟩) xs.length xs.length (nums .u8 xs) hs (fun h => by cases h) (by rw [hlen, Nat.mul_one]) ?_ ⟨W.heap.size, 0, none⟩ 1 1 [.int .u8 p] hx rfl ?_ ?_ (by omega) (by simp only [maxLen]; omega) (by omega) ?_
  ·intro b hb j u hj
   obtain rfl : (⟨g, 0, none⟩ : Addr) = b := Option.some.inj hb
   rw [add_plain, World.cell?_alloc_lt _ _ _ hlt]
   simp only [World.cell?, hg]
   rw [← hcur] at hj
   simpa using hj
  ·intro j u hj
   rw [add_plain, Zai (blk_new W _) j]
   simpa using hj
  ·intro u hu
   simp at hu
   subst hu
   rfl
  ·intro v' w' hown hgr
   have hgr2 : W.grownBy w' none := ⟨hgr.os, hgr.tape, hgr.output, Nat.le_trans (by simp) hgr.size, fun k hk _ => by
    rw [hgr.block k (by simp; omega) (by simp)]
    exact heap_alloc_old W _ hk⟩
   have hb' : Below base w0 w' := HB.grown hgr2 hbase (fun k e => by cases e)
   refine h v' w' ?_ hb' ⟨hgr2.os, hgr2.tape, hgr2.output, hgr2.size, fun k hk _ => hgr2.block k hk (by simp)⟩ trivial
   have hown2 : w'.ownsRow base 5 1 v' (xs ++ [p]).length (nums .u8 (xs ++ [p])) := by
    rw [List.length_append, List.length_singleton, nums_append]
    exact own_weaken hown (Nat.le_trans hbase (by simp))
   refine Kd.R_of_own hown2 (fun k hk => hfresh k ?_)
   have h3 := own_base hown k hk
   simp at h3
   omega
end
set_option maxHeartbeats 8000000 in
set_option maxRecDepth 100000 in
theorem fresh_AppendNumber.callsM (k : Nat) (P0_ : Nat → Prop) (u9000_ : Value) (l0 : List Int) (a1 : Int) (r : List Int) (w0 w : World) (hB : Below w0.heap.size w0 w) (ho0 : RR w w0.heap.size P0_ u9000_ l0) (h : fresh_AppendNumber.f k l0 a1 = some r) :
  Calls Tryd.prog 105 #[u9000_, .int .i64 a1] w fun e w' => ∃ v0_ : Value, e = .returned (v0_) ∧ Kd.R (Kd.int .u8) 5 w' w0.heap.size (fun k_ => (P0_ k_ ∨ w.heap.size ≤ k_)) v0_ r ∧ Below w0.heap.size w0 w' ∧ Kept w w' (fun k_ => P0_ k_) := by
 have HO0 := Zaa.mk (show RR w w0.heap.size (fun k_ => (P0_ k_ ∨ w.heap.size ≤ k_)) u9000_ l0 from RR_mono ho0 (fun k_ hk => (.inl hk)))
 have HK := Zaa.mk (Kept.refl w (fun k_ => P0_ k_))
 have HW0 := Zaa.mk hB.size
 have HB := Zaa.mk hB
 clear hB
 have H : (fresh_AppendNumber.l0 k l0 a1) = some r := h
 clear h
 have H' := Zaa.mk H
 clear H
 go_enter Tryd.func105, Tryd.ntmps105
 go_wp2
 go_loopg [0, 1] k (fun kq v0 v1 w' => ∃ (x0_1 : List Int) (x1_1 : Int), v1 = .int .i64 x1_1 ∧ Zaa (fresh_AppendNumber.l0 kq x0_1 x1_1 = some r) ∧ Zaa (kq ≤ k) ∧ Zaa (RR w' w0.heap.size (fun k_ => (P0_ k_ ∨ w.heap.size ≤ k_)) v0 x0_1) ∧ Zaa (Kept w w' (fun k_ => P0_ k_)) ∧ Zaa (Below w0.heap.size w0 w'))
 case atStart => exact ⟨(l0), (a1), (by first | rfl | (simp; done) | (simp [*]; done)), H', ⟨Nat.le_refl _⟩, ⟨by (with_reducible repeat (first | apply RR_alloc | apply RR_drewN | apply RR_drew)); exact HO0.out⟩, ⟨by repeat (first | (with_reducible first | exact HK.out | apply Kept.alloc | apply Kept.drewN | apply Kept.drew) | exact HK.out)⟩, ⟨by repeat (first | (with_reducible first | exact HB.out | apply Zam | apply Zan | apply Zaq) | exact HB.out)⟩⟩
 case round =>
  clear H'
  try clear c1
  try clear p2
  obtain ⟨x0_1, x1_1, rfl, HA, HK1, HO_0, HK, HB⟩ := hrel
  cases gk with
  | zero => exact absurd HA.out (by simp [fresh_AppendNumber.l0])
  | succ k1 =>
   have H := HA.out
   clear HA
   simp only [fresh_AppendNumber.l0] at H
   by_cases c3 : x1_1 ≥ 128
   ·rw [if_pos c3] at H
    have c3b0 : decide (128 ≤ x1_1) = true := decide_eq_true c3
    clear c3
    by_cases c4 : x0_1.length < 140737488355328
    ·rw [if_pos c4] at H
     have LMc4 := Zaa.mk c4
     clear c4
     obtain ⟨y878, hy878⟩ : ∃ y_ : List Int, y_ = (x0_1 ++ [Go.bits .or .u8 ((x1_1) % 256) 128]) := ⟨_, rfl⟩
     replace H : (fresh_AppendNumber.l0 k1 y878 (x1_1 / 128)) = some r := by first | (rw [hy878]; with_reducible exact H) | (have H2_ := (Option.bind_some _ _).symm.trans H; rw [hy878]; with_reducible exact H2_) | (have H2_ := (Option.bind_some _ _).symm.trans H; with_reducible exact H2_) | with_reducible exact H | (rw [hy878]; exact H) | exact H
     have Ny878 := Zaa.mk hy878
     clear hy878
     have H' := Zaa.mk H
     clear H
     go_wp2_with (first | ((with_reducible refine Zba (b := .append) (xs := #[.tmp 7, .tmp 11]) rfl ?_); at_builtin; refine RR_append (w0 := w0) w0.heap.size rfl (.tmp 7) (.tmp 11) 28 5 (.int .u8 0) 1 rfl Tryd.underlying28 info5 rfl (by decide) (by omega) u0 x0_1 (Go.bits .or .u8 ((x1_1) % 256) 128) [.int .u8 (Go.bits .or .u8 ((x1_1) % 256) 128)] (fun k_ => (P0_ k_ ∨ w.heap.size ≤ k_)) (fun _ => False) rfl rfl ?aP (fun _ hk => hk.elim) ?aF ?aO ?aB ?aS ?aL ?_; (case aP => exact rfl); (case aB => exact (by repeat (first | (with_reducible first | exact HB.out | apply Zam | apply Zan | apply Zaq) | exact HB.out))); (case aF => exact (fun k_ hk => (.inr (Nat.le_trans (by first | exact HK.out.1 | exact (show Kept w _ (fun k_ => P0_ k_) from by repeat (first | (with_reducible first | exact HK.out | apply Kept.alloc | apply Kept.drewN | apply Kept.drew) | exact HK.out)).1) hk)))); (case aO => exact (by (with_reducible repeat (first | apply RR_alloc | apply RR_drewN | apply RR_drew)); exact HO_0.out)); (case aS => exact (Zae (by repeat (first | (with_reducible first | exact HB.out | apply Zam | apply Zan | apply Zaq) | exact HB.out)))); (case aL => have := LMc4.out; omega); intro v879 w5 ho hb hg hat; rw [← Ny878.out] at ho; have n0_ := Zaa.mk (hb); have n1_ := Zaa.mk (Kept.of_grown (S := (fun k_ => P0_ k_)) hg (by repeat (first | (with_reducible first | exact HK.out | apply Kept.alloc | apply Kept.drewN | apply Kept.drew) | exact HK.out)) (fun k_ e_ => (RR_own HO_0.out k_ e_))); have n2_ := Zaa.mk (ho); clear HB; clear HK; clear HO_0; have HB := n0_; have HK := n1_; have HO880 := n2_; clear n0_ n1_ n2_; clear ho hb hg hat))
     go_roundg k1
     case measure => have := HK1.out; omega
     case rel => exact ⟨(y878), (x1_1 / 128), (by first | rfl | (simp; done) | (simp [*]; done)), H', ⟨by have := HK1.out; omega⟩, ⟨.inl HO880.out⟩, ⟨by repeat (first | (with_reducible first | exact HK.out | apply Kept.alloc | apply Kept.drewN | apply Kept.drew) | exact HK.out)⟩, ⟨by repeat (first | (with_reducible first | exact HB.out | apply Zam | apply Zan | apply Zaq) | exact HB.out)⟩⟩
    ·rw [if_neg c4] at H
     exact absurd H (by simp)
   ·rw [if_neg c3] at H
    have c3b0 : decide (128 ≤ x1_1) = false := decide_eq_false c3
    clear c3
    by_cases c6 : x0_1.length < 140737488355328
    ·rw [if_pos c6] at H
     have LMc6 := Zaa.mk c6
     clear c6
     obtain ⟨y881, hy881⟩ : ∃ y_ : List Int, y_ = (x0_1 ++ [(x1_1) % 256]) := ⟨_, rfl⟩
     replace H : (some y881) = some r := by first | (rw [hy881]; with_reducible exact H) | (have H2_ := (Option.bind_some _ _).symm.trans H; rw [hy881]; with_reducible exact H2_) | (have H2_ := (Option.bind_some _ _).symm.trans H; with_reducible exact H2_) | with_reducible exact H | (rw [hy881]; exact H) | exact H
     have Ny881 := Zaa.mk hy881
     clear hy881
     obtain rfl := Option.some.inj H
     go_wp2_with (first | ((with_reducible refine Zba (b := .append) (xs := #[.tmp 15, .tmp 18]) rfl ?_); at_builtin; refine RR_append (w0 := w0) w0.heap.size rfl (.tmp 15) (.tmp 18) 28 5 (.int .u8 0) 1 rfl Tryd.underlying28 info5 rfl (by decide) (by omega) u0 x0_1 ((x1_1) % 256) [.int .u8 ((x1_1) % 256)] (fun k_ => (P0_ k_ ∨ w.heap.size ≤ k_)) (fun _ => False) rfl rfl ?aP (fun _ hk => hk.elim) ?aF ?aO ?aB ?aS ?aL ?_; (case aP => exact rfl); (case aB => exact (by repeat (first | (with_reducible first | exact HB.out | apply Zam | apply Zan | apply Zaq) | exact HB.out))); (case aF => exact (fun k_ hk => (.inr (Nat.le_trans (by first | exact HK.out.1 | exact (show Kept w _ (fun k_ => P0_ k_) from by repeat (first | (with_reducible first | exact HK.out | apply Kept.alloc | apply Kept.drewN | apply Kept.drew) | exact HK.out)).1) hk)))); (case aO => exact (by (with_reducible repeat (first | apply RR_alloc | apply RR_drewN | apply RR_drew)); exact HO_0.out)); (case aS => exact (Zae (by repeat (first | (with_reducible first | exact HB.out | apply Zam | apply Zan | apply Zaq) | exact HB.out)))); (case aL => have := LMc6.out; omega); intro v882 w7 ho hb hg hat; rw [← Ny881.out] at ho; have n0_ := Zaa.mk (hb); have n1_ := Zaa.mk (Kept.of_grown (S := (fun k_ => P0_ k_)) hg (by repeat (first | (with_reducible first | exact HK.out | apply Kept.alloc | apply Kept.drewN | apply Kept.drew) | exact HK.out)) (fun k_ e_ => (RR_own HO_0.out k_ e_))); have n2_ := Zaa.mk (ho); clear HB; clear HK; clear HO_0; have HB := n0_; have HK := n1_; have HO883 := n2_; clear n0_ n1_ n2_; clear ho hb hg hat))
     go_ret
     exact ⟨_, by first | rfl | (simp [errW_none, errW_some] <;> rfl) | (simp [*, errW_none, errW_some] <;> rfl), by (with_reducible repeat (first | apply Kd.R_alloc | apply Kd.R_drewN | apply Kd.R_drew)); exact HO883.out, by repeat (first | (with_reducible first | exact HB.out | apply Zam | apply Zan | apply Zaq) | exact HB.out), by repeat (first | (with_reducible first | exact HK.out | apply Kept.alloc | apply Kept.drewN | apply Kept.drew) | exact HK.out)⟩
    ·rw [if_neg c6] at H
     exact absurd H (by simp)
set_option maxHeartbeats 8000000 in
set_option maxRecDepth 100000 in
theorem kauditref25_Put.callsM (k : Nat) (P0_ : Nat → Prop) (u9000_ : Value) (l0 : List Int) (a1 : Int) (r : List Int) (w0 w : World) (hB : Below w0.heap.size w0 w) (ho0 : RR w w0.heap.size P0_ u9000_ l0) (h : kauditref25_Put.f k l0 a1 = some r) :
  Calls Tryd.prog 106 #[u9000_, .int .i64 a1] w fun e w' => ∃ v0_ : Value, e = .returned (v0_) ∧ Kd.R (Kd.int .u8) 5 w' w0.heap.size (fun k_ => (P0_ k_ ∨ w.heap.size ≤ k_)) v0_ r ∧ Below w0.heap.size w0 w' ∧ Kept w w' (fun k_ => P0_ k_) := by
 have HO0 := Zaa.mk (show RR w w0.heap.size (fun k_ => (P0_ k_ ∨ w.heap.size ≤ k_)) u9000_ l0 from RR_mono ho0 (fun k_ hk => (.inl hk)))
 have HK := Zaa.mk (Kept.refl w (fun k_ => P0_ k_))
 have HW0 := Zaa.mk hB.size
 have HB := Zaa.mk hB
 clear hB
 have H : (kauditref25_Put.l0 k l0 a1) = some r := h
 clear h
 have H' := Zaa.mk H
 clear H
 go_enter Tryd.func106, Tryd.ntmps106
 go_wp2
 go_loopg [0, 1] k (fun kq v0 v1 w' => ∃ (x0_1 : List Int) (x1_1 : Int), v1 = .int .i64 x1_1 ∧ Zaa (kauditref25_Put.l0 kq x0_1 x1_1 = some r) ∧ Zaa (kq ≤ k) ∧ Zaa (RR w' w0.heap.size (fun k_ => (P0_ k_ ∨ w.heap.size ≤ k_)) v0 x0_1) ∧ Zaa (Kept w w' (fun k_ => P0_ k_)) ∧ Zaa (Below w0.heap.size w0 w'))
 case atStart => exact ⟨(l0), (a1), (by first | rfl | (simp; done) | (simp [*]; done)), H', ⟨Nat.le_refl _⟩, ⟨by (with_reducible repeat (first | apply RR_alloc | apply RR_drewN | apply RR_drew)); exact HO0.out⟩, ⟨by repeat (first | (with_reducible first | exact HK.out | apply Kept.alloc | apply Kept.drewN | apply Kept.drew) | exact HK.out)⟩, ⟨by repeat (first | (with_reducible first | exact HB.out | apply Zam | apply Zan | apply Zaq) | exact HB.out)⟩⟩
 case round =>
  clear H'
  try clear c1
  try clear p2
  obtain ⟨x0_1, x1_1, rfl, HA, HK1, HO_0, HK, HB⟩ := hrel
  cases gk with
  | zero => exact absurd HA.out (by simp [kauditref25_Put.l0])
  | succ k1 =>
   have H := HA.out
   clear HA
   simp only [kauditref25_Put.l0] at H
   by_cases c3 : x1_1 ≥ 128
   ·rw [if_pos c3] at H
    have c3b0 : decide (128 ≤ x1_1) = true := decide_eq_true c3
    clear c3
    by_cases c4 : x0_1.length < 140737488355328
    ·rw [if_pos c4] at H
     have LMc4 := Zaa.mk c4
     clear c4
     obtain ⟨y516, hy516⟩ : ∃ y_ : List Int, y_ = (x0_1 ++ [((Int.tmod x1_1 128) + 128) % 256]) := ⟨_, rfl⟩
     replace H : (kauditref25_Put.l0 k1 y516 (wrap64 (Int.tdiv x1_1 128))) = some r := by first | (rw [hy516]; with_reducible exact H) | (have H2_ := (Option.bind_some _ _).symm.trans H; rw [hy516]; with_reducible exact H2_) | (have H2_ := (Option.bind_some _ _).symm.trans H; with_reducible exact H2_) | with_reducible exact H | (rw [hy516]; exact H) | exact H
     have Ny516 := Zaa.mk hy516
     clear hy516
     have H' := Zaa.mk H
     clear H
     go_wp2_with (first | ((with_reducible refine Zba (b := .append) (xs := #[.tmp 7, .tmp 12]) rfl ?_); at_builtin; refine RR_append (w0 := w0) w0.heap.size rfl (.tmp 7) (.tmp 12) 28 5 (.int .u8 0) 1 rfl Tryd.underlying28 info5 rfl (by decide) (by omega) u0 x0_1 (((Int.tmod x1_1 128) + 128) % 256) [.int .u8 (((Int.tmod x1_1 128) + 128) % 256)] (fun k_ => (P0_ k_ ∨ w.heap.size ≤ k_)) (fun _ => False) rfl rfl ?aP (fun _ hk => hk.elim) ?aF ?aO ?aB ?aS ?aL ?_; (case aP => exact rfl); (case aB => exact (by repeat (first | (with_reducible first | exact HB.out | apply Zam | apply Zan | apply Zaq) | exact HB.out))); (case aF => exact (fun k_ hk => (.inr (Nat.le_trans (by first | exact HK.out.1 | exact (show Kept w _ (fun k_ => P0_ k_) from by repeat (first | (with_reducible first | exact HK.out | apply Kept.alloc | apply Kept.drewN | apply Kept.drew) | exact HK.out)).1) hk)))); (case aO => exact (by (with_reducible repeat (first | apply RR_alloc | apply RR_drewN | apply RR_drew)); exact HO_0.out)); (case aS => exact (Zae (by repeat (first | (with_reducible first | exact HB.out | apply Zam | apply Zan | apply Zaq) | exact HB.out)))); (case aL => have := LMc4.out; omega); intro v517 w5 ho hb hg hat; rw [← Ny516.out] at ho; have n0_ := Zaa.mk (hb); have n1_ := Zaa.mk (Kept.of_grown (S := (fun k_ => P0_ k_)) hg (by repeat (first | (with_reducible first | exact HK.out | apply Kept.alloc | apply Kept.drewN | apply Kept.drew) | exact HK.out)) (fun k_ e_ => (RR_own HO_0.out k_ e_))); have n2_ := Zaa.mk (ho); clear HB; clear HK; clear HO_0; have HB := n0_; have HK := n1_; have HO518 := n2_; clear n0_ n1_ n2_; clear ho hb hg hat))
     go_roundg k1
     case measure => have := HK1.out; omega
     case rel => exact ⟨(y516), (wrap64 (Int.tdiv x1_1 128)), (by first | rfl | (simp; done) | (simp [*]; done)), H', ⟨by have := HK1.out; omega⟩, ⟨.inl HO518.out⟩, ⟨by repeat (first | (with_reducible first | exact HK.out | apply Kept.alloc | apply Kept.drewN | apply Kept.drew) | exact HK.out)⟩, ⟨by repeat (first | (with_reducible first | exact HB.out | apply Zam | apply Zan | apply Zaq) | exact HB.out)⟩⟩
    ·rw [if_neg c4] at H
     exact absurd H (by simp)
   ·rw [if_neg c3] at H
    have c3b0 : decide (128 ≤ x1_1) = false := decide_eq_false c3
    clear c3
    by_cases c6 : x0_1.length < 140737488355328
    ·rw [if_pos c6] at H
     have LMc6 := Zaa.mk c6
     clear c6
     obtain ⟨y519, hy519⟩ : ∃ y_ : List Int, y_ = (x0_1 ++ [(x1_1) % 256]) := ⟨_, rfl⟩
     replace H : (some y519) = some r := by first | (rw [hy519]; with_reducible exact H) | (have H2_ := (Option.bind_some _ _).symm.trans H; rw [hy519]; with_reducible exact H2_) | (have H2_ := (Option.bind_some _ _).symm.trans H; with_reducible exact H2_) | with_reducible exact H | (rw [hy519]; exact H) | exact H
     have Ny519 := Zaa.mk hy519
     clear hy519
     obtain rfl := Option.some.inj H
     go_wp2_with (first | ((with_reducible refine Zba (b := .append) (xs := #[.tmp 16, .tmp 19]) rfl ?_); at_builtin; refine RR_append (w0 := w0) w0.heap.size rfl (.tmp 16) (.tmp 19) 28 5 (.int .u8 0) 1 rfl Tryd.underlying28 info5 rfl (by decide) (by omega) u0 x0_1 ((x1_1) % 256) [.int .u8 ((x1_1) % 256)] (fun k_ => (P0_ k_ ∨ w.heap.size ≤ k_)) (fun _ => False) rfl rfl ?aP (fun _ hk => hk.elim) ?aF ?aO ?aB ?aS ?aL ?_; (case aP => exact rfl); (case aB => exact (by repeat (first | (with_reducible first | exact HB.out | apply Zam | apply Zan | apply Zaq) | exact HB.out))); (case aF => exact (fun k_ hk => (.inr (Nat.le_trans (by first | exact HK.out.1 | exact (show Kept w _ (fun k_ => P0_ k_) from by repeat (first | (with_reducible first | exact HK.out | apply Kept.alloc | apply Kept.drewN | apply Kept.drew) | exact HK.out)).1) hk)))); (case aO => exact (by (with_reducible repeat (first | apply RR_alloc | apply RR_drewN | apply RR_drew)); exact HO_0.out)); (case aS => exact (Zae (by repeat (first | (with_reducible first | exact HB.out | apply Zam | apply Zan | apply Zaq) | exact HB.out)))); (case aL => have := LMc6.out; omega); intro v520 w7 ho hb hg hat; rw [← Ny519.out] at ho; have n0_ := Zaa.mk (hb); have n1_ := Zaa.mk (Kept.of_grown (S := (fun k_ => P0_ k_)) hg (by repeat (first | (with_reducible first | exact HK.out | apply Kept.alloc | apply Kept.drewN | apply Kept.drew) | exact HK.out)) (fun k_ e_ => (RR_own HO_0.out k_ e_))); have n2_ := Zaa.mk (ho); clear HB; clear HK; clear HO_0; have HB := n0_; have HK := n1_; have HO521 := n2_; clear n0_ n1_ n2_; clear ho hb hg hat))
     go_ret
     exact ⟨_, by first | rfl | (simp [errW_none, errW_some] <;> rfl) | (simp [*, errW_none, errW_some] <;> rfl), by (with_reducible repeat (first | apply Kd.R_alloc | apply Kd.R_drewN | apply Kd.R_drew)); exact HO521.out, by repeat (first | (with_reducible first | exact HB.out | apply Zam | apply Zan | apply Zaq) | exact HB.out), by repeat (first | (with_reducible first | exact HK.out | apply Kept.alloc | apply Kept.drewN | apply Kept.drew) | exact HK.out)⟩
    ·rw [if_neg c6] at H
     exact absurd H (by simp)
end Go.Proofs.YtkfddpbmclbdhaaDoor.PA
