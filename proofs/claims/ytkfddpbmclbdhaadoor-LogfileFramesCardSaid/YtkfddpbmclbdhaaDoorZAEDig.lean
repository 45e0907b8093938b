/- math/bits.RotateLeft64 and the methods of digest's state (four words): each does what the reference's does. Conditions: each contract names its own. -/
import Derived.Test.YtkfddpbmclbdhaaDoorZAGT
import Derived.Test.YtkfddpbmclbdhaaDoorZAPAxdigestbegin
import Derived.Test.YtkfddpbmclbdhaaDoorZAEOff
import Derived.StillTailTactics
namespace Go.Proofs.YtkfddpbmclbdhaaDoor.PA
open Go.RowKit Go.Proofs.YtkfddpbmclbdhaaDoorW.PrintWords Go.Proofs.YtkfddpbmclbdhaaDoorW.PrintLast Go.Proofs.YtkfddpbmclbdhaaDoorW.PrintMore
set_option linter.unusedVariables false
set_option linter.unusedSimpArgs false
def bits_RotateLeft64.f (a0 : Int) (a1 : Int) : Option (Int) := if 0 ≤ (Go.bits .and .u64 (IntKind.u64.wrap (a1)) 63) then (if 0 ≤ (IntKind.u64.wrap (64 - (Go.bits .and .u64 (IntKind.u64.wrap (a1)) 63))) then (some (Go.bits .or .u64 (shl .u64 a0 (Go.bits .and .u64 (IntKind.u64.wrap (a1)) 63)) (shr .u64 a0 (IntKind.u64.wrap (64 - (Go.bits .and .u64 (IntKind.u64.wrap (a1)) 63)))))) else (none)) else (none)
set_option maxHeartbeats 8000000 in
set_option maxRecDepth 100000 in
theorem bits_RotateLeft64.calls (a0 : Int) (a1 : Int) (r : Int) (w : World) (h : bits_RotateLeft64.f a0 a1 = some r) :
  Calls Tryd.prog 159 #[.int .u64 a0, .int .i64 a1] w fun e w' => e = .returned (.int .u64 r) ∧ w' = w := by
 have H : (if 0 ≤ (Go.bits .and .u64 (IntKind.u64.wrap (a1)) 63) then (if 0 ≤ (IntKind.u64.wrap (64 - (Go.bits .and .u64 (IntKind.u64.wrap (a1)) 63))) then (some (Go.bits .or .u64 (shl .u64 a0 (Go.bits .and .u64 (IntKind.u64.wrap (a1)) 63)) (shr .u64 a0 (IntKind.u64.wrap (64 - (Go.bits .and .u64 (IntKind.u64.wrap (a1)) 63)))))) else (none)) else (none)) = some r := h
 clear h
 obtain ⟨ji3, hji3⟩ : ∃ j_ : Int, (Go.bits .and .u64 (IntKind.u64.wrap (a1)) 63) = j_ := ⟨_, rfl⟩
 replace H : (if 0 ≤ (ji3) then (if 0 ≤ (IntKind.u64.wrap (64 - (ji3))) then (some (Go.bits .or .u64 (shl .u64 a0 (ji3)) (shr .u64 a0 (IntKind.u64.wrap (64 - (ji3)))))) else (none)) else (none)) = some r := by first | (rw [hji3] at H; exact H) | (simp only [hji3] at H ⊢; exact H)
 by_cases c4 : 0 ≤ (ji3)
 ·rw [if_pos c4] at H
  have c4b0 := eq_true c4
  have c4b1 : decide (0 ≤ (ji3)) = true := decide_eq_true c4
  clear c4
  obtain ⟨ji5, hji5⟩ : ∃ j_ : Int, (shl .u64 a0 (ji3)) = j_ := ⟨_, rfl⟩
  replace H : (if 0 ≤ (IntKind.u64.wrap (64 - (ji3))) then (some (Go.bits .or .u64 (ji5) (shr .u64 a0 (IntKind.u64.wrap (64 - (ji3)))))) else (none)) = some r := by first | (rw [hji5] at H; exact H) | (simp only [hji5] at H ⊢; exact H)
  have hji5_ : (IntKind.u64.wrap (a0 * 2 ^ min (ji3).toNat 64)) = ji5 := hji5
  have hji5z : (ji3) ≤ 64 → (IntKind.u64.wrap (a0 * 2 ^ (ji3).toNat)) = ji5 := shl_small hji5
  obtain ⟨ji6, hji6⟩ : ∃ j_ : Int, (IntKind.u64.wrap (64 - (ji3))) = j_ := ⟨_, rfl⟩
  replace H : (if 0 ≤ (ji6) then (some (Go.bits .or .u64 (ji5) (shr .u64 a0 (ji6)))) else (none)) = some r := by first | (rw [hji6] at H; exact H) | (simp only [hji6] at H ⊢; exact H)
  by_cases c7 : 0 ≤ (ji6)
  ·rw [if_pos c7] at H
   have c7b0 := eq_true c7
   have c7b1 : decide (0 ≤ (ji6)) = true := decide_eq_true c7
   clear c7
   obtain ⟨ji8, hji8⟩ : ∃ j_ : Int, (shr .u64 a0 (ji6)) = j_ := ⟨_, rfl⟩
   replace H : (some (Go.bits .or .u64 (ji5) (ji8))) = some r := by first | (rw [hji8] at H; exact H) | (simp only [hji8] at H ⊢; exact H)
   have hji8_ : (a0 / 2 ^ min (ji6).toNat 64) = ji8 := hji8
   have hji8z : (ji6) ≤ 64 → (a0 / 2 ^ (ji6).toNat) = ji8 := shr_small hji8
   obtain rfl := Option.some.inj H
   go_enter Tryd.func159, Tryd.ntmps159
   go_wp2
   go_ret
   exact ⟨by first | rfl | (simp; done) | (simp only [← hji3, ← hji5, ← hji6, ← hji8] <;> (first | rfl | simp)) | (simp [*]; done), rfl⟩
  ·rw [if_neg c7] at H
   exact absurd H (by simp)
 ·rw [if_neg c4] at H
  exact absurd H (by simp)
def rot (x : Int) (k : Int) : Int := Go.bits .or .u64 (shl .u64 x k) (shr .u64 x (64 - k))
theorem rot_at (x : Int) : bits_RotateLeft64.f x 13 = some (rot x 13) ∧ bits_RotateLeft64.f x 16 = some (rot x 16) ∧ bits_RotateLeft64.f x 17 = some (rot x 17) ∧ bits_RotateLeft64.f x 21 = some (rot x 21) ∧ bits_RotateLeft64.f x 32 = some (rot x 32) := ⟨rfl, rfl, rfl, rfl, rfl⟩
theorem rotc (x k r : Int) (h : bits_RotateLeft64.f x k = some r) (w : World) : Calls Tryd.prog 159 #[.int .u64 x, .int .i64 k] w fun e w' => e = .returned (.int .u64 r) ∧ w' = w := bits_RotateLeft64.calls x k r w h
def rnd (s : Int × Int × Int × Int) : Int × Int × Int × Int :=
 let a1 := IntKind.u64.wrap (s.1 + s.2.1)
 let b1 := Go.bits .xor .u64 (rot s.2.1 13) a1
 let c1 := IntKind.u64.wrap (s.2.2.1 + s.2.2.2)
 let d1 := Go.bits .xor .u64 (rot s.2.2.2 16) c1
 let a3 := IntKind.u64.wrap (rot a1 32 + d1)
 let c2 := IntKind.u64.wrap (c1 + b1)
 (a3, Go.bits .xor .u64 (rot b1 17) c2, rot c2 32, Go.bits .xor .u64 (rot d1 21) a3)
def rnds : Nat → Int × Int × Int × Int → Int × Int × Int × Int
 | 0, s => s
 | n + 1, s => rnds n (rnd s)
def IsV (g : Nat) (s : Int × Int × Int × Int) (w : World) : Prop := w.heap[g]? = some (.cells #[.int .u64 s.1, .int .u64 s.2.1, .int .u64 s.2.2.1, .int .u64 s.2.2.2] 171 (0, 0))
theorem Off.drew {g : Nat} {w0 w : World} (h : Off g w0 w) : Off g w0 w.drew := ⟨fun B a hB hx => below_drew (h.1 B a hB hx), h.2.1, h.2.2⟩
theorem IsV.drew {g : Nat} {s : Int × Int × Int × Int} {w : World} (h : IsV g s w) : IsV g s w.drew := h
theorem IsV.set0 {g : Nat} {a b c d : Int} {w : World} (h : IsV g (a, b, c, d) w) (x : Int) : IsV g (x, b, c, d) (w.setCell ⟨g, 0, none⟩ (.int .u64 x)) := Zbn h 0 _
theorem IsV.set1 {g : Nat} {a b c d : Int} {w : World} (h : IsV g (a, b, c, d) w) (x : Int) : IsV g (a, x, c, d) (w.setCell ⟨g, 1, none⟩ (.int .u64 x)) := Zbn h 1 _
theorem IsV.set2 {g : Nat} {a b c d : Int} {w : World} (h : IsV g (a, b, c, d) w) (x : Int) : IsV g (a, b, x, d) (w.setCell ⟨g, 2, none⟩ (.int .u64 x)) := Zbn h 2 _
theorem IsV.set3 {g : Nat} {a b c d : Int} {w : World} (h : IsV g (a, b, c, d) w) (x : Int) : IsV g (a, b, c, x) (w.setCell ⟨g, 3, none⟩ (.int .u64 x)) := Zbn h 3 _
theorem IsV.cells {g : Nat} {s : Int × Int × Int × Int} {w : World} (h : IsV g s w) : (w.cell? ⟨g, 0, none⟩ = some (.int .u64 s.1) ∧ w.cell? ⟨g, 1, none⟩ = some (.int .u64 s.2.1) ∧ w.cell? ⟨g, 2, none⟩ = some (.int .u64 s.2.2.1) ∧ w.cell? ⟨g, 3, none⟩ = some (.int .u64 s.2.2.2)) ∧
  (w.frozen? ⟨g, 0, none⟩ = false ∧ w.frozen? ⟨g, 1, none⟩ = false ∧ w.frozen? ⟨g, 2, none⟩ = false ∧ w.frozen? ⟨g, 3, none⟩ = false) :=
 ⟨⟨by rw [Zai h 0]; rfl, by rw [Zai h 1]; rfl, by rw [Zai h 2]; rfl, by rw [Zai h 3]; rfl⟩, Zau h 0, Zau h 1, Zau h 2, Zau h 3⟩
set_option maxHeartbeats 8000000 in
set_option maxRecDepth 100000 in
theorem round_walk (g : Nat) (s : Int × Int × Int × Int) (m : Nat) (hm : m ≤ 8) (w : World) (hV : IsV g s w) :
  Calls Tryd.prog 150 #[.pointer (some ⟨g, 0, none⟩), .int .i64 (m : Int)] w fun e w' => e = .returned (.tuple #[]) ∧ IsV g (rnds m s) w' ∧ Off g w w' := by
 have HM := Zaa.mk hm
 have HV := Zaa.mk hV
 clear hm hV
 go_enter Tryd.func150, Tryd.ntmps150
 go_wp2
 go_loopw [1] (fun v1 wr => ∃ (n : Nat) (t : Int × Int × Int × Int), n ≤ m ∧ v1 = .int .i64 (n : Int) ∧ Zaa (rnds n t = rnds m s) ∧ Zaa (IsV g t wr) ∧ Zaa (Off g w wr)) (fun v1 _ => (intOf v1).toNat)
 case atStart => exact ⟨m, s, Nat.le_refl _, rfl, ⟨rfl⟩, HV, ⟨Off.refl g w⟩⟩
 case round =>
  obtain ⟨n, ⟨a, b, c, d⟩, hn, rfl, HR, HT, HO⟩ := hrel
  have hn8 : n ≤ 8 := Nat.le_trans hn HM.out
  rcases Nat.eq_zero_or_pos n with rfl | hp
  ·go_wp2
   go_end0
   refine ⟨rfl, ?_, HO.out⟩
   have h1 := HR.out
   rw [← h1]
   exact HT.out
  ·have hd : decide ((0 : Int) < (n : Int)) = true := decide_eq_true (by omega)
   obtain ⟨⟨c0, c1, c2, c3⟩, f0, f1, f2, f3⟩ := HT.out.cells
   go_wp2
   go_still_tail 11, (by kernel_rfl)
   change wpList _ _ _ _ _ wr.drew
   go_wp2
   have HT1 := Zaa.mk (IsV.set0 HT.out (IntKind.u64.wrap (a + b))).drew
   have HO1 := Zaa.mk (Off.set HO.out 0 (.int .u64 (IntKind.u64.wrap (a + b)))).drew
   obtain ⟨a1, ha1⟩ : ∃ a1, (IntKind.u64.wrap (a + b)) = a1 := ⟨_, rfl⟩
   rw [ha1] at HT1 HO1
   rw [ha1]
   generalize (wr.setCell ⟨g, 0, none⟩ (.int .u64 a1)).drew = w1 at HT1 HO1 ⊢
   have Ha1 := Zaa.mk ha1
   clear ha1 c0 c1 c2 c3 f0 f1 f2 f3 HT HO
   obtain ⟨⟨c0, c1, c2, c3⟩, f0, f1, f2, f3⟩ := HT1.out.cells
   go_still_tail 13, (by kernel_rfl)
   still_call (rotc b 13 _ (rot_at b).1 _)
   repeat still_step
   refine wpStill_nil ?_
   change wpList _ _ _ _ _ w1.drew
   go_wp2
   have HT2 := Zaa.mk (IsV.set1 HT1.out (Go.bits .xor .u64 (rot b 13) a1)).drew
   have HO2 := Zaa.mk (Off.set HO1.out 1 (.int .u64 (Go.bits .xor .u64 (rot b 13) a1))).drew
   obtain ⟨b1, hb1⟩ : ∃ b1, (Go.bits .xor .u64 (rot b 13) a1) = b1 := ⟨_, rfl⟩
   rw [hb1] at HT2 HO2
   rw [hb1]
   generalize (w1.setCell ⟨g, 1, none⟩ (.int .u64 b1)).drew = w2 at HT2 HO2 ⊢
   have Hb1 := Zaa.mk hb1
   clear hb1 c0 c1 c2 c3 f0 f1 f2 f3 HT1 HO1
   obtain ⟨⟨c0, c1, c2, c3⟩, f0, f1, f2, f3⟩ := HT2.out.cells
   go_still_tail 8, (by kernel_rfl)
   still_call (rotc a1 32 _ (rot_at a1).2.2.2.2 _)
   repeat still_step
   refine wpStill_nil ?_
   change wpList _ _ _ _ _ w2.drew
   go_wp2
   have HT3 := Zaa.mk (IsV.set0 HT2.out (rot a1 32)).drew
   have HO3 := Zaa.mk (Off.set HO2.out 0 (.int .u64 (rot a1 32))).drew
   obtain ⟨a2, ha2⟩ : ∃ a2, (rot a1 32) = a2 := ⟨_, rfl⟩
   rw [ha2] at HT3 HO3
   rw [ha2]
   generalize (w2.setCell ⟨g, 0, none⟩ (.int .u64 a2)).drew = w3 at HT3 HO3 ⊢
   have Ha2 := Zaa.mk ha2
   clear ha2 c0 c1 c2 c3 f0 f1 f2 f3 HT2 HO2
   obtain ⟨⟨c0, c1, c2, c3⟩, f0, f1, f2, f3⟩ := HT3.out.cells
   go_still_tail 11, (by kernel_rfl)
   change wpList _ _ _ _ _ w3.drew
   go_wp2
   have HT4 := Zaa.mk (IsV.set2 HT3.out (IntKind.u64.wrap (c + d))).drew
   have HO4 := Zaa.mk (Off.set HO3.out 2 (.int .u64 (IntKind.u64.wrap (c + d)))).drew
   obtain ⟨c1', hc1'⟩ : ∃ c1', (IntKind.u64.wrap (c + d)) = c1' := ⟨_, rfl⟩
   rw [hc1'] at HT4 HO4
   rw [hc1']
   generalize (w3.setCell ⟨g, 2, none⟩ (.int .u64 c1')).drew = w4 at HT4 HO4 ⊢
   have Hc1' := Zaa.mk hc1'
   clear hc1' c0 c1 c2 c3 f0 f1 f2 f3 HT3 HO3
   obtain ⟨⟨c0, c1, c2, c3⟩, f0, f1, f2, f3⟩ := HT4.out.cells
   go_still_tail 13, (by kernel_rfl)
   still_call (rotc d 16 _ (rot_at d).2.1 _)
   repeat still_step
   refine wpStill_nil ?_
   change wpList _ _ _ _ _ w4.drew
   go_wp2
   have HT5 := Zaa.mk (IsV.set3 HT4.out (Go.bits .xor .u64 (rot d 16) c1')).drew
   have HO5 := Zaa.mk (Off.set HO4.out 3 (.int .u64 (Go.bits .xor .u64 (rot d 16) c1'))).drew
   obtain ⟨d1, hd1⟩ : ∃ d1, (Go.bits .xor .u64 (rot d 16) c1') = d1 := ⟨_, rfl⟩
   rw [hd1] at HT5 HO5
   rw [hd1]
   generalize (w4.setCell ⟨g, 3, none⟩ (.int .u64 d1)).drew = w5 at HT5 HO5 ⊢
   have Hd1 := Zaa.mk hd1
   clear hd1 c0 c1 c2 c3 f0 f1 f2 f3 HT4 HO4
   obtain ⟨⟨c0, c1, c2, c3⟩, f0, f1, f2, f3⟩ := HT5.out.cells
   go_still_tail 11, (by kernel_rfl)
   change wpList _ _ _ _ _ w5.drew
   go_wp2
   have HT6 := Zaa.mk (IsV.set0 HT5.out (IntKind.u64.wrap (a2 + d1))).drew
   have HO6 := Zaa.mk (Off.set HO5.out 0 (.int .u64 (IntKind.u64.wrap (a2 + d1)))).drew
   obtain ⟨a3, ha3⟩ : ∃ a3, (IntKind.u64.wrap (a2 + d1)) = a3 := ⟨_, rfl⟩
   rw [ha3] at HT6 HO6
   rw [ha3]
   generalize (w5.setCell ⟨g, 0, none⟩ (.int .u64 a3)).drew = w6 at HT6 HO6 ⊢
   have Ha3 := Zaa.mk ha3
   clear ha3 c0 c1 c2 c3 f0 f1 f2 f3 HT5 HO5
   obtain ⟨⟨c0, c1, c2, c3⟩, f0, f1, f2, f3⟩ := HT6.out.cells
   go_still_tail 13, (by kernel_rfl)
   still_call (rotc d1 21 _ (rot_at d1).2.2.2.1 _)
   repeat still_step
   refine wpStill_nil ?_
   change wpList _ _ _ _ _ w6.drew
   go_wp2
   have HT7 := Zaa.mk (IsV.set3 HT6.out (Go.bits .xor .u64 (rot d1 21) a3)).drew
   have HO7 := Zaa.mk (Off.set HO6.out 3 (.int .u64 (Go.bits .xor .u64 (rot d1 21) a3))).drew
   obtain ⟨d2, hd2⟩ : ∃ d2, (Go.bits .xor .u64 (rot d1 21) a3) = d2 := ⟨_, rfl⟩
   rw [hd2] at HT7 HO7
   rw [hd2]
   generalize (w6.setCell ⟨g, 3, none⟩ (.int .u64 d2)).drew = w7 at HT7 HO7 ⊢
   have Hd2 := Zaa.mk hd2
   clear hd2 c0 c1 c2 c3 f0 f1 f2 f3 HT6 HO6
   obtain ⟨⟨c0, c1, c2, c3⟩, f0, f1, f2, f3⟩ := HT7.out.cells
   go_still_tail 11, (by kernel_rfl)
   change wpList _ _ _ _ _ w7.drew
   go_wp2
   have HT8 := Zaa.mk (IsV.set2 HT7.out (IntKind.u64.wrap (c1' + b1))).drew
   have HO8 := Zaa.mk (Off.set HO7.out 2 (.int .u64 (IntKind.u64.wrap (c1' + b1)))).drew
   obtain ⟨c2', hc2'⟩ : ∃ c2', (IntKind.u64.wrap (c1' + b1)) = c2' := ⟨_, rfl⟩
   rw [hc2'] at HT8 HO8
   rw [hc2']
   generalize (w7.setCell ⟨g, 2, none⟩ (.int .u64 c2')).drew = w8 at HT8 HO8 ⊢
   have Hc2' := Zaa.mk hc2'
   clear hc2' c0 c1 c2 c3 f0 f1 f2 f3 HT7 HO7
   obtain ⟨⟨c0, c1, c2, c3⟩, f0, f1, f2, f3⟩ := HT8.out.cells
   go_still_tail 13, (by kernel_rfl)
   still_call (rotc b1 17 _ (rot_at b1).2.2.1 _)
   repeat still_step
   refine wpStill_nil ?_
   change wpList _ _ _ _ _ w8.drew
   go_wp2
   have HT9 := Zaa.mk (IsV.set1 HT8.out (Go.bits .xor .u64 (rot b1 17) c2')).drew
   have HO9 := Zaa.mk (Off.set HO8.out 1 (.int .u64 (Go.bits .xor .u64 (rot b1 17) c2'))).drew
   obtain ⟨b2, hb2⟩ : ∃ b2, (Go.bits .xor .u64 (rot b1 17) c2') = b2 := ⟨_, rfl⟩
   rw [hb2] at HT9 HO9
   rw [hb2]
   generalize (w8.setCell ⟨g, 1, none⟩ (.int .u64 b2)).drew = w9 at HT9 HO9 ⊢
   have Hb2 := Zaa.mk hb2
   clear hb2 c0 c1 c2 c3 f0 f1 f2 f3 HT8 HO8
   obtain ⟨⟨c0, c1, c2, c3⟩, f0, f1, f2, f3⟩ := HT9.out.cells
   go_still_tail 8, (by kernel_rfl)
   still_call (rotc c2' 32 _ (rot_at c2').2.2.2.2 _)
   repeat still_step
   refine wpStill_nil ?_
   change wpList _ _ _ _ _ w9.drew
   go_wp2
   have HT10 := Zaa.mk (IsV.set2 HT9.out (rot c2' 32)).drew
   have HO10 := Zaa.mk (Off.set HO9.out 2 (.int .u64 (rot c2' 32))).drew
   obtain ⟨c3', hc3'⟩ : ∃ c3', (rot c2' 32) = c3' := ⟨_, rfl⟩
   rw [hc3'] at HT10 HO10
   rw [hc3']
   generalize (w9.setCell ⟨g, 2, none⟩ (.int .u64 c3')).drew = w10 at HT10 HO10 ⊢
   have Hc3' := Zaa.mk hc3'
   clear hc3' c0 c1 c2 c3 f0 f1 f2 f3 HT9 HO9
   obtain ⟨⟨c0, c1, c2, c3⟩, f0, f1, f2, f3⟩ := HT10.out.cells
   go_wp2
   go_roundw
   case rel =>
    obtain ⟨n, rfl⟩ : ∃ q, n = q + 1 := ⟨n - 1, by omega⟩
    refine ⟨n, (a3, b2, c3', d2), by omega, by go_num, ⟨?_⟩, HT10, HO10⟩
    have h1 := HR.out
    rw [← h1]
    show _ = rnds n (rnd (a, b, c, d))
    unfold rnd
    simp only [Ha1.out, Hb1.out, Ha2.out, Hc1'.out, Hd1.out, Ha3.out, Hd2.out, Hc2'.out, Hb2.out, Hc3'.out]
   case measure => simp [intOf]; omega
def tk (s : Int × Int × Int × Int) (x : Int) : Int × Int × Int × Int :=
 let t := rnds 2 (s.1, s.2.1, s.2.2.1, Go.bits .xor .u64 s.2.2.2 x)
 (Go.bits .xor .u64 t.1 x, t.2.1, t.2.2.1, t.2.2.2)
set_option maxHeartbeats 4000000 in
set_option maxRecDepth 100000 in
theorem take_walk (g : Nat) (s : Int × Int × Int × Int) (x : Int) (w : World) (hV : IsV g s w) :
  Calls Tryd.prog 148 #[.pointer (some ⟨g, 0, none⟩), .int .u64 x] w fun e w' => e = .returned (.tuple #[]) ∧ IsV g (tk s x) w' ∧ Off g w w' := by
 obtain ⟨a, b, c, d⟩ := s
 have HV := Zaa.mk hV
 clear hV
 obtain ⟨⟨c0, c1, c2, c3⟩, f0, f1, f2, f3⟩ := HV.out.cells
 go_enter Tryd.func148, Tryd.ntmps148
 go_wp2
 go_still_tail 8, (by kernel_rfl)
 change wpList _ _ _ _ _ w.drew
 go_wp2_with (go_at_call 150; refine (round_walk g (a, b, c, Go.bits .xor .u64 d x) 2 (by omega) _ (IsV.set3 HV.out _).drew).mono ?_; rintro e w2 ⟨rfl, hv, ho⟩; have HT2 := Zaa.mk hv; have HO2 := Zaa.mk (Off.trans (Off.set (Off.refl g w) 3 _).drew ho); clear hv ho c0 c1 c2 c3 f0 f1 f2 f3)
 obtain ⟨y, hy⟩ : ∃ y, rnds 2 (a, b, c, Go.bits .xor .u64 d x) = y := ⟨_, rfl⟩
 rw [hy] at HT2
 have HY := Zaa.mk hy
 clear hy
 obtain ⟨y0, y1, y2, y3⟩ := y
 obtain ⟨⟨c0, c1, c2, c3⟩, f0, f1, f2, f3⟩ := HT2.out.cells
 go_still_tail 8, (by kernel_rfl)
 change wpList _ _ _ _ _ w2.drew
 go_wp2
 go_end0
 refine ⟨rfl, ?_, (Off.set HO2.out 0 _).drew⟩
 unfold tk
 simp only [HY.out]
 exact (IsV.set0 HT2.out _).drew
def wdA : Nat → Int → List Int → Int
 | _, x, [] => x
 | i, x, c :: l => wdA (i + 1) (Go.bits .or .u64 x (shl .u64 (IntKind.u64.wrap c) (8 * (i : Int)))) l
def wd (l : List Int) : Int := wdA 0 0 l
theorem word_loop (l : List Int) (hl : l.length ≤ 8) : ∀ (d i : Nat) (x : Int) (k : Nat), i + d = l.length → d < k → digest_word.l0 k x l (l.length : Int) (i : Int) = some (wdA i x (l.drop i)) := by
 intro d
 induction d with
 | zero =>
  intro i x k hi hk
  obtain ⟨k, rfl⟩ : ∃ m, k = m + 1 := ⟨k - 1, by omega⟩
  rw [digest_word.l0, if_neg (by omega), List.drop_eq_nil_of_le (by omega)]
  rfl
 | succ d ih =>
  intro i x k hi hk
  obtain ⟨k, rfl⟩ : ∃ m, k = m + 1 := ⟨k - 1, by omega⟩
  have hw : wrap64 ((i : Int) + 1) = ((i + 1 : Nat) : Int) := by unfold wrap64; omega
  have hw2 : wrap64 (8 * (i : Int)) = 8 * (i : Int) := by unfold wrap64; omega
  have hr : rd l (i : Int) = l[i]'(by omega) := by
   unfold rd
   rw [Int.toNat_natCast, List.getD_eq_getElem?_getD, List.getElem?_eq_getElem (by omega)]
   rfl
  rw [digest_word.l0, if_pos (by omega), if_pos (by omega), if_pos (by omega), hw2, if_pos (by omega), hw, ih (i + 1) _ k (by omega) (by omega), hr, List.drop_eq_getElem_cons (show i < l.length by omega), wdA]
theorem word_run (l : List Int) (hl : l.length ≤ 8) (k : Nat) (hk : 8 < k) : digest_word.f k l = some (wd l) := word_loop l hl l.length 0 0 k (by omega) (by omega)
def absorb : Nat → Int × Int × Int × Int → List Int → (Int × Int × Int × Int) × List Int
 | 0, s, l => (s, l)
 | n + 1, s, l => if 8 ≤ l.length then absorb n (tk s (wd (l.take 8))) (l.drop 8) else (s, l)
theorem absorb_end (n : Nat) (s : Int × Int × Int × Int) (l : List Int) (h : l.length < 8) : absorb n s l = (s, l) := by
 cases n with
 | zero => rfl
 | succ n => rw [absorb, if_neg (by omega)]
def sip0 (k0 k1 : Int) : Int × Int × Int × Int := (Go.bits .xor .u64 k0 8317987319222330741, Go.bits .xor .u64 k1 7237128888997146477, Go.bits .xor .u64 k0 7816392313619706465, Go.bits .xor .u64 k1 8387220255154660723)
def sipEnd (n : Int) (r : (Int × Int × Int × Int) × List Int) : Int :=
 let s1 := tk r.1 (Go.bits .or .u64 (IntKind.u64.wrap (n * 72057594037927936)) (wd r.2))
 let s2 := rnds 4 (s1.1, s1.2.1, Go.bits .xor .u64 s1.2.2.1 255, s1.2.2.2)
 Go.bits .xor .u64 (Go.bits .xor .u64 (Go.bits .xor .u64 s2.1 s2.2.1) s2.2.2.1) s2.2.2.2
def sip (k0 k1 : Int) (l : List Int) : Int := sipEnd (l.length : Int) (absorb l.length (sip0 k0 k1) l)
set_option maxHeartbeats 4000000 in
set_option maxRecDepth 100000 in
theorem sum_walk (k0 k1 : Int) (A : Option Addr) (c : Nat) (l : List Int) (w : World) (hr : Kd.C (Kd.int .u8) w A l.length l) (hc : l.length ≤ c) (hl : l.length ≤ 1000000000) :
  Calls Tryd.prog 131 #[.agg #[.int .u64 k0, .int .u64 k1], .slice A l.length c] w fun e w' => e = .returned (.int .u64 (sip k0 k1 l)) ∧ Below w.heap.size w w' := by
 have HR := Zaa.mk hr
 have HC := Zaa.mk hc
 have HL := Zaa.mk hl
 clear hr hc
 go_enter Tryd.func131, Tryd.ntmps131
 go_wp2_with (go_at_call 147; refine (digest_begin.calls k0 k1 _ _ _ _ _ rfl).mono ?_; rintro e w1 ⟨rfl, hb⟩; have HB1 := Zaa.mk (Zaf (Zam (Below.refl _ w) _) hb); clear hb)
 have HV1 := Zaa.mk (show IsV w1.heap.size (sip0 k0 k1) (w1.alloc (.cells #[.int .u64 (Go.bits .xor .u64 k0 8317987319222330741), .int .u64 (Go.bits .xor .u64 k1 7237128888997146477), .int .u64 (Go.bits .xor .u64 k0 7816392313619706465), .int .u64 (Go.bits .xor .u64 k1 8387220255154660723)] 171)) from blk_new w1 _)
 have HB2 := Zaa.mk (Zam HB1.out (.cells #[.int .u64 (Go.bits .xor .u64 k0 8317987319222330741), .int .u64 (Go.bits .xor .u64 k1 7237128888997146477), .int .u64 (Go.bits .xor .u64 k0 7816392313619706465), .int .u64 (Go.bits .xor .u64 k1 8387220255154660723)] 171))
 have HG := Zaa.mk (Zae HB1.out)
 clear HB1
 generalize w1.heap.size = g at HV1 HG ⊢
 generalize w1.alloc (.cells #[.int .u64 (Go.bits .xor .u64 k0 8317987319222330741), .int .u64 (Go.bits .xor .u64 k1 7237128888997146477), .int .u64 (Go.bits .xor .u64 k0 7816392313619706465), .int .u64 (Go.bits .xor .u64 k1 8387220255154660723)] 171) = w2 at HV1 HB2 ⊢
 go_loopw [1] (fun v1 wr => ∃ (n : Nat) (t : Int × Int × Int × Int) (A' : Option Addr) (c' : Nat) (l' : List Int), v1 = .slice A' l'.length c' ∧ Zaa (l'.length ≤ c' ∧ l'.length ≤ 8 * n + 7 ∧ l'.length ≤ 1000000000) ∧ Zaa (Kd.C (Kd.int .u8) w A' l'.length l') ∧ Zaa (absorb n t l' = absorb l.length (sip0 k0 k1) l) ∧ Zaa (IsV g t wr) ∧ Zaa (Below w.heap.size w wr)) (fun v1 _ => (match v1 with | .slice _ n _ => n | _ => 0))
 case atStart => exact ⟨l.length, sip0 k0 k1, A, c, l, rfl, ⟨HC.out, by omega, HL.out⟩, HR, ⟨rfl⟩, HV1, HB2⟩
 case round =>
  obtain ⟨n, t, A', c', l', rfl, HN, HR', HE, HT, HB⟩ := hrel
  by_cases h8 : 8 ≤ l'.length
  ·have hd : decide ((8 : Int) ≤ (l'.length : Int)) = true := decide_eq_true (by omega)
   have hd2 : decide (8 ≤ l'.length) = true := decide_eq_true h8
   obtain ⟨i0, hi0, _, hsz0, _⟩ := info_parts info5
   obtain ⟨hcut0, hA0, hC0⟩ := print_take_of (P := Tryd.prog) (Value.int .u8) 0 28 5 .i64 Tryd.underlying28 hi0 hsz0 A' c' l' 8 (by omega) (by omega) HN.out.1
   obtain ⟨A2, hcut1, hA1, hC1⟩ := print_drop_of (P := Tryd.prog) (Value.int .u8) 0 28 5 .i64 Tryd.underlying28 hi0 hsz0 A' c' l' 8 (by omega) (by omega) HN.out.1
   have R0 := Zaa.mk (Kd.C_of_reads (h1 := fun _ => rfl) (hA0 w (Kd.reads_of_C HR'.out)))
   have R1 := Zaa.mk (Kd.C_of_reads (h1 := fun _ => rfl) (hA1 w (Kd.reads_of_C HR'.out)))
   have HE' := Zaa.mk (show absorb (n - 1) (tk t (wd (l'.take 8))) (l'.drop 8) = absorb l.length (sip0 k0 k1) l by
    have h1 := HE.out
    obtain ⟨m, rfl⟩ : ∃ m, n = m + 1 := ⟨n - 1, by have := HN.out.2.1; omega⟩
    rw [absorb, if_pos h8] at h1
    exact h1)
   have HL8 := Zaa.mk (show (l'.take 8).length ≤ 8 from List.length_take_le _ _)
   have HN' := Zaa.mk (show (l'.drop 8).length ≤ c' - 8 ∧ (l'.drop 8).length ≤ 8 * (n - 1) + 7 ∧ (l'.drop 8).length ≤ 1000000000 ∧ (l'.drop 8).length < l'.length by
    have h1 := HN.out
    rw [List.length_drop]
    omega)
   have C0 := Zaa.mk (show (l'.take 8).length ≤ c' from hC0)
   clear hA0 hA1 hi0 hsz0 hC0 hC1
   change ∀ W : World, (Instr.slice 28 (.slice A' l'.length c') none (some (.int .i64 8)) none).run Tryd.prog W = .ok (.slice A' (l'.take 8).length c') W at hcut0
   change ∀ W : World, (Instr.slice 28 (.slice A' l'.length c') (some (.int .i64 8)) none none).run Tryd.prog W = .ok (.slice A2 (l'.drop 8).length (c' - 8)) W at hcut1
   change Zaa (Kd.C _ w A' (l'.take 8).length (l'.take 8)) at R0
   change Zaa (Kd.C _ w A2 (l'.drop 8).length (l'.drop 8)) at R1
   generalize l'.take 8 = p at R0 C0 HE' HL8 hcut0
   generalize l'.drop 8 = q at R1 HE' HN' hcut1
   go_wp2_with (first
    | (go_at_call 149; refine (digest_word.calls 100 A' c' p (wd p) _ (Kd.C_below R0.out HB.out) C0.out (word_run p HL8.out 100 (by omega))).mono ?_; rintro e w3 ⟨rfl, hdr⟩; have HB3 := Zaa.mk (Zaf HB.out hdr.below); have HT3 := Zaa.mk (show IsV g t w3 from Zah HT.out hdr.below); clear hdr HT HB)
    | (go_at_call 148; refine (take_walk g t (wd p) _ HT3.out).mono ?_; rintro e w4 ⟨rfl, hv, ho⟩; have HT4 := Zaa.mk hv; have HB4 := Zaa.mk (ho.1 _ _ HG.out HB3.out); clear hv ho HT3 HB3))
   go_roundw
   case rel => exact ⟨n - 1, _, A2, c' - 8, q, rfl, ⟨HN'.out.1, HN'.out.2.1, HN'.out.2.2.1⟩, R1, HE', HT4, HB4⟩
   case measure => have := HN'.out.2.2.2; simp; omega
  ·have hd : decide ((8 : Int) ≤ (l'.length : Int)) = false := decide_eq_false (by omega)
   have hd2 : decide (8 ≤ l'.length) = false := decide_eq_false h8
   go_wp2_with (first
    | (go_at_call 149; refine (digest_word.calls 100 A' c' l' (wd l') _ (Kd.C_below HR'.out HB.out) HN.out.1 (word_run l' (by omega) 100 (by omega))).mono ?_; rintro e w3 ⟨rfl, hdr⟩; have HB3 := Zaa.mk (Zaf HB.out hdr.below); have HT3 := Zaa.mk (show IsV g t w3 from Zah HT.out hdr.below); clear hdr HT HB)
    | (go_at_call 148; refine (take_walk g t _ _ HT3.out).mono ?_; rintro e w4 ⟨rfl, hv, ho⟩; have HT4 := Zaa.mk hv; have HB4 := Zaa.mk (ho.1 _ _ HG.out HB3.out); clear hv ho HT3 HB3; obtain ⟨y, hy⟩ : ∃ y, tk t (Go.bits .or .u64 (IntKind.u64.wrap ((l.length : Int) * 72057594037927936)) (wd l')) = y := ⟨_, rfl⟩; rw [hy] at HT4; have HY := Zaa.mk hy; clear hy; obtain ⟨y0, y1, y2, y3⟩ := y; obtain ⟨⟨c0, c1, c2, c3⟩, f0, f1, f2, f3⟩ := HT4.out.cells)
    | (go_at_call 150; refine (round_walk g (y0, y1, Go.bits .xor .u64 y2 255, y3) 4 (by omega) _ (IsV.set2 HT4.out _)).mono ?_; rintro e w5 ⟨rfl, hv, ho⟩; have HT5 := Zaa.mk hv; have HB5 := Zaa.mk (ho.1 _ _ HG.out (Za9 HB4.out HG.out)); clear hv ho c0 c1 c2 c3 f0 f1 f2 f3; obtain ⟨z, hz⟩ : ∃ z, rnds 4 (y0, y1, Go.bits .xor .u64 y2 255, y3) = z := ⟨_, rfl⟩; rw [hz] at HT5; have HZ := Zaa.mk hz; clear hz; obtain ⟨z0, z1, z2, z3⟩ := z; obtain ⟨⟨c0, c1, c2, c3⟩, f0, f1, f2, f3⟩ := HT5.out.cells))
   have he : sip k0 k1 l = Go.bits .xor .u64 (Go.bits .xor .u64 (Go.bits .xor .u64 z0 z1) z2) z3 := by
    have h1 := HE.out
    rw [absorb_end n t l' (by omega)] at h1
    unfold sip sipEnd
    rw [← h1]
    simp only [HY.out, HZ.out]
   have HE2 := Zaa.mk he
   clear he
   go_ret
   rw [HE2.out]
   exact ⟨rfl, HB5.out⟩
def digest_Sum.f (a0_0 : Int) (a0_1 : Int) (l1 : List Int) : Option Int := if l1.length ≤ 1000000000 then some (sip a0_0 a0_1 l1) else none
theorem digest_Sum.calls (a0_0 : Int) (a0_1 : Int) (A1 : Option Addr) (c1 : Nat) (l1 : List Int) (r : Int) (w : World) (hr1 : Kd.C (Kd.int .u8) w A1 l1.length l1) (hc1 : l1.length ≤ c1) (h : digest_Sum.f a0_0 a0_1 l1 = some r) :
  Calls Tryd.prog 131 #[.agg #[.int .u64 a0_0, .int .u64 a0_1], .slice A1 l1.length c1] w fun e w' => e = .returned (.int .u64 r) ∧ Below w.heap.size w w' := by
 unfold digest_Sum.f at h
 split at h
 ·rename_i hl
  obtain rfl := Option.some.inj h
  exact sum_walk a0_0 a0_1 A1 c1 l1 w hr1 hc1 hl
 ·cases h
end Go.Proofs.YtkfddpbmclbdhaaDoor.PA
