/- What the maker of arguments (kauditmake) gives: pairs with short names and texts; different pairs have different texts; the law ValueDiffer in plain Lean. Conditions: the place in the list of numbers is below 2^60. -/
import Derived.Test.YtodbabeldolcbaaGreatDoorY9VPair
namespace Go.Proofs.YtodbabeldolcbaaGreatDoor.PA
set_option linter.unusedSimpArgs false
set_option linter.unusedVariables false
open Go.RowKit Go.Proofs.YtodbabeldolcbaaGreatDoorW.PrintWords Go.Proofs.YtodbabeldolcbaaGreatDoorW.PrintLast Go.Proofs.YtodbabeldolcbaaGreatDoorW.PrintMore Go.Proofs.YtodbabeldolcbaaGreatDoor.M0
def Near (at_ : Int) : Prop := 0 ≤ at_ ∧ at_ ≤ 1152921504606846976
theorem tmod_range (x n : Int) (hn : 0 < n) : -n < Int.tmod x n ∧ Int.tmod x n < n := by
 have h1 := Int.tmod_lt_of_pos x hn
 have h2 := Int.lt_tmod_of_pos x hn
 exact ⟨h2, h1⟩
theorem src_N (l : List Int) (at_ n : Int) (ha : Near at_) (hn : 1 ≤ n) (hn2 : n ≤ 1152921504606846976) : ∃ x, kauditmake_Src_N.f l at_ n = some (x, at_ + 1) ∧ 0 ≤ x ∧ x < n := by
 obtain ⟨h0, h1⟩ := ha
 have w1 : wrap64 (at_ + 1) = at_ + 1 := wrap64_id (by omega) (by omega)
 have fin : ∀ y : Int, ∃ x, (if Int.tmod y n < 0 then some (wrap64 (Int.tmod y n + n), at_ + 1) else some (Int.tmod y n, at_ + 1)) = some (x, at_ + 1) ∧ 0 ≤ x ∧ x < n := by
  intro y
  have := tmod_range y n (by omega)
  by_cases h : Int.tmod y n < 0
  ·rw [if_pos h, wrap64_id (by omega) (by omega)]
   exact ⟨_, rfl, by omega, by omega⟩
  ·rw [if_neg h]
   exact ⟨_, rfl, by omega, by omega⟩
 unfold kauditmake_Src_N.f
 rw [if_neg (by omega), w1]
 by_cases hl : at_ + 1 ≤ (l.length : Int)
 ·have w2 : wrap64 (at_ + 1 - 1) = at_ := by rw [wrap64_id (by omega) (by omega)]; omega
  rw [if_pos hl, w2, if_pos (by omega), if_pos (by omega), if_neg (by omega)]
  exact fin _
 ·rw [if_neg hl, if_neg (by omega)]
  exact fin _
theorem src_Word (l : List Int) (at_ : Int) (ws : List ByteArray) (ha : Near at_) (hw : 1 ≤ ws.length) (hw2 : ws.length ≤ 100) : ∃ s, kauditmake_Src_Word.f l at_ ws = some (s, at_ + 1) ∧ s ∈ ws := by
 obtain ⟨x, hx, h0, h1⟩ := src_N l at_ (ws.length : Int) ha (by omega) (by omega)
 unfold kauditmake_Src_Word.f
 rw [hx]
 simp only [Option.bind_some]
 rw [if_pos h0, if_pos h1]
 refine ⟨_, rfl, ?_⟩
 unfold rdOf
 have hlt : x.toNat < ws.length := by omega
 rw [List.getD_eq_getElem?_getD, List.getElem?_eq_getElem hlt]
 exact List.getElem_mem hlt
theorem src_Pick (l : List Int) (at_ : Int) (ws : List Int) (ha : Near at_) (hw : 1 ≤ ws.length) (hw2 : ws.length ≤ 100) : ∃ s, kauditmake_Src_Pick.f l at_ ws = some (s, at_ + 1) ∧ s ∈ ws := by
 obtain ⟨x, hx, h0, h1⟩ := src_N l at_ (ws.length : Int) ha (by omega) (by omega)
 unfold kauditmake_Src_Pick.f
 rw [hx]
 simp only [Option.bind_some]
 rw [if_pos h0, if_pos h1]
 refine ⟨_, rfl, ?_⟩
 unfold rd
 have hlt : x.toNat < ws.length := by omega
 rw [List.getD_eq_getElem?_getD, List.getElem?_eq_getElem hlt]
 exact List.getElem_mem hlt
theorem src_Range (l : List Int) (at_ lo hi : Int) (ha : Near at_) (h0 : -10000 ≤ lo) (h1 : lo ≤ hi) (h2 : hi ≤ 10000) : ∃ x, kauditmake_Src_Range.f l at_ lo hi = some (x, at_ + 1) ∧ lo ≤ x ∧ x ≤ hi := by
 have w1 : wrap64 (hi - lo) = hi - lo := wrap64_id (by omega) (by omega)
 have w2 : wrap64 (hi - lo + 1) = hi - lo + 1 := wrap64_id (by omega) (by omega)
 obtain ⟨x, hx, g0, g1⟩ := src_N l at_ (hi - lo + 1) ha (by omega) (by omega)
 unfold kauditmake_Src_Range.f
 rw [w1, w2, hx]
 simp only [Option.bind_some]
 rw [wrap64_id (by omega) (by omega)]
 exact ⟨_, rfl, by omega, by omega⟩
theorem Near.add {at_ : Int} {m : Int} (h : Near at_) (hm : 0 ≤ m) (hb : at_ + m ≤ 1152921504606846976) : Near (at_ + m) := ⟨by have := h.1; omega, hb⟩
theorem src_Text (l : List Int) (at_ : Int) (k : Nat) (h0 : 0 ≤ at_) (h1 : at_ ≤ 1152921504606846900) (hk : 5 < k) : ∃ t at2, kauditmake_Src_Text.f k l at_ = some (t, at2) ∧ t.size ≤ 4 ∧ at_ ≤ at2 ∧ at2 ≤ at_ + 5 := by
 obtain ⟨n, hn, g0, g1⟩ := src_N l at_ 5 ⟨h0, by omega⟩ (by omega) (by omega)
 have key : ∀ (d k : Nat) (x : ByteArray) (at_ : Int), d < k → x.size + d ≤ 100 → 0 ≤ at_ → at_ ≤ 1152921504606846950 - d →
   ∃ t at2, kauditmake_Src_Text.l0 k x (d : Int) l at_ = some (t, at2) ∧ t.size ≤ x.size + d ∧ at_ ≤ at2 ∧ at2 ≤ at_ + d := by
  intro d
  induction d with
  | zero =>
   intro k x at_ hk hx h0 h1
   obtain ⟨k, rfl⟩ : ∃ m, k = m + 1 := ⟨k - 1, by omega⟩
   rw [kauditmake_Src_Text.l0, if_neg (by omega)]
   exact ⟨_, _, rfl, by omega, by omega, by omega⟩
  | succ d ih =>
   intro k x at_ hk hx h0 h1
   obtain ⟨k, rfl⟩ : ∃ m, k = m + 1 := ⟨k - 1, by omega⟩
   rw [kauditmake_Src_Text.l0, if_pos (by omega)]
   obtain ⟨s, hs, hm⟩ := src_Word l at_ [(⟨#[97]⟩ : ByteArray), (⟨#[66]⟩ : ByteArray), (⟨#[55]⟩ : ByteArray), (⟨#[47]⟩ : ByteArray), (⟨#[34]⟩ : ByteArray), (⟨#[32]⟩ : ByteArray), (⟨#[0]⟩ : ByteArray), (⟨#[255]⟩ : ByteArray), (⟨#[61]⟩ : ByteArray), (⟨#[10]⟩ : ByteArray), (⟨#[126]⟩ : ByteArray), (⟨#[33]⟩ : ByteArray)] ⟨h0, by omega⟩ (by simp) (by simp)
   rw [hs]
   simp only [Option.bind_some]
   have hz : s.size = 1 := by
    simp only [List.mem_cons, List.not_mem_nil, or_false] at hm
    rcases hm with rfl | rfl | rfl | rfl | rfl | rfl | rfl | rfl | rfl | rfl | rfl | rfl <;> rfl
   have hz2 : (x ++ s).size = x.size + 1 := by rw [ByteArray.size_append, hz]
   have hw : wrap64 (((d + 1 : Nat) : Int) - 1) = (d : Int) := by rw [wrap64_id (by omega) (by omega)]; omega
   rw [if_pos (by omega), hw]
   obtain ⟨t, at2, ht, q1, q2, q3⟩ := ih k (x ++ s) (at_ + 1) (by omega) (by omega) (by omega) (by omega)
   exact ⟨t, at2, ht, by omega, by omega, by omega⟩
 unfold kauditmake_Src_Text.f
 rw [hn]
 simp only [Option.bind_some]
 obtain ⟨m, rfl⟩ := Int.eq_ofNat_of_zero_le g0
 obtain ⟨t, at2, ht, q1, q2, q3⟩ := key m k ⟨#[]⟩ (at_ + 1) (by omega) (by show 0 + m ≤ 100; omega) (by omega) (by omega)
 have z : (⟨#[]⟩ : ByteArray).size = 0 := rfl
 exact ⟨t, at2, ht, by omega, by omega, by omega⟩
structure PairOK (n : ByteArray) (a1 a2 : Int) (t : ByteArray) : Prop where
 name : n.size ≤ 17
 kind : 1 ≤ a1 ∧ a1 ≤ 3
 num : -9223372036854775808 ≤ a2 ∧ a2 ≤ 9223372036854775807
 text : t.size ≤ 4
theorem src_Pair_j0 (l : List Int) (at_ : Int) (n : ByteArray) (a1 a2 : Int) (t : ByteArray) (k : Nat) (h0 : 0 ≤ at_) (h1 : at_ ≤ 1152921504606846900) (hp : PairOK n a1 a2 t) :
  ∃ n2 a3 at2, kauditmake_Src_Pair.j0 (k + 1) l at_ n a1 a2 t = some (n2, a1, a3, t, at2) ∧ PairOK n2 a1 a3 t ∧ at_ ≤ at2 ∧ at2 ≤ at_ + 3 := by
 obtain ⟨x, hx, _, _⟩ := src_N l at_ 24 ⟨h0, by omega⟩ (by omega) (by omega)
 rw [kauditmake_Src_Pair.j0, hx]
 simp only [Option.bind_some]
 by_cases h23 : x = 23
 ·rw [if_pos h23]
  obtain ⟨s, hs, hm⟩ := src_Word l (at_ + 1) [(⟨#[]⟩ : ByteArray), (⟨#[65]⟩ : ByteArray), (⟨#[49, 97]⟩ : ByteArray), (⟨#[97, 45, 98]⟩ : ByteArray), (⟨#[97, 98, 99, 100, 101, 102, 103, 104, 105, 106, 107, 108, 109, 110, 111, 112]⟩ : ByteArray), (⟨#[97, 98, 99, 100, 101, 102, 103, 104, 105, 106, 107, 108, 109, 110, 111, 112, 113]⟩ : ByteArray)] ⟨by omega, by omega⟩ (by simp) (by simp)
  rw [hs]
  simp only [Option.bind_some]
  obtain ⟨y, hy, y0, y1⟩ := src_N l (at_ + 1 + 1) 2 ⟨by omega, by omega⟩ (by omega) (by omega)
  rw [hy]
  simp only [Option.bind_some]
  refine ⟨s, y, _, rfl, ⟨?_, hp.kind, by omega, hp.text⟩, by omega, by omega⟩
  simp only [List.mem_cons, List.not_mem_nil, or_false] at hm
  rcases hm with rfl | rfl | rfl | rfl | rfl | rfl <;> decide
 ·rw [if_neg h23]
  exact ⟨_, _, _, rfl, hp, by omega, by omega⟩
theorem src_Pair (l : List Int) (at_ : Int) (k : Nat) (h0 : 0 ≤ at_) (h1 : at_ ≤ 1152921504606846800) (hk : 6 < k) :
  ∃ n a1 a2 t at2, kauditmake_Src_Pair.f k l at_ = some (n, a1, a2, t, at2) ∧ PairOK n a1 a2 t ∧ at_ ≤ at2 ∧ at2 ≤ at_ + 20 := by
 obtain ⟨k, rfl⟩ : ∃ m, k = m + 1 := ⟨k - 1, by omega⟩
 obtain ⟨s, hs, hm⟩ := src_Word l at_ [(⟨#[97]⟩ : ByteArray), (⟨#[98]⟩ : ByteArray), (⟨#[117, 105, 100]⟩ : ByteArray), (⟨#[107, 101, 121]⟩ : ByteArray), (⟨#[97, 48]⟩ : ByteArray), (⟨#[120, 95, 49]⟩ : ByteArray), (⟨#[112, 105, 100]⟩ : ByteArray), (⟨#[112, 97, 116, 104]⟩ : ByteArray)] ⟨h0, by omega⟩ (by simp) (by simp)
 have hz : s.size ≤ 17 := by
  simp only [List.mem_cons, List.not_mem_nil, or_false] at hm
  rcases hm with rfl | rfl | rfl | rfl | rfl | rfl | rfl | rfl <;> decide
 obtain ⟨c, hc, c0, c1⟩ := src_Range l (at_ + 1) 1 3 ⟨by omega, by omega⟩ (by omega) (by omega) (by omega)
 unfold kauditmake_Src_Pair.f
 rw [hs]
 simp only [Option.bind_some]
 rw [hc]
 simp only [Option.bind_some]
 have ez : (⟨#[]⟩ : ByteArray).size ≤ 4 := by decide
 by_cases e1 : c = 1
 ·rw [if_pos e1]
  obtain ⟨x, hx, x0, x1⟩ := src_N l (at_ + 1 + 1) 1000 ⟨by omega, by omega⟩ (by omega) (by omega)
  rw [hx]
  simp only [Option.bind_some]
  obtain ⟨y, hy, ym⟩ := src_Pick l (at_ + 1 + 1 + 1) [0, 1, (-1), 42, 9223372036854775807, (-9223372036854775808), x] ⟨by omega, by omega⟩ (by simp) (by simp)
  rw [hy]
  simp only [Option.bind_some]
  have yr : -9223372036854775808 ≤ y ∧ y ≤ 9223372036854775807 := by
   simp only [List.mem_cons, List.not_mem_nil, or_false] at ym
   rcases ym with rfl | rfl | rfl | rfl | rfl | rfl | rfl <;> omega
  obtain ⟨n2, a3, at2, hj, hp, q1, q2⟩ := src_Pair_j0 l (at_ + 1 + 1 + 1 + 1) s c y ⟨#[]⟩ k (by omega) (by omega) ⟨hz, ⟨c0, c1⟩, yr, ez⟩
  exact ⟨_, _, _, _, _, hj, hp, by omega, by omega⟩
 ·rw [if_neg e1]
  by_cases e2 : c = 2
  ·rw [if_pos e2]
   obtain ⟨t, at2, ht, t0, t1, t2⟩ := src_Text l (at_ + 1 + 1) (k + 1) (by omega) (by omega) (by omega)
   rw [ht]
   simp only [Option.bind_some]
   obtain ⟨n2, a3, at3, hj, hp, q1, q2⟩ := src_Pair_j0 l at2 s c 0 t k (by omega) (by omega) ⟨hz, ⟨c0, c1⟩, by omega, t0⟩
   exact ⟨_, _, _, _, _, hj, hp, by omega, by omega⟩
  ·rw [if_neg e2]
   obtain ⟨n2, a3, at3, hj, hp, q1, q2⟩ := src_Pair_j0 l (at_ + 1 + 1) s c 0 ⟨#[]⟩ k (by omega) (by omega) ⟨hz, ⟨c0, c1⟩, by omega, ez⟩
   exact ⟨_, _, _, _, _, hj, hp, by omega, by omega⟩
def decVal (l : List UInt8) : Nat := l.foldl (fun a b => 10 * a + (b.toNat - 48)) 0
theorem Zb5 (u : Nat) : decVal (Lib.decDigits u) = u := by
 induction u using Nat.strongRecOn with
 | _ u ih =>
  rw [Lib.decDigits]
  by_cases h : u < 10
  ·rw [dif_pos h]
   simp only [decVal, List.foldl_cons, List.foldl_nil, UInt8.toNat_ofNat']
   omega
  ·rw [dif_neg h]
   have := ih (u / 10) (by omega)
   unfold decVal at this ⊢
   rw [List.foldl_append, this]
   simp only [List.foldl_cons, List.foldl_nil, UInt8.toNat_ofNat']
   omega
theorem dec_head (u : Nat) : ∃ b l, Lib.decDigits u = b :: l ∧ 48 ≤ b.toNat ∧ b.toNat ≤ 57 := by
 induction u using Nat.strongRecOn with
 | _ u ih =>
  rw [Lib.decDigits]
  by_cases h : u < 10
  ·rw [dif_pos h]
   exact ⟨_, _, rfl, by rw [UInt8.toNat_ofNat']; omega, by rw [UInt8.toNat_ofNat']; omega⟩
  ·rw [dif_neg h]
   obtain ⟨b, l, hb, h1, h2⟩ := ih (u / 10) (by omega)
   rw [hb]
   exact ⟨b, _, rfl, h1, h2⟩
theorem itoa_head (n : Int) : ∃ b l, Lib.itoa n = b :: l ∧ (b.toNat = 45 ∨ (48 ≤ b.toNat ∧ b.toNat ≤ 57)) := by
 by_cases hn : 0 ≤ n
 ·rw [Zbm n hn]
  obtain ⟨b, l, h, h1, h2⟩ := dec_head n.toNat
  exact ⟨b, l, h, .inr ⟨h1, h2⟩⟩
 ·rw [itoa_lt n (by omega)]
  exact ⟨_, _, rfl, .inl rfl⟩
theorem itoa_inj {m n : Int} (h : Lib.itoa m = Lib.itoa n) : m = n := by
 by_cases hm : 0 ≤ m <;> by_cases hn : 0 ≤ n
 ·rw [Zbm m hm, Zbm n hn] at h
  have := congrArg decVal h
  rw [Zb5, Zb5] at this
  omega
 ·rw [Zbm m hm, itoa_lt n (by omega)] at h
  obtain ⟨b, l, hb, h1, _⟩ := dec_head m.toNat
  rw [hb] at h
  injection h with h _
  rw [h] at h1
  exact absurd h1 (by decide)
 ·rw [itoa_lt m (by omega), Zbm n hn] at h
  obtain ⟨b, l, hb, h1, _⟩ := dec_head n.toNat
  rw [hb] at h
  injection h with h _
  rw [← h] at h1
  exact absurd h1 (by decide)
 ·rw [itoa_lt m (by omega), itoa_lt n (by omega)] at h
  injection h with _ h
  have := congrArg decVal h
  rw [Zb5, Zb5] at this
  omega
theorem quoteL_head (l : List UInt8) : ∃ b r, quoteL l = b :: r ∧ (b.toNat = 34 ∨ b.toNat = 120) := by
 unfold quoteL
 split
 ·exact ⟨_, _, rfl, .inl rfl⟩
 ·exact ⟨_, _, rfl, .inr rfl⟩
theorem quoteL_inj {a b : List UInt8} (ha : a.length ≤ 640) (hb : b.length ≤ 640) (h : quoteL a = quoteL b) : a = b := by
 have h1 : Zbo ⟨a.toArray⟩ ⟨(quoteL a).toArray⟩ := Zbo.of (by rw [Zbk]; exact ha) (by rw [L_mk, L_mk])
 have h2 : Zbo ⟨b.toArray⟩ ⟨(quoteL a).toArray⟩ := Zbo.of (by rw [Zbk]; exact hb) (by rw [L_mk, L_mk, h])
 have := congrArg L (h1.inj h2)
 rwa [L_mk, L_mk] at this
theorem okL_no61 (f : Bool) (l : List UInt8) (h : okL f l = true) : ∀ b ∈ l, b.toNat ≠ 61 := by
 induction l generalizing f with
 | nil => intro b hb; cases hb
 | cons c l ih =>
  rw [okL, Bool.and_eq_true] at h
  intro b hb
  rcases List.mem_cons.1 hb with rfl | hb
  ·intro e
   have := h.1
   rw [e] at this
   cases f <;> exact absurd this (by decide)
  ·exact ih false h.2 b hb
theorem nameL_no61 {l : List UInt8} (h : nameL l = true) : ∀ b ∈ l, b.toNat ≠ 61 := by
 unfold nameL at h
 rw [Bool.and_eq_true] at h
 exact okL_no61 true l h.1
theorem split61 {a b x y : List UInt8} (ha : ∀ c ∈ a, c.toNat ≠ 61) (hb : ∀ c ∈ b, c.toNat ≠ 61) (h : a ++ 61 :: x = b ++ 61 :: y) : a = b ∧ x = y := by
 induction a generalizing b with
 | nil =>
  rcases b with _ | ⟨c, b⟩
  ·simp at h; exact ⟨rfl, h⟩
  ·simp at h; exact absurd (by rw [← h.1]; rfl) (hb c (by simp))
 | cons c a ih =>
  rcases b with _ | ⟨d, b⟩
  ·simp at h; exact absurd (by rw [h.1]; rfl) (ha c (by simp))
  ·simp only [List.cons_append, List.cons.injEq] at h
   obtain ⟨e1, e2⟩ := ih (fun z hz => ha z (List.mem_cons_of_mem _ hz)) (fun z hz => hb z (List.mem_cons_of_mem _ hz)) h.2
   exact ⟨by rw [h.1, e1], e2⟩
theorem valueL_inj {k1 n1 k2 n2 : Int} {t1 t2 : List UInt8} (a1 : 1 ≤ k1 ∧ k1 ≤ 3) (a2 : 1 ≤ k2 ∧ k2 ≤ 3) (b1 : k1 = 1 ∨ n1 = 0) (b2 : k2 = 1 ∨ n2 = 0) (c1 : k1 = 2 ∨ t1 = []) (c2 : k2 = 2 ∨ t2 = []) (d1 : t1.length ≤ 640) (d2 : t2.length ≤ 640)
  (h : valueL k1 n1 t1 = valueL k2 n2 t2) : k1 = k2 ∧ n1 = n2 ∧ t1 = t2 := by
 obtain ⟨i1, j1, e1, f1⟩ := itoa_head n1
 obtain ⟨i2, j2, e2, f2⟩ := itoa_head n2
 obtain ⟨q1, r1, g1, h1⟩ := quoteL_head t1
 obtain ⟨q2, r2, g2, h2⟩ := quoteL_head t2
 unfold valueL at h
 by_cases x1 : k1 = 1
 ·rw [if_pos x1] at h
  by_cases x2 : k2 = 1
  ·rw [if_pos x2] at h
   refine ⟨by omega, itoa_inj h, ?_⟩
   rw [c1.resolve_left (by omega), c2.resolve_left (by omega)]
  ·rw [if_neg x2] at h
   by_cases y2 : k2 = 2
   ·rw [if_pos y2, e1, g2] at h
    injection h with h _
    rw [h] at f1; omega
   ·rw [if_neg y2, e1] at h
    injection h with h _
    rw [h] at f1; exact absurd f1 (by decide)
 ·rw [if_neg x1] at h
  by_cases x2 : k2 = 1
  ·rw [if_pos x2] at h
   by_cases y1 : k1 = 2
   ·rw [if_pos y1, g1, e2] at h
    injection h with h _
    rw [h] at h1; omega
   ·rw [if_neg y1, e2] at h
    injection h with h _
    rw [← h] at f2; exact absurd f2 (by decide)
  ·rw [if_neg x2] at h
   by_cases y1 : k1 = 2
   ·rw [if_pos y1] at h
    by_cases y2 : k2 = 2
    ·rw [if_pos y2] at h
     refine ⟨by omega, ?_, quoteL_inj d1 d2 h⟩
     rw [b1.resolve_left x1, b2.resolve_left x2]
    ·rw [if_neg y2, g1] at h
     injection h with h _
     rw [h] at h1; exact absurd h1 (by decide)
   ·rw [if_neg y1] at h
    by_cases y2 : k2 = 2
    ·rw [if_pos y2, g2] at h
     injection h with h _
     rw [← h] at h2; exact absurd h2 (by decide)
    ·refine ⟨by omega, ?_, ?_⟩
     ·rw [b1.resolve_left x1, b2.resolve_left x2]
     ·rw [c1.resolve_left y1, c2.resolve_left y2]
theorem formL_inj {n1 n2 t1 t2 : List UInt8} {k1 m1 k2 m2 : Int} (h1 : Zb1 n1 k1 m1 t1 = 0) (h2 : Zb1 n2 k2 m2 t2 = 0) (h : Zcj n1 k1 m1 t1 = Zcj n2 k2 m2 t2) : n1 = n2 ∧ k1 = k2 ∧ m1 = m2 ∧ t1 = t2 := by
 obtain ⟨a1, a2, a3, a4, a5, a6⟩ := Zb0 h1
 obtain ⟨b1, b2, b3, b4, b5, b6⟩ := Zb0 h2
 obtain ⟨e, hv⟩ := split61 (nameL_no61 a1) (nameL_no61 b1) h
 obtain ⟨e1, e2, e3⟩ := valueL_inj ⟨a2, a3⟩ ⟨b2, b3⟩ a4 b4 a5 b5 a6 b6 hv
 exact ⟨e, e1, e2, e3⟩
end Go.Proofs.YtodbabeldolcbaaGreatDoor.PA
