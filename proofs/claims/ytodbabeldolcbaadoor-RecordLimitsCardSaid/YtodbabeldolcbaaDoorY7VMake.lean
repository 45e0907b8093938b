/- What the maker of arguments (kauditmake) gives: pairs with short names and texts; different pairs have different texts; the law ValueDiffer in plain Lean. Conditions: the place in the list of numbers is below 2^60. -/
import Derived.Test.YtodbabeldolcbaaDoorY7VPair
import Derived.Test.YtodbabeldolcbaaDoorY7PAx0
import Derived.Test.YtodbabeldolcbaaDoorY7PAx4
namespace Go.Proofs.YtodbabeldolcbaaDoor.PA
set_option linter.unusedSimpArgs false
set_option linter.unusedVariables false
open Go.RowKit Go.Proofs.YtodbabeldolcbaaDoorW.PrintWords Go.Proofs.YtodbabeldolcbaaDoorW.PrintLast Go.Proofs.YtodbabeldolcbaaDoorW.PrintMore Go.Proofs.YtodbabeldolcbaaDoor.M0
def Near (at_ : Int) : Prop := 0 ≤ at_ ∧ at_ ≤ 1152921504606846976
theorem Near.add {at_ : Int} {m : Int} (h : Near at_) (hm : 0 ≤ m) (hb : at_ + m ≤ 1152921504606846976) : Near (at_ + m) := ⟨by have := h.1; omega, hb⟩
/-- What a pair of the maker's is. -/
structure PairOK (n : ByteArray) (a1 a2 : Int) (t : ByteArray) : Prop where
  name : n.size ≤ 17
  kind : 1 ≤ a1 ∧ a1 ≤ 3
  num : -9223372036854775808 ≤ a2 ∧ a2 ≤ 9223372036854775807
  text : t.size ≤ 4
/-! ### Different pairs have different texts -/
def decVal (l : List UInt8) : Nat := l.foldl (fun a b => 10 * a + (b.toNat - 48)) 0
theorem decVal_dec (u : Nat) : decVal (Lib.decDigits u) = u := by
  induction u using Nat.strongRecOn with
  | _ u ih =>
    rw [Lib.decDigits]
    by_cases h : u < 10
    · rw [dif_pos h]
      simp only [decVal, List.foldl_cons, List.foldl_nil, UInt8.toNat_ofNat']
      omega
    · rw [dif_neg h]
      have := ih (u / 10) (by omega)
      unfold decVal at this ⊢
      rw [List.foldl_append, this]
      simp only [List.foldl_cons, List.foldl_nil, UInt8.toNat_ofNat']
      omega
theorem dec_head (u : Nat) : ∃ b l, Lib.decDigits u = b :: l ∧ 48 ≤ b.toNat ∧ b.toNat ≤ 57 := by
  induction u using Nat.strongRecOn with
  | _ u ih =>
    rw [Lib.decDigits]
    by_cases h : u < 10
    · rw [dif_pos h]
      exact ⟨_, _, rfl, by rw [UInt8.toNat_ofNat']; omega, by rw [UInt8.toNat_ofNat']; omega⟩
    · rw [dif_neg h]
      obtain ⟨b, l, hb, h1, h2⟩ := ih (u / 10) (by omega)
      rw [hb]
      exact ⟨b, _, rfl, h1, h2⟩
theorem itoa_head (n : Int) : ∃ b l, Lib.itoa n = b :: l ∧ (b.toNat = 45 ∨ (48 ≤ b.toNat ∧ b.toNat ≤ 57)) := by
  by_cases hn : 0 ≤ n
  · rw [itoa_ge n hn]
    obtain ⟨b, l, h, h1, h2⟩ := dec_head n.toNat
    exact ⟨b, l, h, .inr ⟨h1, h2⟩⟩
  · rw [itoa_lt n (by omega)]
    exact ⟨_, _, rfl, .inl rfl⟩
theorem itoa_inj {m n : Int} (h : Lib.itoa m = Lib.itoa n) : m = n := by
  by_cases hm : 0 ≤ m <;> by_cases hn : 0 ≤ n
  · rw [itoa_ge m hm, itoa_ge n hn] at h
    have := congrArg decVal h
    rw [decVal_dec, decVal_dec] at this
    omega
  · rw [itoa_ge m hm, itoa_lt n (by omega)] at h
    obtain ⟨b, l, hb, h1, _⟩ := dec_head m.toNat
    rw [hb] at h
    injection h with h _
    rw [h] at h1
    exact absurd h1 (by decide)
  · rw [itoa_lt m (by omega), itoa_ge n hn] at h
    obtain ⟨b, l, hb, h1, _⟩ := dec_head n.toNat
    rw [hb] at h
    injection h with h _
    rw [← h] at h1
    exact absurd h1 (by decide)
  · rw [itoa_lt m (by omega), itoa_lt n (by omega)] at h
    injection h with _ h
    have := congrArg decVal h
    rw [decVal_dec, decVal_dec] at this
    omega
theorem quoteL_head (l : List UInt8) : ∃ b r, quoteL l = b :: r ∧ (b.toNat = 34 ∨ b.toNat = 120) := by
  unfold quoteL
  split
  · exact ⟨_, _, rfl, .inl rfl⟩
  · exact ⟨_, _, rfl, .inr rfl⟩
theorem quoteL_inj {a b : List UInt8} (ha : a.length ≤ 640) (hb : b.length ≤ 640) (h : quoteL a = quoteL b) : a = b := by
  have h1 : Quotes ⟨a.toArray⟩ ⟨(quoteL a).toArray⟩ := Quotes.of (by rw [mk_size]; exact ha) (by rw [L_mk, L_mk])
  have h2 : Quotes ⟨b.toArray⟩ ⟨(quoteL a).toArray⟩ := Quotes.of (by rw [mk_size]; exact hb) (by rw [L_mk, L_mk, h])
  have := congrArg L (h1.inj h2)
  rwa [L_mk, L_mk] at this
theorem okL_no61 (f : Bool) (l : List UInt8) (h : okL f l = true) : ∀ b ∈ l, b.toNat ≠ 61 := by
  induction l generalizing f with
  | nil => intro b hb; cases hb
  | cons c l ih =>
    rw [okL, Bool.and_eq_true] at h
    intro b hb
    rcases List.mem_cons.1 hb with rfl | hb
    · intro e
      have := h.1
      rw [e] at this
      cases f <;> exact absurd this (by decide)
    · exact ih false h.2 b hb
theorem nameL_no61 {l : List UInt8} (h : nameL l = true) : ∀ b ∈ l, b.toNat ≠ 61 := by
  unfold nameL at h
  rw [Bool.and_eq_true] at h
  exact okL_no61 true l h.1
theorem split61 {a b x y : List UInt8} (ha : ∀ c ∈ a, c.toNat ≠ 61) (hb : ∀ c ∈ b, c.toNat ≠ 61) (h : a ++ 61 :: x = b ++ 61 :: y) : a = b ∧ x = y := by
  induction a generalizing b with
  | nil =>
    rcases b with _ | ⟨c, b⟩
    · simp at h; exact ⟨rfl, h⟩
    · simp at h; exact absurd (by rw [← h.1]; rfl) (hb c (by simp))
  | cons c a ih =>
    rcases b with _ | ⟨d, b⟩
    · simp at h; exact absurd (by rw [h.1]; rfl) (ha c (by simp))
    · simp only [List.cons_append, List.cons.injEq] at h
      obtain ⟨e1, e2⟩ := ih (fun z hz => ha z (List.mem_cons_of_mem _ hz)) (fun z hz => hb z (List.mem_cons_of_mem _ hz)) h.2
      exact ⟨by rw [h.1, e1], e2⟩
theorem valueL_inj {k1 n1 k2 n2 : Int} {t1 t2 : List UInt8} (a1 : 1 ≤ k1 ∧ k1 ≤ 3) (a2 : 1 ≤ k2 ∧ k2 ≤ 3) (b1 : k1 = 1 ∨ n1 = 0) (b2 : k2 = 1 ∨ n2 = 0) (c1 : k1 = 2 ∨ t1 = []) (c2 : k2 = 2 ∨ t2 = []) (d1 : t1.length ≤ 640) (d2 : t2.length ≤ 640)
    (h : valueL k1 n1 t1 = valueL k2 n2 t2) : k1 = k2 ∧ n1 = n2 ∧ t1 = t2 := by
  obtain ⟨i1, j1, e1, f1⟩ := itoa_head n1
  obtain ⟨i2, j2, e2, f2⟩ := itoa_head n2
  obtain ⟨q1, r1, g1, h1⟩ := quoteL_head t1
  obtain ⟨q2, r2, g2, h2⟩ := quoteL_head t2
  unfold valueL at h
  by_cases x1 : k1 = 1
  · rw [if_pos x1] at h
    by_cases x2 : k2 = 1
    · rw [if_pos x2] at h
      refine ⟨by omega, itoa_inj h, ?_⟩
      rw [c1.resolve_left (by omega), c2.resolve_left (by omega)]
    · rw [if_neg x2] at h
      by_cases y2 : k2 = 2
      · rw [if_pos y2, e1, g2] at h
        injection h with h _
        rw [h] at f1; omega
      · rw [if_neg y2, e1] at h
        injection h with h _
        rw [h] at f1; exact absurd f1 (by decide)
  · rw [if_neg x1] at h
    by_cases x2 : k2 = 1
    · rw [if_pos x2] at h
      by_cases y1 : k1 = 2
      · rw [if_pos y1, g1, e2] at h
        injection h with h _
        rw [h] at h1; omega
      · rw [if_neg y1, e2] at h
        injection h with h _
        rw [← h] at f2; exact absurd f2 (by decide)
    · rw [if_neg x2] at h
      by_cases y1 : k1 = 2
      · rw [if_pos y1] at h
        by_cases y2 : k2 = 2
        · rw [if_pos y2] at h
          refine ⟨by omega, ?_, quoteL_inj d1 d2 h⟩
          rw [b1.resolve_left x1, b2.resolve_left x2]
        · rw [if_neg y2, g1] at h
          injection h with h _
          rw [h] at h1; exact absurd h1 (by decide)
      · rw [if_neg y1] at h
        by_cases y2 : k2 = 2
        · rw [if_pos y2, g2] at h
          injection h with h _
          rw [← h] at h2; exact absurd h2 (by decide)
        · refine ⟨by omega, ?_, ?_⟩
          · rw [b1.resolve_left x1, b2.resolve_left x2]
          · rw [c1.resolve_left y1, c2.resolve_left y2]
theorem formL_inj {n1 n2 t1 t2 : List UInt8} {k1 m1 k2 m2 : Int} (h1 : checkI n1 k1 m1 t1 = 0) (h2 : checkI n2 k2 m2 t2 = 0) (h : formL n1 k1 m1 t1 = formL n2 k2 m2 t2) : n1 = n2 ∧ k1 = k2 ∧ m1 = m2 ∧ t1 = t2 := by
  obtain ⟨a1, a2, a3, a4, a5, a6⟩ := checkI_ok h1
  obtain ⟨b1, b2, b3, b4, b5, b6⟩ := checkI_ok h2
  obtain ⟨e, hv⟩ := split61 (nameL_no61 a1) (nameL_no61 b1) h
  obtain ⟨e1, e2, e3⟩ := valueL_inj ⟨a2, a3⟩ ⟨b2, b3⟩ a4 b4 a5 b5 a6 b6 hv
  exact ⟨e, e1, e2, e3⟩
end Go.Proofs.YtodbabeldolcbaaDoor.PA
