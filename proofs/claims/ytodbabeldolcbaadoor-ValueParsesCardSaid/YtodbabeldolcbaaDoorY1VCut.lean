/- Plain lemmas: cutting a text at a mark; reading a decimal text back. No program in them; conditions: each lemma names its own. -/
import Derived.Test.YtodbabeldolcbaaDoorY1VLine
import Derived.Lib.IndexMore
import Derived.Lib.AtoiAll
namespace Go.Proofs.YtodbabeldolcbaaDoor.PA
set_option linter.unusedSimpArgs false
set_option linter.unusedVariables false
open Go.RowKit Go.Proofs.YtodbabeldolcbaaDoorW.PrintWords Go.Proofs.YtodbabeldolcbaaDoorW.PrintLast Go.Proofs.YtodbabeldolcbaaDoorW.PrintMore Go.Proofs.YtodbabeldolcbaaDoor.M0
theorem prefix_self (a r : List UInt8) : a.isPrefixOf (a ++ r) = true := by
  rw [List.isPrefixOf_iff_prefix]; exact List.prefix_append a r
theorem index_at (c : UInt8) (m : List UInt8) : ∀ (a r : List UInt8), c ∉ a → Lib.index (a ++ ((c :: m) ++ r)) (c :: m) = (a.length : Int)
  | [], r, _ => by
    show Lib.index (c :: (m ++ r)) (c :: m) = 0
    have h := prefix_self (c :: m) r
    rw [List.cons_append] at h
    rw [Lib.index, if_pos h]
  | q :: a, r, h => by
    have hq : ¬ c = q := fun e => h (by rw [e]; exact List.mem_cons_self ..)
    have ih := index_at c m a r (fun hm => h (List.mem_cons_of_mem _ hm))
    have hp : ¬ (c :: m).isPrefixOf (q :: (a ++ ((c :: m) ++ r))) = true := by
      intro hh
      rw [List.isPrefixOf_iff_prefix, List.cons_prefix_cons] at hh
      exact hq hh.1
    rw [List.cons_append, Lib.index, if_neg hp, ih, if_neg (by rw [beq_iff_eq]; omega), List.length_cons]
    omega
/-- A text cut at a mark whose first byte does not stand ahead of it. -/
theorem cut_at (c : UInt8) (m a r : List UInt8) (h : c ∉ a) : Lib.cut (a ++ ((c :: m) ++ r)) (c :: m) = (a, r, true) := by
  unfold Lib.cut
  rw [index_at c m a r h, if_pos (by omega), Int.toNat_natCast, List.take_left, ← List.append_assoc, List.drop_left' (by rw [List.length_append])]
/-! ### A decimal text read back -/
def fold10 (acc : Nat) (l : List UInt8) : Nat := l.foldl (fun a b => 10 * a + (b.toNat - 48)) acc
theorem fold10_ge : ∀ (l : List UInt8) (acc : Nat), acc ≤ fold10 acc l
  | [], acc => Nat.le_refl _
  | b :: l, acc => by
    have := fold10_ge l (10 * acc + (b.toNat - 48))
    show acc ≤ fold10 (10 * acc + (b.toNat - 48)) l
    omega
theorem parse_fold : ∀ (l : List UInt8) (acc : Nat), Dg l → fold10 acc l ≤ 9223372036854775808 → Lib.parseUint10 acc l = .ok (fold10 acc l)
  | [], acc, _, _ => rfl
  | b :: l, acc, hd, hb => by
    have h1 := hd b (List.mem_cons_self ..)
    have h2 := fold10_ge l (10 * acc + (b.toNat - 48))
    have e : fold10 acc (b :: l) = fold10 (10 * acc + (b.toNat - 48)) l := rfl
    rw [e] at hb ⊢
    have h3 := parse_fold l (10 * acc + (b.toNat - 48)) (fun x hx => hd x (List.mem_cons_of_mem _ hx)) hb
    rw [Lib.parseUint10, if_pos h1, if_neg (by omega), if_neg (by omega), show acc * 10 + (b.toNat - 48) = 10 * acc + (b.toNat - 48) by omega]
    exact h3
theorem mag_dec (u : Nat) (h : u ≤ 9223372036854775808) : Lib.parseMag (Lib.decDigits u) = .ok u := by
  obtain ⟨b, l, hl, _, _⟩ := dec_head u
  have e : fold10 0 (Lib.decDigits u) = u := decVal_dec u
  unfold Lib.parseMag
  rw [if_neg (by rw [hl]; exact List.cons_ne_nil _ _), parse_fold _ _ (dec_dg u) (by rw [e]; exact h), e]
theorem atoi_itoa (n : Int) (h0 : -9223372036854775808 ≤ n) (h1 : n ≤ 9223372036854775807) : Lib.atoiAll (Lib.itoa n) = .ok n := by
  by_cases hn : 0 ≤ n
  · rw [itoa_ge n hn]
    obtain ⟨b, l, hl, c1, c2⟩ := dec_head n.toNat
    have hm := mag_dec n.toNat (by omega)
    rw [hl] at hm ⊢
    unfold Lib.atoiAll
    simp only
    rw [if_neg (by omega), hm]
    simp only
    rw [if_neg (by omega), if_neg (by omega), if_neg (by omega)]
    congr 1
    omega
  · rw [itoa_lt n (by omega)]
    have hm := mag_dec n.natAbs (by omega)
    unfold Lib.atoiAll
    simp only
    have e45 : (45 : UInt8).toNat = 45 := rfl
    rw [if_pos (.inr e45), hm]
    simp only
    rw [if_neg (fun h => h.1 e45), if_neg (by omega), if_pos e45]
    congr 1
    omega
theorem atoi_no (c : UInt8) (r : List UInt8) (h : (c.toNat < 48 ∨ 57 < c.toNat) ∧ c.toNat ≠ 43 ∧ c.toNat ≠ 45) (v : Int) : ¬ Lib.atoiAll (c :: r) = .ok v := by
  have hp : Lib.parseMag (c :: r) = .syntax := by
    unfold Lib.parseMag
    rw [if_neg (List.cons_ne_nil _ _), Lib.parseUint10, if_neg (by omega)]
  unfold Lib.atoiAll
  simp only
  rw [if_neg (by omega), hp]
  intro e
  cases e
theorem atoi_range {l : List UInt8} {v : Int} (h : Lib.atoiAll l = .ok v) : -9223372036854775808 ≤ v ∧ v ≤ 9223372036854775807 := by
  unfold Lib.atoiAll at h
  rcases l with _ | ⟨c, r⟩
  · cases h
  · simp only at h
    split at h
    · cases h
    · cases h
    · split at h
      · cases h
      · split at h
        · cases h
        · injection h with h
          split at h <;> omega
end Go.Proofs.YtodbabeldolcbaaDoor.PA
