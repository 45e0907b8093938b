/- The program's and the reference's Unquote both return the text that Quote writes, if there is one; the law ValueUnquotes in plain Lean. Conditions: none. -/
import Derived.Test.YtkfddpbmclbdhaaDoorZAVQuote
import Derived.Test.YtkfddpbmclbdhaaDoorZAPAxkauditlaw02ValueUnquotes
namespace Go.Proofs.YtkfddpbmclbdhaaDoor.PA
set_option linter.unusedSimpArgs false
open Go.RowKit Go.Proofs.YtkfddpbmclbdhaaDoorW.PrintWords Go.Proofs.YtkfddpbmclbdhaaDoorW.PrintLast Go.Proofs.YtkfddpbmclbdhaaDoorW.PrintMore Go.Proofs.YtkfddpbmclbdhaaDoor.M0
def hexL (l : List UInt8) : List UInt8 := (hexI l).map fun n => UInt8.ofNat n.toNat
def quoteL (l : List UInt8) : List UInt8 := if safeL l then 34 :: (l ++ [34]) else 120 :: hexL l
theorem quote_some (s : ByteArray) : ∃ q e, value_Quote.f s = some (q, e) ∧ ((640 < s.size ∧ e = 20 ∧ q = ⟨#[]⟩) ∨ (s.size ≤ 640 ∧ e = 0 ∧ L q = quoteL (L s))) := by
 unfold value_Quote.f quoteL
 by_cases h1 : 640 < s.size
 ·exact ⟨_, _, by rw [if_pos h1], .inl ⟨h1, rfl, rfl⟩⟩
 ·by_cases h2 : safeL (L s) = true
  ·exact ⟨_, _, by rw [if_neg h1, if_pos h2], .inr ⟨by omega, rfl, by rw [if_pos h2, L_append, L_append]; rfl⟩⟩
  ·exact ⟨_, _, by rw [if_neg h1, if_neg h2], .inr ⟨by omega, rfl, by rw [if_neg h2]; rfl⟩⟩
def Quotes (t s : ByteArray) : Prop := value_Quote.f t = some (s, 0)
theorem Quotes.bytes {t s : ByteArray} (h : Quotes t s) : t.size ≤ 640 ∧ L s = quoteL (L t) := by
 obtain ⟨q, e, hq, hc⟩ := quote_some t
 rw [Quotes, hq] at h
 simp only [Option.some.injEq, Prod.mk.injEq] at h
 obtain ⟨rfl, rfl⟩ := h
 rcases hc with ⟨_, h, _⟩ | ⟨h, _, h2⟩
 ·cases h
 ·exact ⟨h, h2⟩
theorem Quotes.of {t s : ByteArray} (h : t.size ≤ 640) (hs : L s = quoteL (L t)) : Quotes t s := by
 obtain ⟨q, e, hq, hc⟩ := quote_some t
 rcases hc with ⟨h1, _, _⟩ | ⟨_, rfl, h2⟩
 ·omega
 ·rw [Quotes, hq, ext_L (h2.trans hs.symm)]
theorem digitF_of (n : Nat) (hn : n < 16) : digitF (digs.getD n 0) = n := by
 match n, hn with
 | 0, _ | 1, _ | 2, _ | 3, _ | 4, _ | 5, _ | 6, _ | 7, _ | 8, _ | 9, _ | 10, _ | 11, _ | 12, _ | 13, _ | 14, _ | 15, _ => rfl
 | n + 16, h => omega
theorem digs_range (n : Nat) (hn : n < 16) : 48 ≤ digs.getD n 0 ∧ digs.getD n 0 ≤ 102 := by
 match n, hn with
 | 0, _ | 1, _ | 2, _ | 3, _ | 4, _ | 5, _ | 6, _ | 7, _ | 8, _ | 9, _ | 10, _ | 11, _ | 12, _ | 13, _ | 14, _ | 15, _ => decide
 | n + 16, h => omega
theorem nib_or (n m : Nat) (hn : n < 16) (hm : m < 16) : Go.bits .or .u8 (((n : Int) * 16) % 256) (Go.bits .and .u8 (m : Int) 15) = 16 * n + m := by
 have key : ∀ a b : Fin 16, Go.bits .or .u8 ((((a.val : Nat) : Int) * 16) % 256) (Go.bits .and .u8 ((b.val : Nat) : Int) 15) = 16 * (a.val : Nat) + (b.val : Nat) := by decide +kernel
 exact key ⟨n, hn⟩ ⟨m, hm⟩
theorem hexL_cons (b : UInt8) (l : List UInt8) : hexL (b :: l) = UInt8.ofNat (digs.getD (b.toNat / 16) 0).toNat :: UInt8.ofNat (digs.getD (b.toNat % 16) 0).toNat :: hexL l := by
 simp only [hexL, hexI, List.flatMap_cons, List.map_append, List.map_cons, List.map_nil, List.cons_append, List.nil_append]
theorem hexL_length (l : List UInt8) : (hexL l).length = 2 * l.length := by simp [hexL, hexI_length]
theorem byte_back {x : Int} (h0 : 0 ≤ x) (h : x ≤ 255) : ((UInt8.ofNat x.toNat).toNat : Int) = x := by
 have : (UInt8.ofNat x.toNat).toNat = x.toNat % 256 := UInt8.toNat_ofNat'
 omega
def decP : List UInt8 → List Int
 | a :: b :: r => Go.bits .or .u8 ((digitF a.toNat * 16) % 256) (Go.bits .and .u8 (digitF b.toNat) 15) :: decP r
 | _ => []
theorem decP_hex (l : List UInt8) : decP (hexL l) = l.map fun b => (b.toNat : Int) := by
 induction l with
 | nil => rfl
 | cons b l ih =>
  have hb := b.toNat_lt
  have r1 := digs_range (b.toNat / 16) (by omega)
  have r2 := digs_range (b.toNat % 16) (by omega)
  rw [hexL_cons, decP, ih, byte_back (by omega) (by omega), byte_back (by omega) (by omega), digitF_of _ (by omega), digitF_of _ (by omega), nib_or _ _ (by omega) (by omega), List.map_cons]
  congr 1
  omega
theorem strOfNums_bytes (s : ByteArray) : strOfNums ((L s).map fun b => (b.toNat : Int)) = s := by
 apply ext_L
 rw [L_strOfNums, List.map_map]
 conv => rhs; rw [← List.map_id (L s)]
 apply List.map_congr_left
 intro b _
 simp
theorem bt_drop (s : ByteArray) (i : Nat) (a : UInt8) (r : List UInt8) (h : (L s).drop i = a :: r) : i < s.size ∧ bt s (i : Int) = a.toNat ∧ (L s).drop (i + 1) = r := by
 have hl : i < (L s).length := by
  rcases Nat.lt_or_ge i (L s).length with h1 | h1
  ·exact h1
  ·rw [List.drop_of_length_le h1] at h; cases h
 have h2 := List.drop_eq_getElem_cons hl
 rw [h] at h2
 injection h2 with h3 h4
 exact ⟨by rw [size_L]; exact hl, by rw [bt_L s i hl, h3], h4.symm⟩
theorem drop_some (s : ByteArray) (i : Nat) (h : i < s.size) : ∃ a r, (L s).drop i = a :: r := by
 have hl : i < (L s).length := by rw [← size_L]; exact h
 exact ⟨_, _, List.drop_eq_getElem_cons hl⟩
theorem extract_mid (s t : ByteArray) (h : L s = 34 :: (L t ++ [34])) : s.extract 1 (s.size - 1) = t := by
 apply ext_L
 have hl : (L t).length = s.size - 2 := by rw [size_L, h]; simp
 have h2 : 2 ≤ s.size := by rw [size_L, h]; simp
 rw [L_extract, h]
 simp only [List.drop_succ_cons, List.drop_zero]
 rw [List.take_append_of_le_length (by omega), List.take_of_length_le (by omega)]
theorem quoteL_cases {t s : ByteArray} (h : Quotes t s) : (L s = 34 :: (L t ++ [34])) ∨ (L s = 120 :: hexL (L t) ∧ 0 < (L t).length) := by
 have hb := h.bytes.2
 unfold quoteL at hb
 by_cases h1 : safeL (L t) = true
 ·rw [if_pos h1] at hb; exact .inl hb
 ·rw [if_neg h1] at hb
  refine .inr ⟨hb, ?_⟩
  rcases ht : L t with _ | ⟨b, l⟩
  ·rw [ht] at h1; exact absurd rfl h1
  ·simp
def Right (s : ByteArray) (r : Option (ByteArray × Int)) : Prop := (∃ t, Quotes t s ∧ r = some (t, 0)) ∨ ((∀ t, ¬ Quotes t s) ∧ r = some (⟨#[]⟩, 21))
theorem Quotes.inj {t u s : ByteArray} (ht : Quotes t s) (hu : Quotes u s) : t = u := by
 rcases quoteL_cases ht with h1 | ⟨h1, hp⟩ <;> rcases quoteL_cases hu with h2 | ⟨h2, hq⟩
 ·rw [← extract_mid s t h1, ← extract_mid s u h2]
 ·rw [h1] at h2; injection h2 with h3 _; exact absurd h3 (by decide)
 ·rw [h1] at h2; injection h2 with h3 _; exact absurd h3 (by decide)
 ·rw [h1] at h2
  injection h2 with _ h3
  have := congrArg decP h3
  rw [decP_hex, decP_hex] at this
  rw [← strOfNums_bytes t, ← strOfNums_bytes u, this]
theorem Right.some {s : ByteArray} {r : Option (ByteArray × Int)} (h : Right s r) : ∃ c e, r = some (c, e) := by
 rcases h with ⟨t, _, rfl⟩ | ⟨_, rfl⟩ <;> exact ⟨_, _, rfl⟩
end Go.Proofs.YtkfddpbmclbdhaaDoor.PA
