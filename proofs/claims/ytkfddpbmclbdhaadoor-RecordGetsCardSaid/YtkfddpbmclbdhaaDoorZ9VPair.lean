/- What the reference's Quote computes is what the program's Quote computes; the law ValueQuotes in plain Lean. Conditions: none. -/
import Derived.Test.YtkfddpbmclbdhaaDoorZ9EQuote
import Derived.Test.YtkfddpbmclbdhaaDoorZ9M0
import Derived.Test.YtkfddpbmclbdhaaDoorZ9PAx0
import Derived.Test.YtkfddpbmclbdhaaDoorZ9PAx3
import Derived.Test.YtkfddpbmclbdhaaDoorZ9PAx4
import Derived.Test.YtkfddpbmclbdhaaDoorZ9PAx5
import Derived.Test.YtkfddpbmclbdhaaDoorZ9PAx6
import Derived.Test.YtkfddpbmclbdhaaDoorZ9PAx7
import Derived.Test.YtkfddpbmclbdhaaDoorZ9PAx8
import Derived.Test.YtkfddpbmclbdhaaDoorZ9PAx9
import Derived.Test.YtkfddpbmclbdhaaDoorZ9EDec
section
namespace Go.Proofs.YtkfddpbmclbdhaaDoor.PA
open Go.RowKit Go.Proofs.YtkfddpbmclbdhaaDoorW.PrintWords Go.Proofs.YtkfddpbmclbdhaaDoorW.PrintLast Go.Proofs.YtkfddpbmclbdhaaDoorW.PrintMore Go.Proofs.YtkfddpbmclbdhaaDoor.M0
theorem L_strOfNums (xs : List Int) : L (strOfNums xs) = xs.map fun n => UInt8.ofNat n.toNat := rfl
end Go.Proofs.YtkfddpbmclbdhaaDoor.PA
end
/- The program's and the reference's Unquote both return the text that Quote writes, if there is one; the law ValueUnquotes in plain Lean. Conditions: none. -/
section
namespace Go.Proofs.YtkfddpbmclbdhaaDoor.PA
set_option linter.unusedSimpArgs false
open Go.RowKit Go.Proofs.YtkfddpbmclbdhaaDoorW.PrintWords Go.Proofs.YtkfddpbmclbdhaaDoorW.PrintLast Go.Proofs.YtkfddpbmclbdhaaDoorW.PrintMore Go.Proofs.YtkfddpbmclbdhaaDoor.M0
/-! ### Quote, as bytes -/
def hexL (l : List UInt8) : List UInt8 := (hexI l).map fun n => UInt8.ofNat n.toNat
def quoteL (l : List UInt8) : List UInt8 := if safeL l then 34 :: (l ++ [34]) else 120 :: hexL l
theorem quote_some (s : ByteArray) : ∃ q e, value_Quote.f s = some (q, e) ∧ ((640 < s.size ∧ e = 20 ∧ q = ⟨#[]⟩) ∨ (s.size ≤ 640 ∧ e = 0 ∧ L q = quoteL (L s))) := by
  unfold value_Quote.f quoteL
  by_cases h1 : 640 < s.size
  · exact ⟨_, _, by rw [if_pos h1], .inl ⟨h1, rfl, rfl⟩⟩
  · by_cases h2 : safeL (L s) = true
    · exact ⟨_, _, by rw [if_neg h1, if_pos h2], .inr ⟨by omega, rfl, by rw [if_pos h2, L_append, L_append]; rfl⟩⟩
    · exact ⟨_, _, by rw [if_neg h1, if_neg h2], .inr ⟨by omega, rfl, by rw [if_neg h2]; rfl⟩⟩
/-- Quote writes s as t. -/
def Quotes (t s : ByteArray) : Prop := value_Quote.f t = some (s, 0)
theorem Quotes.bytes {t s : ByteArray} (h : Quotes t s) : t.size ≤ 640 ∧ L s = quoteL (L t) := by
  obtain ⟨q, e, hq, hc⟩ := quote_some t
  rw [Quotes, hq] at h
  simp only [Option.some.injEq, Prod.mk.injEq] at h
  obtain ⟨rfl, rfl⟩ := h
  rcases hc with ⟨_, h, _⟩ | ⟨h, _, h2⟩
  · cases h
  · exact ⟨h, h2⟩
theorem Quotes.of {t s : ByteArray} (h : t.size ≤ 640) (hs : L s = quoteL (L t)) : Quotes t s := by
  obtain ⟨q, e, hq, hc⟩ := quote_some t
  rcases hc with ⟨h1, _, _⟩ | ⟨_, rfl, h2⟩
  · omega
  · rw [Quotes, hq, ext_L (h2.trans hs.symm)]
/-! ### The digits, back -/
theorem digitF_of (n : Nat) (hn : n < 16) : digitF (digs.getD n 0) = n := by
  match n, hn with
  | 0, _ | 1, _ | 2, _ | 3, _ | 4, _ | 5, _ | 6, _ | 7, _ | 8, _ | 9, _ | 10, _ | 11, _ | 12, _ | 13, _ | 14, _ | 15, _ => rfl
  | n + 16, h => omega
theorem digs_range (n : Nat) (hn : n < 16) : 48 ≤ digs.getD n 0 ∧ digs.getD n 0 ≤ 102 := by
  match n, hn with
  | 0, _ | 1, _ | 2, _ | 3, _ | 4, _ | 5, _ | 6, _ | 7, _ | 8, _ | 9, _ | 10, _ | 11, _ | 12, _ | 13, _ | 14, _ | 15, _ => decide
  | n + 16, h => omega
theorem nib_or (n m : Nat) (hn : n < 16) (hm : m < 16) : Go.bits .or .u8 (((n : Int) * 16) % 256) (Go.bits .and .u8 (m : Int) 15) = 16 * n + m := by
  have key : ∀ a b : Fin 16, Go.bits .or .u8 ((((a.val : Nat) : Int) * 16) % 256) (Go.bits .and .u8 ((b.val : Nat) : Int) 15) = 16 * (a.val : Nat) + (b.val : Nat) := by decide +kernel
  exact key ⟨n, hn⟩ ⟨m, hm⟩
theorem hexL_cons (b : UInt8) (l : List UInt8) : hexL (b :: l) = UInt8.ofNat (digs.getD (b.toNat / 16) 0).toNat :: UInt8.ofNat (digs.getD (b.toNat % 16) 0).toNat :: hexL l := by
  simp only [hexL, hexI, List.flatMap_cons, List.map_append, List.map_cons, List.map_nil, List.cons_append, List.nil_append]
theorem hexL_length (l : List UInt8) : (hexL l).length = 2 * l.length := by simp [hexL, hexI_length]
theorem byte_back {x : Int} (h0 : 0 ≤ x) (h : x ≤ 255) : ((UInt8.ofNat x.toNat).toNat : Int) = x := by
  have : (UInt8.ofNat x.toNat).toNat = x.toNat % 256 := UInt8.toNat_ofNat'
  omega
/-- What the program reads of pairs of digits. -/
def decP : List UInt8 → List Int
  | a :: b :: r => Go.bits .or .u8 ((digitF a.toNat * 16) % 256) (Go.bits .and .u8 (digitF b.toNat) 15) :: decP r
  | _ => []
theorem decP_hex (l : List UInt8) : decP (hexL l) = l.map fun b => (b.toNat : Int) := by
  induction l with
  | nil => rfl
  | cons b l ih =>
    have hb := b.toNat_lt
    have r1 := digs_range (b.toNat / 16) (by omega)
    have r2 := digs_range (b.toNat % 16) (by omega)
    rw [hexL_cons, decP, ih, byte_back (by omega) (by omega), byte_back (by omega) (by omega), digitF_of _ (by omega), digitF_of _ (by omega), nib_or _ _ (by omega) (by omega), List.map_cons]
    congr 1
    omega
theorem strOfNums_bytes (s : ByteArray) : strOfNums ((L s).map fun b => (b.toNat : Int)) = s := by
  apply ext_L
  rw [L_strOfNums, List.map_map]
  conv => rhs; rw [← List.map_id (L s)]
  apply List.map_congr_left
  intro b _
  simp
theorem bt_drop (s : ByteArray) (i : Nat) (a : UInt8) (r : List UInt8) (h : (L s).drop i = a :: r) : i < s.size ∧ bt s (i : Int) = a.toNat ∧ (L s).drop (i + 1) = r := by
  have hl : i < (L s).length := by
    rcases Nat.lt_or_ge i (L s).length with h1 | h1
    · exact h1
    · rw [List.drop_of_length_le h1] at h; cases h
  have h2 := List.drop_eq_getElem_cons hl
  rw [h] at h2
  injection h2 with h3 h4
  exact ⟨by rw [size_L]; exact hl, by rw [bt_L s i hl, h3], h4.symm⟩
theorem drop_some (s : ByteArray) (i : Nat) (h : i < s.size) : ∃ a r, (L s).drop i = a :: r := by
  have hl : i < (L s).length := by rw [← size_L]; exact h
  exact ⟨_, _, List.drop_eq_getElem_cons hl⟩
theorem extract_mid (s t : ByteArray) (h : L s = 34 :: (L t ++ [34])) : s.extract 1 (s.size - 1) = t := by
  apply ext_L
  have hl : (L t).length = s.size - 2 := by rw [size_L, h]; simp
  have h2 : 2 ≤ s.size := by rw [size_L, h]; simp
  rw [L_extract, h]
  simp only [List.drop_succ_cons, List.drop_zero]
  rw [List.take_append_of_le_length (by omega), List.take_of_length_le (by omega)]
theorem quoteL_cases {t s : ByteArray} (h : Quotes t s) : (L s = 34 :: (L t ++ [34])) ∨ (L s = 120 :: hexL (L t) ∧ 0 < (L t).length) := by
  have hb := h.bytes.2
  unfold quoteL at hb
  by_cases h1 : safeL (L t) = true
  · rw [if_pos h1] at hb; exact .inl hb
  · rw [if_neg h1] at hb
    refine .inr ⟨hb, ?_⟩
    rcases ht : L t with _ | ⟨b, l⟩
    · rw [ht] at h1; exact absurd rfl h1
    · simp
/-- The one answer that is right. -/
def Right (s : ByteArray) (r : Option (ByteArray × Int)) : Prop := (∃ t, Quotes t s ∧ r = some (t, 0)) ∨ ((∀ t, ¬ Quotes t s) ∧ r = some (⟨#[]⟩, 21))
theorem Quotes.inj {t u s : ByteArray} (ht : Quotes t s) (hu : Quotes u s) : t = u := by
  rcases quoteL_cases ht with h1 | ⟨h1, hp⟩ <;> rcases quoteL_cases hu with h2 | ⟨h2, hq⟩
  · rw [← extract_mid s t h1, ← extract_mid s u h2]
  · rw [h1] at h2; injection h2 with h3 _; exact absurd h3 (by decide)
  · rw [h1] at h2; injection h2 with h3 _; exact absurd h3 (by decide)
  · rw [h1] at h2
    injection h2 with _ h3
    have := congrArg decP h3
    rw [decP_hex, decP_hex] at this
    rw [← strOfNums_bytes t, ← strOfNums_bytes u, this]
theorem Right.some {s : ByteArray} {r : Option (ByteArray × Int)} (h : Right s r) : ∃ c e, r = some (c, e) := by
  rcases h with ⟨t, _, rfl⟩ | ⟨_, rfl⟩ <;> exact ⟨_, _, rfl⟩
end Go.Proofs.YtkfddpbmclbdhaaDoor.PA
end
/- Check and Format of pairs: the program and the reference compute the same; the law ValuePairs in plain Lean. Conditions: sizes below 100000 where a lemma says so. -/
section
namespace Go.Proofs.YtkfddpbmclbdhaaDoor.PA
set_option linter.unusedSimpArgs false
set_option linter.unusedVariables false
open Go.RowKit Go.Proofs.YtkfddpbmclbdhaaDoorW.PrintWords Go.Proofs.YtkfddpbmclbdhaaDoorW.PrintLast Go.Proofs.YtkfddpbmclbdhaaDoorW.PrintMore Go.Proofs.YtkfddpbmclbdhaaDoor.M0
/-! ### Names -/
/-- A byte of a name: a letter, or (not first) a digit or an underscore. -/
def chOK (first : Bool) (b : Nat) : Bool := (decide (97 ≤ b) && decide (b ≤ 122)) || (!first && (b == 95 || (decide (48 ≤ b) && decide (b ≤ 57))))
def okL : Bool → List UInt8 → Bool
  | _, [] => true
  | f, b :: r => chOK f b.toNat && okL false r
def nameL (l : List UInt8) : Bool := okL true l && (!l.isEmpty && decide (l.length ≤ 16))
theorem name_step (b : Nat) (i : Int) (hi : 0 ≤ i) (X : Option Bool) : (if (b : Int) ≥ 97 then (if (b : Int) ≤ 122 then X else (if i = 0 then (some false) else (if (b : Int) = 95 then X else (if (b : Int) < 48 then (some false) else (if (b : Int) > 57 then (some false) else X))))) else (if i = 0 then (some false) else (if (b : Int) = 95 then X else (if (b : Int) < 48 then (some false) else (if (b : Int) > 57 then (some false) else X))))) = if chOK (decide (i = 0)) b then X else some false := by
  unfold chOK
  by_cases h1 : 97 ≤ b
  · rw [if_pos (by omega)]
    by_cases h2 : b ≤ 122
    · rw [if_pos (by omega)]; simp [h1, h2]
    · rw [if_neg (by omega)]
      by_cases h3 : i = 0
      · rw [if_pos h3]; simp [h2, h3]
      · rw [if_neg h3, if_neg (by omega), if_neg (by omega), if_pos (by omega)]
        simp [h2, h3, show ¬ b = 95 by omega, show ¬ b ≤ 57 by omega]
  · rw [if_neg (by omega)]
    by_cases h3 : i = 0
    · rw [if_pos h3]; simp [h1, h3]
    · rw [if_neg h3]
      by_cases h4 : b = 95
      · rw [if_pos (by omega)]; simp [h3, h4]
      · rw [if_neg (by omega)]
        by_cases h5 : b < 48
        · rw [if_pos (by omega)]; simp [h1, h3, h4, show ¬ 48 ≤ b by omega]
        · rw [if_neg (by omega)]
          by_cases h6 : 57 < b
          · rw [if_pos (by omega)]; simp [h1, h3, h4, show ¬ b ≤ 57 by omega]
          · rw [if_neg (by omega)]; simp [h3, show 48 ≤ b by omega, show b ≤ 57 by omega]
theorem value_name_run (s : ByteArray) (hs : s.size ≤ 100000) (k : Nat) (hk : s.size < k) : value_name.f k s = some (nameL (L s)) := by
  have fin : value_name.l0 1 s (s.size : Int) (s.size : Int) = some (!(L s).isEmpty && decide ((L s).length ≤ 16)) := by
    rw [value_name.l0, if_neg (by omega)]
    rw [size_L]
    rcases hl : L s with _ | ⟨b, l⟩
    · rw [if_pos (by rw [toList_L, hl])]; rfl
    · rw [if_neg (by rw [toList_L, hl]; simp)]
      simp only [List.length_cons, List.isEmpty_cons, Bool.not_false, Bool.true_and]
      congr 1
      apply decide_eq_decide.2
      omega
  have key : ∀ d k (i : Nat), i ≤ s.size → s.size - i = d → d < k → value_name.l0 k s (s.size : Int) (i : Int) = some (okL (decide (i = 0)) ((L s).drop i) && (!(L s).isEmpty && decide ((L s).length ≤ 16))) := by
    intro d
    induction d with
    | zero =>
      intro k i hi hd hk
      obtain ⟨k, rfl⟩ : ∃ m, k = m + 1 := ⟨k - 1, by omega⟩
      obtain rfl : i = s.size := by omega
      rw [value_name.l0] at fin ⊢
      rw [if_neg (by omega)] at fin ⊢
      rw [fin, List.drop_of_length_le (by rw [size_L]; exact Nat.le_refl _)]
      rfl
    | succ d ih =>
      intro k i hi hd hk
      obtain ⟨k, rfl⟩ : ∃ m, k = m + 1 := ⟨k - 1, by omega⟩
      obtain ⟨b, r, hb⟩ := drop_some s i (by omega)
      obtain ⟨_, hb1, hr⟩ := bt_drop s i b r hb
      have hih := ih k (i + 1) (by omega) (by omega) (by omega)
      have hw : wrap64 ((i : Int) + 1) = ((i + 1 : Nat) : Int) := by rw [wrap64_id (by omega) (by omega)]; omega
      rw [value_name.l0, if_pos (by omega), if_pos (by omega), if_pos (by omega), hb1, hw, hih, name_step _ _ (by omega), hb, okL, hr]
      have e : decide ((i : Int) = 0) = decide (i = 0) := decide_eq_decide.2 (by omega)
      rw [e, show decide (i + 1 = 0) = false from decide_eq_false (by omega)]
      cases chOK (decide (i = 0)) b.toNat <;> simp
  have := key s.size k 0 (by omega) (by omega) hk
  simpa [value_name.f, nameL] using this
/-! ### Check -/
/-- The first error of a pair. -/
def checkI (name : List UInt8) (kind num : Int) (text : List UInt8) : Int :=
  if nameL name then (if kind < 1 ∨ kind > 3 ∨ (kind ≠ 1 ∧ num ≠ 0) ∨ (kind ≠ 2 ∧ text ≠ []) then 23 else if text.length > 640 then 20 else 0) else 22
theorem value_Check_j0 (k : Nat) (b : Bool) (x1 : ByteArray) (x2 x3 : Int) (x4 : ByteArray) : value_Check.j0 (k + 1) b x1 x2 x3 x4 = some (if b then 23 else if (L x4).length > 640 then 20 else 0) := by
  rw [value_Check.j0, size_L]
  cases b
  · simp only [Bool.false_eq_true, if_false]
    by_cases h : (L x4).length > 640
    · rw [if_pos (by omega), if_pos h]
    · rw [if_neg (by omega), if_neg h]
  · simp
theorem check_tree (nm : Bool) (a1 a2 : Int) (t : List UInt8) : (if nm = true then (if a1 < 1 then some (if true = true then (23 : Int) else if t.length > 640 then 20 else 0) else (if a1 > 3 then some (if true = true then 23 else if t.length > 640 then 20 else 0) else (if a1 = 1 then (if a1 = 2 then some (if false = true then 23 else if t.length > 640 then 20 else 0) else some (if (t != ([] : List UInt8)) = true then 23 else if t.length > 640 then 20 else 0)) else (if a2 = 0 then (if a1 = 2 then some (if false = true then 23 else if t.length > 640 then 20 else 0) else some (if (t != ([] : List UInt8)) = true then 23 else if t.length > 640 then 20 else 0)) else some (if true = true then 23 else if t.length > 640 then 20 else 0))))) else some 22) =
    some (if nm then (if a1 < 1 ∨ a1 > 3 ∨ (a1 ≠ 1 ∧ a2 ≠ 0) ∨ (a1 ≠ 2 ∧ t ≠ []) then 23 else if t.length > 640 then 20 else 0) else 22) := by
  cases nm
  · simp
  · simp only [if_true, if_false, Bool.false_eq_true]
    by_cases h1 : a1 < 1
    · simp [h1]
    · by_cases h3 : a1 > 3
      · simp [h1, h3]
      · by_cases e1 : a1 = 1
        · subst e1
          by_cases ht : t = [] <;> simp [ht]
        · by_cases e2 : a1 = 2
          · subst e2
            by_cases h2 : a2 = 0 <;> simp [h2]
          · by_cases h2 : a2 = 0
            · by_cases ht : t = [] <;> simp [h1, h3, e1, e2, h2, ht]
            · simp [h1, h3, e1, e2, h2]
theorem value_Check_run (n : ByteArray) (a1 a2 : Int) (t : ByteArray) (hn : n.size ≤ 100000) (k : Nat) (hk : n.size + 1 < k) : value_Check.f k n a1 a2 t = some (checkI (L n) a1 a2 (L t)) := by
  obtain ⟨k, rfl⟩ : ∃ m, k = m + 1 := ⟨k - 1, by omega⟩
  unfold value_Check.f
  rw [value_name_run n hn (k + 1) (by omega)]
  simp only [Option.bind_some, value_Check_j0, toList_L]
  exact check_tree _ _ _ _
/-! ### Numbers -/
theorem itoa_ge (n : Int) (h : 0 ≤ n) : Lib.itoa n = Lib.decDigits n.toNat := by unfold Lib.itoa; rw [if_neg (by omega)]
theorem itoa_lt (n : Int) (h : n < 0) : Lib.itoa n = 45 :: Lib.decDigits n.natAbs := by unfold Lib.itoa; rw [if_pos h]
theorem dec_size (n : Nat) (h : n ≤ 9223372036854775808) : (Lib.decDigits n).length ≤ 20 := by
  rw [Lib.decDigits_length]
  have : ∀ d n : Nat, n < 10 ^ d → 1 ≤ d → Lib.nDigits n ≤ d := by
    intro d
    induction d with
    | zero => intro n _ h; omega
    | succ d ih =>
      intro n hn _
      rw [Lib.nDigits]
      by_cases h10 : n < 10
      · rw [dif_pos h10]; omega
      · rw [dif_neg h10]
        have hd : 1 ≤ d := by
          rcases d with _ | d
          · simp at hn; omega
          · omega
        have := ih (n / 10) (by rw [Nat.pow_succ] at hn; omega) hd
        omega
  exact this 20 n (by omega) (by omega)
theorem mk_size (l : List UInt8) : (⟨l.toArray⟩ : ByteArray).size = l.length := by rw [size_L, L_mk]
theorem itoa_size (n : Int) (h0 : -9223372036854775808 ≤ n) (h1 : n ≤ 9223372036854775807) : (Lib.itoa n).length ≤ 21 := by
  by_cases hn : 0 ≤ n
  · rw [itoa_ge n hn]; have := dec_size n.toNat (by omega); omega
  · rw [itoa_lt n (by omega), List.length_cons]; have := dec_size n.natAbs (by omega); omega
/-! ### Format -/
/-- What stands behind the name and its sign. -/
def valueL (kind num : Int) (text : List UInt8) : List UInt8 := if kind = 1 then Lib.itoa num else if kind = 2 then quoteL text else [40, 110, 117, 108, 108, 41]
def formL (name : List UInt8) (kind num : Int) (text : List UInt8) : List UInt8 := name ++ 61 :: valueL kind num text
/-- What Format returns. -/
def formatF (n : ByteArray) (a1 a2 : Int) (t : ByteArray) : ByteArray × Int :=
  if checkI (L n) a1 a2 (L t) = 0 then (⟨(formL (L n) a1 a2 (L t)).toArray⟩, 0) else (⟨#[]⟩, checkI (L n) a1 a2 (L t))
theorem checkI_ok {n t : List UInt8} {a1 a2 : Int} (h : checkI n a1 a2 t = 0) : nameL n = true ∧ 1 ≤ a1 ∧ a1 ≤ 3 ∧ (a1 = 1 ∨ a2 = 0) ∧ (a1 = 2 ∨ t = []) ∧ t.length ≤ 640 := by
  unfold checkI at h
  by_cases hn : nameL n = true
  · rw [if_pos hn] at h
    split at h
    · cases h
    · rename_i hk
      split at h
      · cases h
      · refine ⟨hn, by omega, by omega, ?_, ?_, by omega⟩
        · by_cases e : a1 = 1
          · exact .inl e
          · by_cases e2 : a2 = 0
            · exact .inr e2
            · exact absurd (.inr (.inr (.inl ⟨e, e2⟩))) hk
        · by_cases e : a1 = 2
          · exact .inl e
          · by_cases e2 : t = []
            · exact .inr e2
            · exact absurd (.inr (.inr (.inr ⟨e, e2⟩))) hk
  · rw [if_neg hn] at h; cases h
theorem quoteL_length (l : List UInt8) : (quoteL l).length ≤ 2 * l.length + 2 := by
  unfold quoteL; split
  · simp; omega
  · simp [hexL_length]
theorem quote_run (t : ByteArray) (h : t.size ≤ 640) : ∃ q, value_Quote.f t = some (q, 0) ∧ L q = quoteL (L t) := by
  obtain ⟨q, e, hq, hc⟩ := quote_some t
  rcases hc with ⟨h1, _, _⟩ | ⟨_, rfl, h2⟩
  · omega
  · exact ⟨q, hq, h2⟩
theorem value_Format_run (n : ByteArray) (a1 a2 : Int) (t : ByteArray) (hn : n.size ≤ 100000) (h0 : -9223372036854775808 ≤ a2) (h1 : a2 ≤ 9223372036854775807) (k : Nat) (hk : n.size + 1 < k) :
    value_Format.f k n a1 a2 t = some (formatF n a1 a2 t) := by
  unfold value_Format.f formatF
  rw [value_Check_run n a1 a2 t hn k hk]
  simp only [Option.bind_some]
  by_cases hc : checkI (L n) a1 a2 (L t) = 0
  · rw [if_pos hc, if_pos hc]
    obtain ⟨_, _, _, _, _, h640⟩ := checkI_ok hc
    rw [← size_L] at h640
    unfold formL valueL
    have z0 : (n ++ (⟨#[61]⟩ : ByteArray)).size = n.size + 1 := by rw [ByteArray.size_append]; rfl
    by_cases e1 : a1 = 1
    · rw [if_pos e1, if_pos e1, strconv_Itoa.f, if_pos ⟨h0, h1⟩]
      have zi : (⟨(Lib.itoa a2).toArray⟩ : ByteArray).size ≤ 21 := by rw [mk_size]; exact itoa_size a2 h0 h1
      simp only [Option.bind_some]
      rw [if_pos (by omega), if_pos (by rw [z0]; omega)]
      congr 2
      apply ext_L
      rw [L_append, L_append, L_mk, L_mk, List.append_assoc]; rfl
    · rw [if_neg e1, if_neg e1]
      by_cases e2 : a1 = 2
      · rw [if_pos e2, if_pos e2]
        obtain ⟨q, hq, hl⟩ := quote_run t h640
        rw [hq]
        have zq : q.size ≤ 2 * t.size + 2 := by rw [size_L q, hl, size_L t]; exact quoteL_length _
        simp only [Option.bind_some]
        rw [if_pos (by omega), if_pos (by rw [z0]; omega)]
        congr 2
        apply ext_L
        rw [L_append, L_append, L_mk, hl, List.append_assoc]; rfl
      · rw [if_neg e2, if_neg e2, if_pos (by omega), if_pos (by rw [z0]; omega)]
        congr 2
        apply ext_L
        rw [L_append, L_append, L_mk, List.append_assoc]; rfl
  · rw [if_neg hc, if_neg hc]
end Go.Proofs.YtkfddpbmclbdhaaDoor.PA
end
