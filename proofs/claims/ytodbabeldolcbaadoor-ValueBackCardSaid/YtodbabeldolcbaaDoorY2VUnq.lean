/- The program's and the reference's Unquote both return the text that Quote writes, if there is one; the law ValueUnquotes in plain Lean. Conditions: none. -/
import Derived.Test.YtodbabeldolcbaaDoorY2VQuote
import Derived.Test.YtodbabeldolcbaaDoorY2PAx0
import Derived.Test.YtodbabeldolcbaaDoorY2PAx7
import Derived.Test.YtodbabeldolcbaaDoorY2PAx19
import Derived.Test.YtodbabeldolcbaaDoorY2PAx20
import Derived.Test.YtodbabeldolcbaaDoorY2PAx21
namespace Go.Proofs.YtodbabeldolcbaaDoor.PA
set_option linter.unusedSimpArgs false
open Go.RowKit Go.Proofs.YtodbabeldolcbaaDoorW.PrintWords Go.Proofs.YtodbabeldolcbaaDoorW.PrintLast Go.Proofs.YtodbabeldolcbaaDoorW.PrintMore Go.Proofs.YtodbabeldolcbaaDoor.M0
/-! ### Quote, as bytes -/
def hexL (l : List UInt8) : List UInt8 := (hexI l).map fun n => UInt8.ofNat n.toNat
def quoteL (l : List UInt8) : List UInt8 := if safeL l then 34 :: (l ++ [34]) else 120 :: hexL l
theorem quote_some (s : ByteArray) : ∃ q e, value_Quote.f s = some (q, e) ∧ ((640 < s.size ∧ e = 20 ∧ q = ⟨#[]⟩) ∨ (s.size ≤ 640 ∧ e = 0 ∧ L q = quoteL (L s))) := by
  unfold value_Quote.f quoteL
  by_cases h1 : 640 < s.size
  · exact ⟨_, _, by rw [if_pos h1], .inl ⟨h1, rfl, rfl⟩⟩
  · by_cases h2 : safeL (L s) = true
    · exact ⟨_, _, by rw [if_neg h1, if_pos h2], .inr ⟨by omega, rfl, by rw [if_pos h2, L_append, L_append]; rfl⟩⟩
    · exact ⟨_, _, by rw [if_neg h1, if_neg h2], .inr ⟨by omega, rfl, by rw [if_neg h2]; rfl⟩⟩
/-- Quote writes s as t. -/
def Quotes (t s : ByteArray) : Prop := value_Quote.f t = some (s, 0)
theorem Quotes.bytes {t s : ByteArray} (h : Quotes t s) : t.size ≤ 640 ∧ L s = quoteL (L t) := by
  obtain ⟨q, e, hq, hc⟩ := quote_some t
  rw [Quotes, hq] at h
  simp only [Option.some.injEq, Prod.mk.injEq] at h
  obtain ⟨rfl, rfl⟩ := h
  rcases hc with ⟨_, h, _⟩ | ⟨h, _, h2⟩
  · cases h
  · exact ⟨h, h2⟩
theorem Quotes.of {t s : ByteArray} (h : t.size ≤ 640) (hs : L s = quoteL (L t)) : Quotes t s := by
  obtain ⟨q, e, hq, hc⟩ := quote_some t
  rcases hc with ⟨h1, _, _⟩ | ⟨_, rfl, h2⟩
  · omega
  · rw [Quotes, hq, ext_L (h2.trans hs.symm)]
/-- What a candidate comes to. -/
def tryC (c s : ByteArray) : Option (ByteArray × Int) := (value_Quote.f c).bind fun b => if b.2 = 0 then (if b.1.toList = s.toList then some (c, 0) else some (⟨#[]⟩, 21)) else some (⟨#[]⟩, 21)
theorem tryC_yes {c s : ByteArray} (h : Quotes c s) : tryC c s = some (c, 0) := by
  unfold tryC; rw [show value_Quote.f c = some (s, 0) from h]; simp
theorem tryC_no {c s : ByteArray} (h : ¬ Quotes c s) : tryC c s = some (⟨#[]⟩, 21) := by
  unfold tryC
  obtain ⟨q, e, hq, _⟩ := quote_some c
  rw [hq]
  simp only [Option.bind_some]
  by_cases he : e = 0
  · rw [if_pos he, if_neg]
    intro heq
    rw [toList_L, toList_L] at heq
    exact h (by rw [Quotes, hq, he, ext_L heq])
  · rw [if_neg he]
/-! ### The digits, back -/
theorem digitF_of (n : Nat) (hn : n < 16) : digitF (digs.getD n 0) = n := by
  match n, hn with
  | 0, _ | 1, _ | 2, _ | 3, _ | 4, _ | 5, _ | 6, _ | 7, _ | 8, _ | 9, _ | 10, _ | 11, _ | 12, _ | 13, _ | 14, _ | 15, _ => rfl
  | n + 16, h => omega
theorem digs_range (n : Nat) (hn : n < 16) : 48 ≤ digs.getD n 0 ∧ digs.getD n 0 ≤ 102 := by
  match n, hn with
  | 0, _ | 1, _ | 2, _ | 3, _ | 4, _ | 5, _ | 6, _ | 7, _ | 8, _ | 9, _ | 10, _ | 11, _ | 12, _ | 13, _ | 14, _ | 15, _ => decide
  | n + 16, h => omega
theorem nib_or (n m : Nat) (hn : n < 16) (hm : m < 16) : Go.bits .or .u8 (((n : Int) * 16) % 256) (Go.bits .and .u8 (m : Int) 15) = 16 * n + m := by
  have key : ∀ a b : Fin 16, Go.bits .or .u8 ((((a.val : Nat) : Int) * 16) % 256) (Go.bits .and .u8 ((b.val : Nat) : Int) 15) = 16 * (a.val : Nat) + (b.val : Nat) := by decide +kernel
  exact key ⟨n, hn⟩ ⟨m, hm⟩
theorem hexL_cons (b : UInt8) (l : List UInt8) : hexL (b :: l) = UInt8.ofNat (digs.getD (b.toNat / 16) 0).toNat :: UInt8.ofNat (digs.getD (b.toNat % 16) 0).toNat :: hexL l := by
  simp only [hexL, hexI, List.flatMap_cons, List.map_append, List.map_cons, List.map_nil, List.cons_append, List.nil_append]
theorem hexL_length (l : List UInt8) : (hexL l).length = 2 * l.length := by simp [hexL, hexI_length]
theorem byte_back {x : Int} (h0 : 0 ≤ x) (h : x ≤ 255) : ((UInt8.ofNat x.toNat).toNat : Int) = x := by
  have : (UInt8.ofNat x.toNat).toNat = x.toNat % 256 := UInt8.toNat_ofNat'
  omega
/-- What the program reads of pairs of digits. -/
def decP : List UInt8 → List Int
  | a :: b :: r => Go.bits .or .u8 ((digitF a.toNat * 16) % 256) (Go.bits .and .u8 (digitF b.toNat) 15) :: decP r
  | _ => []
theorem decP_hex (l : List UInt8) : decP (hexL l) = l.map fun b => (b.toNat : Int) := by
  induction l with
  | nil => rfl
  | cons b l ih =>
    have hb := b.toNat_lt
    have r1 := digs_range (b.toNat / 16) (by omega)
    have r2 := digs_range (b.toNat % 16) (by omega)
    rw [hexL_cons, decP, ih, byte_back (by omega) (by omega), byte_back (by omega) (by omega), digitF_of _ (by omega), digitF_of _ (by omega), nib_or _ _ (by omega) (by omega), List.map_cons]
    congr 1
    omega
theorem strOfNums_bytes (s : ByteArray) : strOfNums ((L s).map fun b => (b.toNat : Int)) = s := by
  apply ext_L
  rw [L_strOfNums, List.map_map]
  conv => rhs; rw [← List.map_id (L s)]
  apply List.map_congr_left
  intro b _
  simp
theorem bt_drop (s : ByteArray) (i : Nat) (a : UInt8) (r : List UInt8) (h : (L s).drop i = a :: r) : i < s.size ∧ bt s (i : Int) = a.toNat ∧ (L s).drop (i + 1) = r := by
  have hl : i < (L s).length := by
    rcases Nat.lt_or_ge i (L s).length with h1 | h1
    · exact h1
    · rw [List.drop_of_length_le h1] at h; cases h
  have h2 := List.drop_eq_getElem_cons hl
  rw [h] at h2
  injection h2 with h3 h4
  exact ⟨by rw [size_L]; exact hl, by rw [bt_L s i hl, h3], h4.symm⟩
theorem drop_some (s : ByteArray) (i : Nat) (h : i < s.size) : ∃ a r, (L s).drop i = a :: r := by
  have hl : i < (L s).length := by rw [← size_L]; exact h
  exact ⟨_, _, List.drop_eq_getElem_cons hl⟩
set_option maxHeartbeats 2000000 in
theorem unq_l0 (s : ByteArray) (hs : s.size ≤ 100000) : ∀ d k x5 (i : Nat), i ≤ s.size → s.size - i = 2 * d → d < k → x5.length ≤ i →
    value_Unquote.l0 k s x5 (i : Int) = tryC (strOfNums (x5 ++ decP ((L s).drop i))) s := by
  intro d
  induction d with
  | zero =>
    intro k x5 i hi hd hk _
    obtain ⟨k, rfl⟩ : ∃ m, k = m + 1 := ⟨k - 1, by omega⟩
    rw [value_Unquote.l0, if_neg (by omega), List.drop_of_length_le (by rw [← size_L]; omega)]
    simp only [decP, List.append_nil]
    rfl
  | succ d ih =>
    intro k x5 i hi hd hk hx
    obtain ⟨k, rfl⟩ : ∃ m, k = m + 1 := ⟨k - 1, by omega⟩
    have g1 : i < s.size := by omega
    have g2 : i + 1 < s.size := by omega
    have g3 : i + 2 ≤ s.size := by omega
    have g4 : s.size - (i + 2) = 2 * d := by omega
    have g5 : d < k := by omega
    have g6 : (i : Int) < (s.size : Int) := by omega
    have g7 : (0 : Int) ≤ (i : Int) := by omega
    have q1 : (0 : Int) ≤ ((i + 1 : Nat) : Int) := by omega
    have q2 : ((i + 1 : Nat) : Int) < (s.size : Int) := by omega
    have q3 : x5.length < 140737488355328 := by omega
    have hw : wrap64 ((i : Int) + 1) = ((i + 1 : Nat) : Int) := by rw [wrap64_id (by omega) (by omega)]; omega
    have hw2 : wrap64 ((i : Int) + 2) = ((i + 2 : Nat) : Int) := by rw [wrap64_id (by omega) (by omega)]; omega
    have g8 : ∀ y : Int, (x5 ++ [y]).length ≤ i + 2 := fun y => by rw [List.length_append, List.length_singleton]; omega
    obtain ⟨a, r, ha⟩ := drop_some s i g1
    obtain ⟨_, hb1, hr⟩ := bt_drop s i a r ha
    obtain ⟨b, r', hb⟩ := drop_some s (i + 1) g2
    obtain ⟨_, hb2, hr2⟩ := bt_drop s (i + 1) b r' hb
    have hrr : r = b :: r' := hr.symm.trans hb
    have hih := ih k (x5 ++ [Go.bits .or .u8 ((digitF a.toNat * 16) % 256) (Go.bits .and .u8 (digitF b.toNat) 15)]) (i + 2) g3 g4 g5 (g8 _)
    rw [hr2] at hih
    rw [value_Unquote.l0, if_pos g6, if_pos g7, hb1, hw, hw2, hb2]
    simp only [value_digit.f, Option.bind_some]
    rw [if_pos q1, if_pos q2, if_pos q3, hih, ha, hrr, decP, List.append_assoc, List.singleton_append]
theorem extract_mid (s t : ByteArray) (h : L s = 34 :: (L t ++ [34])) : s.extract 1 (s.size - 1) = t := by
  apply ext_L
  have hl : (L t).length = s.size - 2 := by rw [size_L, h]; simp
  have h2 : 2 ≤ s.size := by rw [size_L, h]; simp
  rw [L_extract, h]
  simp only [List.drop_succ_cons, List.drop_zero]
  rw [List.take_append_of_le_length (by omega), List.take_of_length_le (by omega)]
theorem quoteL_cases {t s : ByteArray} (h : Quotes t s) : (L s = 34 :: (L t ++ [34])) ∨ (L s = 120 :: hexL (L t) ∧ 0 < (L t).length) := by
  have hb := h.bytes.2
  unfold quoteL at hb
  by_cases h1 : safeL (L t) = true
  · rw [if_pos h1] at hb; exact .inl hb
  · rw [if_neg h1] at hb
    refine .inr ⟨hb, ?_⟩
    rcases ht : L t with _ | ⟨b, l⟩
    · rw [ht] at h1; exact absurd rfl h1
    · simp
/-- The one answer that is right. -/
def Right (s : ByteArray) (r : Option (ByteArray × Int)) : Prop := (∃ t, Quotes t s ∧ r = some (t, 0)) ∨ ((∀ t, ¬ Quotes t s) ∧ r = some (⟨#[]⟩, 21))
theorem Right.try_ {s c : ByteArray} (h : ∀ t, Quotes t s → c = t) : Right s (tryC c s) := by
  by_cases hq : Quotes c s
  · exact .inl ⟨c, hq, tryC_yes hq⟩
  · refine .inr ⟨fun t ht => ?_, tryC_no hq⟩
    rw [h t ht] at hq
    exact hq ht
theorem Quotes.inj {t u s : ByteArray} (ht : Quotes t s) (hu : Quotes u s) : t = u := by
  rcases quoteL_cases ht with h1 | ⟨h1, hp⟩ <;> rcases quoteL_cases hu with h2 | ⟨h2, hq⟩
  · rw [← extract_mid s t h1, ← extract_mid s u h2]
  · rw [h1] at h2; injection h2 with h3 _; exact absurd h3 (by decide)
  · rw [h1] at h2; injection h2 with h3 _; exact absurd h3 (by decide)
  · rw [h1] at h2
    injection h2 with _ h3
    have := congrArg decP h3
    rw [decP_hex, decP_hex] at this
    rw [← strOfNums_bytes t, ← strOfNums_bytes u, this]
theorem bt_zero (s : ByteArray) (b : UInt8) (l : List UInt8) (h : L s = b :: l) : bt s 0 = b.toNat := by
  have := bt_drop s 0 b l (by simpa using h)
  exact this.2.1
theorem bt_last (s : ByteArray) (b c : UInt8) (l : List UInt8) (h : L s = b :: (l ++ [c])) : bt s ((s.size : Int) - 1) = c.toNat := by
  have hs : s.size = l.length + 2 := by rw [size_L, h]; simp
  have hd : (L s).drop (l.length + 1) = [c] := by rw [h]; simp
  have := (bt_drop s (l.length + 1) c [] hd).2.1
  rw [show ((s.size : Int) - 1) = ((l.length + 1 : Nat) : Int) by omega]
  exact this
set_option maxHeartbeats 2000000 in
theorem value_Unquote_right (s : ByteArray) (hs : s.size ≤ 100000) (k : Nat) (hk : s.size + 5 < k) : Right s (value_Unquote.f k s) := by
  obtain ⟨k, rfl⟩ : ∃ m, k = m + 3 := ⟨k - 3, by omega⟩
  have hw : 1 ≤ s.size → wrap64 ((s.size : Int) - 1) = (s.size : Int) - 1 := fun h => wrap64_id (by omega) (by omega)
  -- the first case of the switch
  have first : 2 ≤ s.size → bt s 0 = 34 → bt s ((s.size : Int) - 1) = 34 → Right s (value_Unquote.j0 (k + 3) s ⟨#[]⟩ true) := by
    intro h2 h34 _
    rw [value_Unquote.j0, if_pos rfl, hw (by omega), if_pos (by omega), if_pos (by omega)]
    have e : ((s.size : Int) - 1).toNat = s.size - 1 := by omega
    rw [e]
    refine Right.try_ (c := s.extract 1 (s.size - 1)) fun t ht => ?_
    rcases quoteL_cases ht with h | ⟨h, _⟩
    · exact extract_mid s t h
    · rw [bt_zero s _ _ h] at h34
      exact absurd h34 (by decide)
  -- the others
  have second : (∀ t, Quotes t s → L s ≠ 34 :: (L t ++ [34])) → Right s (value_Unquote.j0 (k + 3) s ⟨#[]⟩ false) := by
    intro hno
    have none_ : (s.size % 2 = 1 → 0 < s.size → bt s 0 ≠ 120) → Right s (value_Unquote.j1 (k + 2) s ⟨#[]⟩ false) := by
      intro hx
      rw [value_Unquote.j1, if_neg (by simp)]
      refine Right.try_ (c := ⟨#[]⟩) fun t ht => ?_
      rcases quoteL_cases ht with h | ⟨h, hp⟩
      · exact absurd h (hno t ht)
      · have hsz : s.size = 2 * (L t).length + 1 := by rw [size_L, h]; simp [hexL_length]
        exact absurd (bt_zero s _ _ h) (hx (by omega) (by omega))
    rw [value_Unquote.j0, if_neg (by simp)]
    by_cases ho : s.size % 2 = 1
    · rw [if_pos (by omega), if_pos (by omega)]
      by_cases hx : bt s 0 = 120
      · rw [hx, show ((120 : Int) == 120) = true from rfl, value_Unquote.j1, if_pos rfl]
        have := unq_l0 s hs ((s.size - 1) / 2) (k + 1) [] 1 (by omega) (by omega) (by omega) (by simp)
        rw [show ((1 : Nat) : Int) = 1 from rfl] at this
        rw [this]
        refine Right.try_ fun t ht => ?_
        rcases quoteL_cases ht with h | ⟨h, hp⟩
        · exact absurd h (hno t ht)
        · rw [h]
          simp only [List.drop_succ_cons, List.drop_zero, List.nil_append]
          rw [decP_hex, strOfNums_bytes]
      · rw [show (bt s 0 == 120) = false from by simpa using hx]
        exact none_ fun _ _ => hx
    · rw [if_neg (by omega)]
      exact none_ fun h => absurd h ho
  unfold value_Unquote.f
  by_cases h2 : (s.size : Int) ≥ 2
  · rw [if_pos h2, if_pos (by omega)]
    by_cases h34 : bt s 0 = 34
    · rw [if_pos h34, hw (by omega), if_pos (by omega), if_pos (by omega)]
      by_cases hl : bt s ((s.size : Int) - 1) = 34
      · rw [hl]
        exact first (by omega) h34 hl
      · rw [show (bt s ((s.size : Int) - 1) == 34) = false from by simpa using hl]
        exact second fun t ht h => hl (bt_last s _ _ _ h)
    · rw [if_neg h34]
      exact second fun t ht h => h34 (bt_zero s _ _ h)
  · rw [if_neg h2]
    exact second fun t ht h => by
      have : s.size = (L t).length + 2 := by rw [size_L, h]; simp
      omega
theorem Right.some {s : ByteArray} {r : Option (ByteArray × Int)} (h : Right s r) : ∃ c e, r = some (c, e) := by
  rcases h with ⟨t, _, rfl⟩ | ⟨_, rfl⟩ <;> exact ⟨_, _, rfl⟩
end Go.Proofs.YtodbabeldolcbaaDoor.PA
