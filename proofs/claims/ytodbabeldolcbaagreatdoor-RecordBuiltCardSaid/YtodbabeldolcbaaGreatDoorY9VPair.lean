/- What the reference's Quote computes is what the program's Quote computes; the law ValueQuotes in plain Lean. Conditions: none. -/
import Derived.Test.YtodbabeldolcbaaGreatDoorY9PAx13
import Derived.Test.YtodbabeldolcbaaGreatDoorY9PAx16
import Derived.Test.YtodbabeldolcbaaGreatDoorY9PAx14
section
namespace Go.Proofs.YtodbabeldolcbaaGreatDoor.PA
open Go.RowKit Go.Proofs.YtodbabeldolcbaaGreatDoorW.PrintWords Go.Proofs.YtodbabeldolcbaaGreatDoorW.PrintLast Go.Proofs.YtodbabeldolcbaaGreatDoorW.PrintMore Go.Proofs.YtodbabeldolcbaaGreatDoor.M0
theorem ref_safe_run (s : ByteArray) (hs : s.size ≤ 640) (k : Nat) (hk : s.size < k) : kauditref02_safe.f k s = some (safeL (L s)) := by
 have key : ∀ d (k i : Nat), i ≤ s.size → s.size - i = d → d < k → kauditref02_safe.l0 k s (i : Int) = some (safeL ((L s).drop i)) := by
  intro d
  induction d with
  | zero =>
   intro k i hi hd hk
   obtain ⟨k, rfl⟩ : ∃ m, k = m + 1 := ⟨k - 1, by omega⟩
   obtain rfl : i = s.size := by omega
   rw [kauditref02_safe.l0, if_neg (by omega), List.drop_of_length_le (by rw [Za2]; exact Nat.le_refl _)]
   rfl
  | succ d ih =>
   intro k i hi hd hk
   obtain ⟨k, rfl⟩ : ∃ m, k = m + 1 := ⟨k - 1, by omega⟩
   have hlt : i < s.size := by omega
   have hl : i < (L s).length := by rw [← Za2]; exact hlt
   have hb := bt_L s i hl
   have hih := ih k (i + 1) (by omega) (by omega) (by omega)
   have hw : wrap64 ((i : Int) + 1) = ((i + 1 : Nat) : Int) := by rw [wrap64_id (by omega) (by omega)]; omega
   rw [kauditref02_safe.l0, if_pos (by omega), if_pos (by omega), hb, hw, hih, List.drop_eq_getElem_cons hl, safeL_cons]
   generalize ((L s)[i]).toNat = b
   by_cases h1 : b < 33
   ·rw [if_pos (by omega)]; simp [h1]
   ·rw [if_neg (by omega)]
    by_cases h2 : 126 < b
    ·rw [if_pos (by omega)]; simp [h2]
    ·rw [if_neg (by omega)]
     by_cases h3 : b = 34
     ·rw [if_pos (by omega)]; simp [h3]
     ·rw [if_neg (by omega)]; simp [h1, h2, h3]
 have := key s.size k 0 (by omega) (by omega) hk
 simpa [kauditref02_safe.f] using this
def hexS : ByteArray := ⟨#[48, 49, 50, 51, 52, 53, 54, 55, 56, 57, 97, 98, 99, 100, 101, 102]⟩
theorem hexS_cut (n : Nat) (hn : n < 16) : L (hexS.extract n (n + 1)) = [UInt8.ofNat (digs.getD n 0).toNat] := by
 match n, hn with
 | 0, _ | 1, _ | 2, _ | 3, _ | 4, _ | 5, _ | 6, _ | 7, _ | 8, _ | 9, _ | 10, _ | 11, _ | 12, _ | 13, _ | 14, _ | 15, _ => rw [Zb3]; rfl
 | n + 16, h => omega
theorem hexS_size (n : Nat) (hn : n < 16) : (hexS.extract n (n + 1)).size = 1 := by rw [Za2, hexS_cut n hn]; rfl
theorem Zck (xs : List Int) : L (strOfNums xs) = xs.map fun n => UInt8.ofNat n.toNat := rfl
theorem strOfNums_snoc (xs : List Int) (a b : Int) {s t : ByteArray} (hs : L s = [UInt8.ofNat a.toNat]) (ht : L t = [UInt8.ofNat b.toNat]) : strOfNums (xs ++ [a, b]) = strOfNums xs ++ (s ++ t) := by
 apply ext_L
 rw [L_append, L_append, hs, ht, Zck, Zck, List.map_append]; rfl
theorem ref_hex_run (s : ByteArray) (hs : s.size ≤ 640) : ∀ d (k i : Nat), i ≤ s.size → s.size - i = d → d < k →
  kauditref02_Quote.l0 k s (strOfNums (120 :: hexI ((L s).take i))) (i : Int) = some (strOfNums (120 :: hexI (L s)), 0) := by
 intro d
 induction d with
 | zero =>
  intro k i hi hd hk
  obtain ⟨k, rfl⟩ : ∃ m, k = m + 1 := ⟨k - 1, by omega⟩
  obtain rfl : i = s.size := by omega
  rw [kauditref02_Quote.l0, if_neg (by omega), List.take_of_length_le (by rw [Za2]; exact Nat.le_refl _)]
 | succ d ih =>
  intro k i hi hd hk
  obtain ⟨k, rfl⟩ : ∃ m, k = m + 1 := ⟨k - 1, by omega⟩
  have hlt : i < s.size := by omega
  have hl : i < (L s).length := by rw [← Za2]; exact hlt
  have hb := bt_L s i hl
  have hih := ih k (i + 1) (by omega) (by omega) (by omega)
  have hw : wrap64 ((i : Int) + 1) = ((i + 1 : Nat) : Int) := by rw [wrap64_id (by omega) (by omega)]; omega
  have h256 := (L s)[i].toNat_lt
  rw [hexI_take (L s) i hl] at hih
  have hsz : (strOfNums (120 :: hexI ((L s).take i))).size ≤ 1281 := by
   rw [strOfNums_size]; simp only [List.length_cons, hexI_length, List.length_take]; omega
  generalize hx : strOfNums (120 :: hexI ((L s).take i)) = x at *
  obtain ⟨q, hq⟩ : ∃ q, q = (L s)[i].toNat / 16 := ⟨_, rfl⟩
  obtain ⟨m, hm⟩ : ∃ m, m = (L s)[i].toNat % 16 := ⟨_, rfl⟩
  have hq16 : q < 16 := by omega
  have hm16 : m < 16 := by omega
  have e1 : ((L s)[i].toNat : Int) / 16 = (q : Int) := by omega
  have e2 : Go.bits .and .u8 ((L s)[i].toNat : Int) 15 = (m : Int) := by rw [and15 _ (by omega)]; omega
  have e3 : ((q : Int) + 1) % 256 = ((q + 1 : Nat) : Int) := by omega
  have e4 : ((m : Int) + 1) % 256 = ((m + 1 : Nat) : Int) := by omega
  rw [kauditref02_Quote.l0, if_pos (by omega), if_pos (by omega), hb, hw]
  rw [e1, e2, e3, e4]
  simp only [Int.toNat_natCast]
  have z1 := hexS_size q hq16
  have z2 := hexS_size m hm16
  have c1 := hexS_cut q hq16
  have c2 := hexS_cut m hm16
  rw [← hq, ← hm] at hih
  have key := strOfNums_snoc (120 :: hexI ((L s).take i)) (digs.getD q 0) (digs.getD m 0) c1 c2
  rw [hx] at key
  unfold hexS at z1 z2 c1 c2 key
  rw [if_pos (by omega), if_pos (by omega), if_pos (by omega), if_pos (by omega), if_pos (by omega), if_pos (by omega), if_pos (by omega), if_pos (by rw [ByteArray.size_append]; omega), ← key]
  exact hih
theorem ref_Quote (s : ByteArray) (k : Nat) (hk : s.size + 1 < k) : kauditref02_Quote.f k s = value_Quote.f s := by
 unfold kauditref02_Quote.f value_Quote.f
 by_cases h1 : 640 < s.size
 ·rw [if_pos (by omega), if_pos h1]
 ·rw [if_neg (by omega), if_neg h1, ref_safe_run s (by omega) k (by omega)]
  simp only [Option.bind_some]
  by_cases h2 : safeL (L s) = true
  ·rw [if_pos h2, if_pos h2, if_pos (by omega), if_pos (by rw [ByteArray.size_append]; simp only [PW.size_mk, List.size_toArray, List.length_cons, List.length_nil]; omega)]
  ·rw [if_neg h2, if_neg h2]
   have := ref_hex_run s (by omega) s.size k 0 (by omega) (by omega) (by omega)
   rw [List.take_zero] at this
   exact this
end Go.Proofs.YtodbabeldolcbaaGreatDoor.PA
end
/- The program's and the reference's Unquote both return the text that Quote writes, if there is one; the law ValueUnquotes in plain Lean. Conditions: none. -/
section
namespace Go.Proofs.YtodbabeldolcbaaGreatDoor.PA
set_option linter.unusedSimpArgs false
open Go.RowKit Go.Proofs.YtodbabeldolcbaaGreatDoorW.PrintWords Go.Proofs.YtodbabeldolcbaaGreatDoorW.PrintLast Go.Proofs.YtodbabeldolcbaaGreatDoorW.PrintMore Go.Proofs.YtodbabeldolcbaaGreatDoor.M0
def hexL (l : List UInt8) : List UInt8 := (hexI l).map fun n => UInt8.ofNat n.toNat
def quoteL (l : List UInt8) : List UInt8 := if safeL l then 34 :: (l ++ [34]) else 120 :: hexL l
theorem quote_some (s : ByteArray) : ∃ q e, value_Quote.f s = some (q, e) ∧ ((640 < s.size ∧ e = 20 ∧ q = ⟨#[]⟩) ∨ (s.size ≤ 640 ∧ e = 0 ∧ L q = quoteL (L s))) := by
 unfold value_Quote.f quoteL
 by_cases h1 : 640 < s.size
 ·exact ⟨_, _, by rw [if_pos h1], .inl ⟨h1, rfl, rfl⟩⟩
 ·by_cases h2 : safeL (L s) = true
  ·exact ⟨_, _, by rw [if_neg h1, if_pos h2], .inr ⟨by omega, rfl, by rw [if_pos h2, L_append, L_append]; rfl⟩⟩
  ·exact ⟨_, _, by rw [if_neg h1, if_neg h2], .inr ⟨by omega, rfl, by rw [if_neg h2]; rfl⟩⟩
def Zbo (t s : ByteArray) : Prop := value_Quote.f t = some (s, 0)
theorem Zbo.bytes {t s : ByteArray} (h : Zbo t s) : t.size ≤ 640 ∧ L s = quoteL (L t) := by
 obtain ⟨q, e, hq, hc⟩ := quote_some t
 rw [Zbo, hq] at h
 simp only [Option.some.injEq, Prod.mk.injEq] at h
 obtain ⟨rfl, rfl⟩ := h
 rcases hc with ⟨_, h, _⟩ | ⟨h, _, h2⟩
 ·cases h
 ·exact ⟨h, h2⟩
theorem Zbo.of {t s : ByteArray} (h : t.size ≤ 640) (hs : L s = quoteL (L t)) : Zbo t s := by
 obtain ⟨q, e, hq, hc⟩ := quote_some t
 rcases hc with ⟨h1, _, _⟩ | ⟨_, rfl, h2⟩
 ·omega
 ·rw [Zbo, hq, ext_L (h2.trans hs.symm)]
def tryC (c s : ByteArray) : Option (ByteArray × Int) := (value_Quote.f c).bind fun b => if b.2 = 0 then (if b.1.toList = s.toList then some (c, 0) else some (⟨#[]⟩, 21)) else some (⟨#[]⟩, 21)
theorem tryC_yes {c s : ByteArray} (h : Zbo c s) : tryC c s = some (c, 0) := by
 unfold tryC; rw [show value_Quote.f c = some (s, 0) from h]; simp
theorem tryC_no {c s : ByteArray} (h : ¬ Zbo c s) : tryC c s = some (⟨#[]⟩, 21) := by
 unfold tryC
 obtain ⟨q, e, hq, _⟩ := quote_some c
 rw [hq]
 simp only [Option.bind_some]
 by_cases he : e = 0
 ·rw [if_pos he, if_neg]
  intro heq
  rw [toList_L, toList_L] at heq
  exact h (by rw [Zbo, hq, he, ext_L heq])
 ·rw [if_neg he]
theorem digitF_of (n : Nat) (hn : n < 16) : digitF (digs.getD n 0) = n := by
 match n, hn with
 | 0, _ | 1, _ | 2, _ | 3, _ | 4, _ | 5, _ | 6, _ | 7, _ | 8, _ | 9, _ | 10, _ | 11, _ | 12, _ | 13, _ | 14, _ | 15, _ => rfl
 | n + 16, h => omega
theorem digs_range (n : Nat) (hn : n < 16) : 48 ≤ digs.getD n 0 ∧ digs.getD n 0 ≤ 102 := by
 match n, hn with
 | 0, _ | 1, _ | 2, _ | 3, _ | 4, _ | 5, _ | 6, _ | 7, _ | 8, _ | 9, _ | 10, _ | 11, _ | 12, _ | 13, _ | 14, _ | 15, _ => decide
 | n + 16, h => omega
theorem nib_or (n m : Nat) (hn : n < 16) (hm : m < 16) : Go.bits .or .u8 (((n : Int) * 16) % 256) (Go.bits .and .u8 (m : Int) 15) = 16 * n + m := by
 have key : ∀ a b : Fin 16, Go.bits .or .u8 ((((a.val : Nat) : Int) * 16) % 256) (Go.bits .and .u8 ((b.val : Nat) : Int) 15) = 16 * (a.val : Nat) + (b.val : Nat) := by decide +kernel
 exact key ⟨n, hn⟩ ⟨m, hm⟩
theorem hexL_cons (b : UInt8) (l : List UInt8) : hexL (b :: l) = UInt8.ofNat (digs.getD (b.toNat / 16) 0).toNat :: UInt8.ofNat (digs.getD (b.toNat % 16) 0).toNat :: hexL l := by
 simp only [hexL, hexI, List.flatMap_cons, List.map_append, List.map_cons, List.map_nil, List.cons_append, List.nil_append]
theorem hexL_length (l : List UInt8) : (hexL l).length = 2 * l.length := by simp [hexL, hexI_length]
theorem byte_back {x : Int} (h0 : 0 ≤ x) (h : x ≤ 255) : ((UInt8.ofNat x.toNat).toNat : Int) = x := by
 have : (UInt8.ofNat x.toNat).toNat = x.toNat % 256 := UInt8.toNat_ofNat'
 omega
def decP : List UInt8 → List Int
 | a :: b :: r => Go.bits .or .u8 ((digitF a.toNat * 16) % 256) (Go.bits .and .u8 (digitF b.toNat) 15) :: decP r
 | _ => []
theorem decP_hex (l : List UInt8) : decP (hexL l) = l.map fun b => (b.toNat : Int) := by
 induction l with
 | nil => rfl
 | cons b l ih =>
  have hb := b.toNat_lt
  have r1 := digs_range (b.toNat / 16) (by omega)
  have r2 := digs_range (b.toNat % 16) (by omega)
  rw [hexL_cons, decP, ih, byte_back (by omega) (by omega), byte_back (by omega) (by omega), digitF_of _ (by omega), digitF_of _ (by omega), nib_or _ _ (by omega) (by omega), List.map_cons]
  congr 1
  omega
theorem strOfNums_bytes (s : ByteArray) : strOfNums ((L s).map fun b => (b.toNat : Int)) = s := by
 apply ext_L
 rw [Zck, List.map_map]
 conv => rhs; rw [← List.map_id (L s)]
 apply List.map_congr_left
 intro b _
 simp
theorem bt_drop (s : ByteArray) (i : Nat) (a : UInt8) (r : List UInt8) (h : (L s).drop i = a :: r) : i < s.size ∧ bt s (i : Int) = a.toNat ∧ (L s).drop (i + 1) = r := by
 have hl : i < (L s).length := by
  rcases Nat.lt_or_ge i (L s).length with h1 | h1
  ·exact h1
  ·rw [List.drop_of_length_le h1] at h; cases h
 have h2 := List.drop_eq_getElem_cons hl
 rw [h] at h2
 injection h2 with h3 h4
 exact ⟨by rw [Za2]; exact hl, by rw [bt_L s i hl, h3], h4.symm⟩
theorem Zcf (s : ByteArray) (i : Nat) (h : i < s.size) : ∃ a r, (L s).drop i = a :: r := by
 have hl : i < (L s).length := by rw [← Za2]; exact h
 exact ⟨_, _, List.drop_eq_getElem_cons hl⟩
set_option maxHeartbeats 2000000 in
theorem unq_l0 (s : ByteArray) (hs : s.size ≤ 100000) : ∀ d k x5 (i : Nat), i ≤ s.size → s.size - i = 2 * d → d < k → x5.length ≤ i →
  value_Unquote.l0 k s x5 (i : Int) = tryC (strOfNums (x5 ++ decP ((L s).drop i))) s := by
 intro d
 induction d with
 | zero =>
  intro k x5 i hi hd hk _
  obtain ⟨k, rfl⟩ : ∃ m, k = m + 1 := ⟨k - 1, by omega⟩
  rw [value_Unquote.l0, if_neg (by omega), List.drop_of_length_le (by rw [← Za2]; omega)]
  simp only [decP, List.append_nil]
  rfl
 | succ d ih =>
  intro k x5 i hi hd hk hx
  obtain ⟨k, rfl⟩ : ∃ m, k = m + 1 := ⟨k - 1, by omega⟩
  have g1 : i < s.size := by omega
  have g2 : i + 1 < s.size := by omega
  have g3 : i + 2 ≤ s.size := by omega
  have g4 : s.size - (i + 2) = 2 * d := by omega
  have g5 : d < k := by omega
  have g6 : (i : Int) < (s.size : Int) := by omega
  have g7 : (0 : Int) ≤ (i : Int) := by omega
  have q1 : (0 : Int) ≤ ((i + 1 : Nat) : Int) := by omega
  have q2 : ((i + 1 : Nat) : Int) < (s.size : Int) := by omega
  have q3 : x5.length < 140737488355328 := by omega
  have hw : wrap64 ((i : Int) + 1) = ((i + 1 : Nat) : Int) := by rw [wrap64_id (by omega) (by omega)]; omega
  have hw2 : wrap64 ((i : Int) + 2) = ((i + 2 : Nat) : Int) := by rw [wrap64_id (by omega) (by omega)]; omega
  have g8 : ∀ y : Int, (x5 ++ [y]).length ≤ i + 2 := fun y => by rw [List.length_append, List.length_singleton]; omega
  obtain ⟨a, r, ha⟩ := Zcf s i g1
  obtain ⟨_, hb1, hr⟩ := bt_drop s i a r ha
  obtain ⟨b, r', hb⟩ := Zcf s (i + 1) g2
  obtain ⟨_, hb2, hr2⟩ := bt_drop s (i + 1) b r' hb
  have hrr : r = b :: r' := hr.symm.trans hb
  have hih := ih k (x5 ++ [Go.bits .or .u8 ((digitF a.toNat * 16) % 256) (Go.bits .and .u8 (digitF b.toNat) 15)]) (i + 2) g3 g4 g5 (g8 _)
  rw [hr2] at hih
  rw [value_Unquote.l0, if_pos g6, if_pos g7, hb1, hw, hw2, hb2]
  simp only [value_digit.f, Option.bind_some]
  rw [if_pos q1, if_pos q2, if_pos q3, hih, ha, hrr, decP, List.append_assoc, List.singleton_append]
theorem extract_mid (s t : ByteArray) (h : L s = 34 :: (L t ++ [34])) : s.extract 1 (s.size - 1) = t := by
 apply ext_L
 have hl : (L t).length = s.size - 2 := by rw [Za2, h]; simp
 have h2 : 2 ≤ s.size := by rw [Za2, h]; simp
 rw [Zb3, h]
 simp only [List.drop_succ_cons, List.drop_zero]
 rw [List.take_append_of_le_length (by omega), List.take_of_length_le (by omega)]
theorem Zbp {t s : ByteArray} (h : Zbo t s) : (L s = 34 :: (L t ++ [34])) ∨ (L s = 120 :: hexL (L t) ∧ 0 < (L t).length) := by
 have hb := h.bytes.2
 unfold quoteL at hb
 by_cases h1 : safeL (L t) = true
 ·rw [if_pos h1] at hb; exact .inl hb
 ·rw [if_neg h1] at hb
  refine .inr ⟨hb, ?_⟩
  rcases ht : L t with _ | ⟨b, l⟩
  ·rw [ht] at h1; exact absurd rfl h1
  ·simp
def Right (s : ByteArray) (r : Option (ByteArray × Int)) : Prop := (∃ t, Zbo t s ∧ r = some (t, 0)) ∨ ((∀ t, ¬ Zbo t s) ∧ r = some (⟨#[]⟩, 21))
theorem Right.try_ {s c : ByteArray} (h : ∀ t, Zbo t s → c = t) : Right s (tryC c s) := by
 by_cases hq : Zbo c s
 ·exact .inl ⟨c, hq, tryC_yes hq⟩
 ·refine .inr ⟨fun t ht => ?_, tryC_no hq⟩
  rw [h t ht] at hq
  exact hq ht
theorem Zbo.inj {t u s : ByteArray} (ht : Zbo t s) (hu : Zbo u s) : t = u := by
 rcases Zbp ht with h1 | ⟨h1, hp⟩ <;> rcases Zbp hu with h2 | ⟨h2, hq⟩
 ·rw [← extract_mid s t h1, ← extract_mid s u h2]
 ·rw [h1] at h2; injection h2 with h3 _; exact absurd h3 (by decide)
 ·rw [h1] at h2; injection h2 with h3 _; exact absurd h3 (by decide)
 ·rw [h1] at h2
  injection h2 with _ h3
  have := congrArg decP h3
  rw [decP_hex, decP_hex] at this
  rw [← strOfNums_bytes t, ← strOfNums_bytes u, this]
theorem bt_zero (s : ByteArray) (b : UInt8) (l : List UInt8) (h : L s = b :: l) : bt s 0 = b.toNat := by
 have := bt_drop s 0 b l (by simpa using h)
 exact this.2.1
theorem bt_last (s : ByteArray) (b c : UInt8) (l : List UInt8) (h : L s = b :: (l ++ [c])) : bt s ((s.size : Int) - 1) = c.toNat := by
 have hs : s.size = l.length + 2 := by rw [Za2, h]; simp
 have hd : (L s).drop (l.length + 1) = [c] := by rw [h]; simp
 have := (bt_drop s (l.length + 1) c [] hd).2.1
 rw [show ((s.size : Int) - 1) = ((l.length + 1 : Nat) : Int) by omega]
 exact this
set_option maxHeartbeats 2000000 in
theorem value_Unquote_right (s : ByteArray) (hs : s.size ≤ 100000) (k : Nat) (hk : s.size + 5 < k) : Right s (value_Unquote.f k s) := by
 obtain ⟨k, rfl⟩ : ∃ m, k = m + 3 := ⟨k - 3, by omega⟩
 have hw : 1 ≤ s.size → wrap64 ((s.size : Int) - 1) = (s.size : Int) - 1 := fun h => wrap64_id (by omega) (by omega)
 -- the first case of the switch
 have first : 2 ≤ s.size → bt s 0 = 34 → bt s ((s.size : Int) - 1) = 34 → Right s (value_Unquote.j0 (k + 3) s ⟨#[]⟩ true) := by
  intro h2 h34 _
  rw [value_Unquote.j0, if_pos rfl, hw (by omega), if_pos (by omega), if_pos (by omega)]
  have e : ((s.size : Int) - 1).toNat = s.size - 1 := by omega
  rw [e]
  refine Right.try_ (c := s.extract 1 (s.size - 1)) fun t ht => ?_
  rcases Zbp ht with h | ⟨h, _⟩
  ·exact extract_mid s t h
  ·rw [bt_zero s _ _ h] at h34
   exact absurd h34 (by decide)
 -- the others
 have second : (∀ t, Zbo t s → L s ≠ 34 :: (L t ++ [34])) → Right s (value_Unquote.j0 (k + 3) s ⟨#[]⟩ false) := by
  intro hno
  have none_ : (s.size % 2 = 1 → 0 < s.size → bt s 0 ≠ 120) → Right s (value_Unquote.j1 (k + 2) s ⟨#[]⟩ false) := by
   intro hx
   rw [value_Unquote.j1, if_neg (by simp)]
   refine Right.try_ (c := ⟨#[]⟩) fun t ht => ?_
   rcases Zbp ht with h | ⟨h, hp⟩
   ·exact absurd h (hno t ht)
   ·have hsz : s.size = 2 * (L t).length + 1 := by rw [Za2, h]; simp [hexL_length]
    exact absurd (bt_zero s _ _ h) (hx (by omega) (by omega))
  rw [value_Unquote.j0, if_neg (by simp)]
  by_cases ho : s.size % 2 = 1
  ·rw [if_pos (by omega), if_pos (by omega)]
   by_cases hx : bt s 0 = 120
   ·rw [hx, show ((120 : Int) == 120) = true from rfl, value_Unquote.j1, if_pos rfl]
    have := unq_l0 s hs ((s.size - 1) / 2) (k + 1) [] 1 (by omega) (by omega) (by omega) (by simp)
    rw [show ((1 : Nat) : Int) = 1 from rfl] at this
    rw [this]
    refine Right.try_ fun t ht => ?_
    rcases Zbp ht with h | ⟨h, hp⟩
    ·exact absurd h (hno t ht)
    ·rw [h]
     simp only [List.drop_succ_cons, List.drop_zero, List.nil_append]
     rw [decP_hex, strOfNums_bytes]
   ·rw [show (bt s 0 == 120) = false from by simpa using hx]
    exact none_ fun _ _ => hx
  ·rw [if_neg (by omega)]
   exact none_ fun h => absurd h ho
 unfold value_Unquote.f
 by_cases h2 : (s.size : Int) ≥ 2
 ·rw [if_pos h2, if_pos (by omega)]
  by_cases h34 : bt s 0 = 34
  ·rw [if_pos h34, hw (by omega), if_pos (by omega), if_pos (by omega)]
   by_cases hl : bt s ((s.size : Int) - 1) = 34
   ·rw [hl]
    exact first (by omega) h34 hl
   ·rw [show (bt s ((s.size : Int) - 1) == 34) = false from by simpa using hl]
    exact second fun t ht h => hl (bt_last s _ _ _ h)
  ·rw [if_neg h34]
   exact second fun t ht h => h34 (bt_zero s _ _ h)
 ·rw [if_neg h2]
  exact second fun t ht h => by
   have : s.size = (L t).length + 2 := by rw [Za2, h]; simp
   omega
theorem hexS_bt (n : Nat) (hn : n < 16) : bt (⟨#[48, 49, 50, 51, 52, 53, 54, 55, 56, 57, 97, 98, 99, 100, 101, 102]⟩ : ByteArray) (n : Int) = digs.getD n 0 := by
 match n, hn with
 | 0, _ | 1, _ | 2, _ | 3, _ | 4, _ | 5, _ | 6, _ | 7, _ | 8, _ | 9, _ | 10, _ | 11, _ | 12, _ | 13, _ | 14, _ | 15, _ => rfl
 | n + 16, h => omega
def valF (c : Int) : Int := if digitF c < 16 then digitF c else -1
theorem ref_value (c : Int) (k : Nat) (hk : 16 < k) : kauditref02_value.f k c = some (valF c) := by
 have key : ∀ d k (i : Nat), i ≤ 16 → 16 - i = d → d < k → noneBefore i c → kauditref02_value.l0 k c (i : Int) = some (valF c) := by
  intro d
  induction d with
  | zero =>
   intro k i hi hd hk hno
   obtain ⟨k, rfl⟩ : ∃ m, k = m + 1 := ⟨k - 1, by omega⟩
   obtain rfl : i = 16 := by omega
   rw [kauditref02_value.l0, if_neg (by omega), valF, dig_none c hno, if_neg (by omega)]
  | succ d ih =>
   intro k i hi hd hk hno
   obtain ⟨k, rfl⟩ : ∃ m, k = m + 1 := ⟨k - 1, by omega⟩
   have hw : wrap64 ((i : Int) + 1) = ((i + 1 : Nat) : Int) := by rw [wrap64_id (by omega) (by omega)]; omega
   rw [kauditref02_value.l0, if_pos (by omega), if_pos (by omega), hexS_bt i (by omega), hw]
   by_cases hy : digs.getD i 0 = c
   ·rw [if_pos hy, valF, dig_found c i (by omega) hno hy, if_pos (by omega)]
   ·rw [if_neg hy]
    refine ih k (i + 1) (by omega) (by omega) (by omega) fun j hj => ?_
    by_cases e : j < i
    ·exact hno j e
    ·obtain rfl : j = i := by omega
     exact hy
 have := key 16 k 0 (by omega) (by omega) hk (fun j hj => by omega)
 simpa [kauditref02_value.f] using this
def decR : List UInt8 → Option (List Int)
 | a :: b :: r => if valF a.toNat < 0 then none else if valF b.toNat < 0 then none else (decR r).map fun l => ((16 * valF a.toNat + valF b.toNat) % 256) :: l
 | _ => some []
theorem digitF_range (c : Int) : 0 ≤ digitF c ∧ digitF c ≤ 16 := by
 unfold digitF
 have : digs.findIdx (· == c) ≤ digs.length := List.findIdx_le_length
 simp [digs] at this
 refine ⟨by omega, ?_⟩
 simp [digs]
 omega
theorem valF_range (c : Int) : -1 ≤ valF c ∧ valF c ≤ 15 := by
 unfold valF
 have := digitF_range c
 split <;> omega
theorem valF_of (n : Nat) (hn : n < 16) : valF (digs.getD n 0) = n := by
 rw [valF, digitF_of n hn, if_pos (by omega)]
theorem decR_hex (l : List UInt8) : decR (hexL l) = some (l.map fun b => (b.toNat : Int)) := by
 induction l with
 | nil => rfl
 | cons b l ih =>
  have hb := b.toNat_lt
  have r1 := digs_range (b.toNat / 16) (by omega)
  have r2 := digs_range (b.toNat % 16) (by omega)
  rw [hexL_cons, decR, ih, byte_back (by omega) (by omega), byte_back (by omega) (by omega), valF_of _ (by omega), valF_of _ (by omega), if_neg (by omega), if_neg (by omega), Option.map_some, List.map_cons]
  congr 2
  omega
theorem strOfNums_append (a b : List Int) : strOfNums (a ++ b) = strOfNums a ++ strOfNums b := by
 apply ext_L
 rw [L_append, Zck, Zck, Zck, List.map_append]
theorem ref_tryC (c s : ByteArray) (k : Nat) (hk : c.size + 1 < k) : ((kauditref02_Quote.f k c).bind fun bt => if bt.2 = 0 then (if bt.1.toList = s.toList then some (c, 0) else some ((⟨#[]⟩ : ByteArray), 21)) else some ((⟨#[]⟩ : ByteArray), 21)) = tryC c s := by
 rw [ref_Quote c k hk]; rfl
set_option maxHeartbeats 2000000 in
theorem ref_unq_l0 (s : ByteArray) (hs : s.size ≤ 100000) : ∀ d k (x : ByteArray) (i : Nat), i ≤ s.size → s.size - i = 2 * d → d + 100100 < k → x.size ≤ i →
  kauditref02_Unquote.l0 k s x (i : Int) = match decR ((L s).drop i) with | none => some (⟨#[]⟩, 21) | some l => tryC (x ++ strOfNums l) s := by
 intro d
 induction d with
 | zero =>
  intro k x i hi hd hk hx
  obtain ⟨k, rfl⟩ : ∃ m, k = m + 1 := ⟨k - 1, by omega⟩
  rw [kauditref02_Unquote.l0, if_neg (by omega), List.drop_of_length_le (by rw [← Za2]; omega), ref_tryC x s k (by omega)]
  simp only [decR]
  congr 1
  exact ext_L (by rw [L_append]; simp [Zck])
 | succ d ih =>
  intro k x i hi hd hk hx
  obtain ⟨k, rfl⟩ : ∃ m, k = m + 1 := ⟨k - 1, by omega⟩
  have g1 : i < s.size := by omega
  have g2 : i + 1 < s.size := by omega
  have g3 : i + 2 ≤ s.size := by omega
  have g4 : s.size - (i + 2) = 2 * d := by omega
  have g5 : d + 100100 < k := by omega
  have g6 : (i : Int) < (s.size : Int) := by omega
  have g7 : (0 : Int) ≤ (i : Int) := by omega
  have g8 : 16 < k := by omega
  have q1 : (0 : Int) ≤ ((i + 1 : Nat) : Int) := by omega
  have q2 : ((i + 1 : Nat) : Int) < (s.size : Int) := by omega
  have hw : wrap64 ((i : Int) + 1) = ((i + 1 : Nat) : Int) := by rw [wrap64_id (by omega) (by omega)]; omega
  have hw2 : wrap64 ((i : Int) + 2) = ((i + 2 : Nat) : Int) := by rw [wrap64_id (by omega) (by omega)]; omega
  have g9 : ∀ y : Int, x.size + (strOfNums [y]).size ≤ 9223372036854775807 := fun y => by rw [strOfNums_size, List.length_singleton]; omega
  have g10 : ∀ y : Int, (x ++ strOfNums [y]).size ≤ i + 2 := fun y => by rw [ByteArray.size_append, strOfNums_size, List.length_singleton]; omega
  obtain ⟨a, r, ha⟩ := Zcf s i g1
  obtain ⟨_, hb1, hr⟩ := bt_drop s i a r ha
  obtain ⟨b, r', hb⟩ := Zcf s (i + 1) g2
  obtain ⟨_, hb2, hr2⟩ := bt_drop s (i + 1) b r' hb
  have hrr : r = b :: r' := hr.symm.trans hb
  have v1 := valF_range a.toNat
  have v2 := valF_range b.toNat
  rw [kauditref02_Unquote.l0, if_pos g6, if_pos g7, hb1, hw, hw2, hb2, ref_value _ k g8, ref_value _ k g8, ha, hrr, decR]
  simp only [Option.bind_some]
  rw [if_pos q1, if_pos q2]
  by_cases c1 : valF a.toNat < 0
  ·rw [if_pos c1, if_pos c1]
  ·rw [if_neg c1, if_neg c1]
   by_cases c2 : valF b.toNat < 0
   ·rw [if_pos c2, if_pos c2]
   ·rw [if_neg c2, if_neg c2]
    have w1 : wrap64 (16 * valF a.toNat) = 16 * valF a.toNat := wrap64_id (by omega) (by omega)
    have w2 : wrap64 (16 * valF a.toNat + valF b.toNat) = 16 * valF a.toNat + valF b.toNat := wrap64_id (by omega) (by omega)
    rw [w1, w2]
    have hih := ih k (x ++ strOfNums [(16 * valF a.toNat + valF b.toNat) % 256]) (i + 2) g3 g4 g5 (g10 _)
    rw [hr2] at hih
    rw [if_pos (g9 _), hih]
    rcases decR r' with _ | l
    ·rfl
    ·simp only [Option.map_some]
     rw [ByteArray.append_assoc, ← strOfNums_append, List.singleton_append]
set_option maxHeartbeats 2000000 in
theorem ref_Unquote_right (s : ByteArray) (hs : s.size ≤ 100000) (k : Nat) (hk : 200300 < k) : Right s (kauditref02_Unquote.f k s) := by
 obtain ⟨k, rfl⟩ : ∃ m, k = m + 3 := ⟨k - 3, by omega⟩
 have hw : 1 ≤ s.size → wrap64 ((s.size : Int) - 1) = (s.size : Int) - 1 := fun h => wrap64_id (by omega) (by omega)
 have first : 2 ≤ s.size → bt s 0 = 34 → Right s (kauditref02_Unquote.j0 (k + 3) s ⟨#[]⟩ true) := by
  intro h2 h34
  have e : ((s.size : Int) - 1).toNat = s.size - 1 := by omega
  have el : (s.extract 1 (s.size - 1)).size ≤ s.size := by rw [Za2, Zb3, List.length_take]; omega
  rw [kauditref02_Unquote.j0, if_pos rfl, hw (by omega), if_pos (by omega), if_pos (by omega), e, ref_tryC _ s (k + 2) (by omega)]
  refine Right.try_ (c := s.extract 1 (s.size - 1)) fun t ht => ?_
  rcases Zbp ht with h | ⟨h, _⟩
  ·exact extract_mid s t h
  ·rw [bt_zero s _ _ h] at h34
   exact absurd h34 (by decide)
 have second : (∀ t, Zbo t s → L s ≠ 34 :: (L t ++ [34])) → Right s (kauditref02_Unquote.j0 (k + 3) s ⟨#[]⟩ false) := by
  intro hno
  have none_ : (3 ≤ s.size → bt s 0 = 120 → s.size % 2 = 1 → ¬ s.size ≤ 1281) → Right s (kauditref02_Unquote.j1 (k + 2) s ⟨#[]⟩ false) := by
   intro hx
   rw [kauditref02_Unquote.j1, if_neg (by simp), ref_tryC _ s (k + 1) (by show 0 + 1 < k + 1; omega)]
   refine Right.try_ (c := ⟨#[]⟩) fun t ht => ?_
   rcases Zbp ht with h | ⟨h, hp⟩
   ·exact absurd h (hno t ht)
   ·have hsz : s.size = 2 * (L t).length + 1 := by rw [Za2, h]; simp [hexL_length]
    have h640 := ht.bytes.1
    rw [Za2] at h640
    exact absurd (by omega) (hx (by omega) (bt_zero s _ _ h) (by omega))
  rw [kauditref02_Unquote.j0, if_neg (by simp)]
  by_cases h3 : (s.size : Int) ≥ 3
  ·rw [if_pos h3, if_pos (by omega)]
   by_cases hx : bt s 0 = 120
   ·rw [if_pos hx]
    by_cases ho : ((s.size : Int) % 2) = 1
    ·rw [if_pos ho]
     by_cases hl : (s.size : Int) ≤ 1281
     ·rw [decide_eq_true hl, kauditref02_Unquote.j1, if_pos rfl]
      have := ref_unq_l0 s hs ((s.size - 1) / 2) (k + 1) ⟨#[]⟩ 1 (by omega) (by omega) (by omega) (by show 0 ≤ 1; omega)
      rw [show ((1 : Nat) : Int) = 1 from rfl] at this
      rw [this]
      rcases hd : decR ((L s).drop 1) with _ | l
      ·refine .inr ⟨fun t ht => ?_, rfl⟩
       rcases Zbp ht with h | ⟨h, hp⟩
       ·exact hno t ht h
       ·rw [h, List.drop_succ_cons, List.drop_zero, decR_hex] at hd
        cases hd
      ·refine Right.try_ fun t ht => ?_
       rcases Zbp ht with h | ⟨h, hp⟩
       ·exact absurd h (hno t ht)
       ·rw [h, List.drop_succ_cons, List.drop_zero, decR_hex] at hd
        obtain rfl := Option.some.inj hd
        rw [strOfNums_bytes]
        exact ext_L (by rw [L_append]; rfl)
     ·rw [decide_eq_false hl]
      exact none_ fun _ _ _ => by omega
    ·rw [if_neg ho]
     exact none_ fun _ _ h => absurd h (by omega)
   ·rw [if_neg hx]
    exact none_ fun _ h => absurd h hx
  ·rw [if_neg h3]
   exact none_ fun h => absurd h (by omega)
 unfold kauditref02_Unquote.f
 by_cases h2 : (s.size : Int) ≥ 2
 ·rw [if_pos h2, if_pos (by omega)]
  by_cases h34 : bt s 0 = 34
  ·rw [h34]
   exact first (by omega) h34
  ·rw [show (bt s 0 == 34) = false from by simpa using h34]
   exact second fun t ht h => h34 (bt_zero s _ _ h)
 ·rw [if_neg h2]
  exact second fun t ht h => by
   have : s.size = (L t).length + 2 := by rw [Za2, h]; simp
   omega
theorem Right.some {s : ByteArray} {r : Option (ByteArray × Int)} (h : Right s r) : ∃ c e, r = some (c, e) := by
 rcases h with ⟨t, _, rfl⟩ | ⟨_, rfl⟩ <;> exact ⟨_, _, rfl⟩
end Go.Proofs.YtodbabeldolcbaaGreatDoor.PA
end
/- Check and Format of pairs: the program and the reference compute the same; the law ValuePairs in plain Lean. Conditions: sizes below 100000 where a lemma says so. -/
section
namespace Go.Proofs.YtodbabeldolcbaaGreatDoor.PA
set_option linter.unusedSimpArgs false
set_option linter.unusedVariables false
open Go.RowKit Go.Proofs.YtodbabeldolcbaaGreatDoorW.PrintWords Go.Proofs.YtodbabeldolcbaaGreatDoorW.PrintLast Go.Proofs.YtodbabeldolcbaaGreatDoorW.PrintMore Go.Proofs.YtodbabeldolcbaaGreatDoor.M0
def chOK (first : Bool) (b : Nat) : Bool := (decide (97 ≤ b) && decide (b ≤ 122)) || (!first && (b == 95 || (decide (48 ≤ b) && decide (b ≤ 57))))
def okL : Bool → List UInt8 → Bool
 | _, [] => true
 | f, b :: r => chOK f b.toNat && okL false r
def nameL (l : List UInt8) : Bool := okL true l && (!l.isEmpty && decide (l.length ≤ 16))
theorem name_step (b : Nat) (i : Int) (hi : 0 ≤ i) (X : Option Bool) : (if (b : Int) ≥ 97 then (if (b : Int) ≤ 122 then X else (if i = 0 then (some false) else (if (b : Int) = 95 then X else (if (b : Int) < 48 then (some false) else (if (b : Int) > 57 then (some false) else X))))) else (if i = 0 then (some false) else (if (b : Int) = 95 then X else (if (b : Int) < 48 then (some false) else (if (b : Int) > 57 then (some false) else X))))) = if chOK (decide (i = 0)) b then X else some false := by
 unfold chOK
 by_cases h1 : 97 ≤ b
 ·rw [if_pos (by omega)]
  by_cases h2 : b ≤ 122
  ·rw [if_pos (by omega)]; simp [h1, h2]
  ·rw [if_neg (by omega)]
   by_cases h3 : i = 0
   ·rw [if_pos h3]; simp [h2, h3]
   ·rw [if_neg h3, if_neg (by omega), if_neg (by omega), if_pos (by omega)]
    simp [h2, h3, show ¬ b = 95 by omega, show ¬ b ≤ 57 by omega]
 ·rw [if_neg (by omega)]
  by_cases h3 : i = 0
  ·rw [if_pos h3]; simp [h1, h3]
  ·rw [if_neg h3]
   by_cases h4 : b = 95
   ·rw [if_pos (by omega)]; simp [h3, h4]
   ·rw [if_neg (by omega)]
    by_cases h5 : b < 48
    ·rw [if_pos (by omega)]; simp [h1, h3, h4, show ¬ 48 ≤ b by omega]
    ·rw [if_neg (by omega)]
     by_cases h6 : 57 < b
     ·rw [if_pos (by omega)]; simp [h1, h3, h4, show ¬ b ≤ 57 by omega]
     ·rw [if_neg (by omega)]; simp [h3, show 48 ≤ b by omega, show b ≤ 57 by omega]
theorem value_name_run (s : ByteArray) (hs : s.size ≤ 100000) (k : Nat) (hk : s.size < k) : value_name.f k s = some (nameL (L s)) := by
 have fin : value_name.l0 1 s (s.size : Int) (s.size : Int) = some (!(L s).isEmpty && decide ((L s).length ≤ 16)) := by
  rw [value_name.l0, if_neg (by omega)]
  rw [Za2]
  rcases hl : L s with _ | ⟨b, l⟩
  ·rw [if_pos (by rw [toList_L, hl])]; rfl
  ·rw [if_neg (by rw [toList_L, hl]; simp)]
   simp only [List.length_cons, List.isEmpty_cons, Bool.not_false, Bool.true_and]
   congr 1
   apply decide_eq_decide.2
   omega
 have key : ∀ d k (i : Nat), i ≤ s.size → s.size - i = d → d < k → value_name.l0 k s (s.size : Int) (i : Int) = some (okL (decide (i = 0)) ((L s).drop i) && (!(L s).isEmpty && decide ((L s).length ≤ 16))) := by
  intro d
  induction d with
  | zero =>
   intro k i hi hd hk
   obtain ⟨k, rfl⟩ : ∃ m, k = m + 1 := ⟨k - 1, by omega⟩
   obtain rfl : i = s.size := by omega
   rw [value_name.l0] at fin ⊢
   rw [if_neg (by omega)] at fin ⊢
   rw [fin, List.drop_of_length_le (by rw [Za2]; exact Nat.le_refl _)]
   rfl
  | succ d ih =>
   intro k i hi hd hk
   obtain ⟨k, rfl⟩ : ∃ m, k = m + 1 := ⟨k - 1, by omega⟩
   obtain ⟨b, r, hb⟩ := Zcf s i (by omega)
   obtain ⟨_, hb1, hr⟩ := bt_drop s i b r hb
   have hih := ih k (i + 1) (by omega) (by omega) (by omega)
   have hw : wrap64 ((i : Int) + 1) = ((i + 1 : Nat) : Int) := by rw [wrap64_id (by omega) (by omega)]; omega
   rw [value_name.l0, if_pos (by omega), if_pos (by omega), if_pos (by omega), hb1, hw, hih, name_step _ _ (by omega), hb, okL, hr]
   have e : decide ((i : Int) = 0) = decide (i = 0) := decide_eq_decide.2 (by omega)
   rw [e, show decide (i + 1 = 0) = false from decide_eq_false (by omega)]
   cases chOK (decide (i = 0)) b.toNat <;> simp
 have := key s.size k 0 (by omega) (by omega) hk
 simpa [value_name.f, nameL] using this
theorem ref_step (b : Nat) (i : Int) (hi : 0 ≤ i) (X : Option Bool) : (if (b : Int) ≥ 97 then (if (b : Int) ≤ 122 then X else (if i > 0 then (if (b : Int) ≥ 48 then (if (b : Int) ≤ 57 then X else (if ((b : Int) = 95) then X else (some false))) else (if ((b : Int) = 95) then X else (some false))) else (some false))) else (if i > 0 then (if (b : Int) ≥ 48 then (if (b : Int) ≤ 57 then X else (if ((b : Int) = 95) then X else (some false))) else (if ((b : Int) = 95) then X else (some false))) else (some false))) = if chOK (decide (i = 0)) b then X else some false := by
 unfold chOK
 by_cases h1 : 97 ≤ b
 ·rw [if_pos (by omega)]
  by_cases h2 : b ≤ 122
  ·rw [if_pos (by omega)]; simp [h1, h2]
  ·rw [if_neg (by omega)]
   by_cases h3 : i = 0
   ·rw [if_neg (by omega)]; simp [h2, h3]
   ·rw [if_pos (by omega), if_pos (by omega), if_neg (by omega), if_neg (by omega)]
    simp [h2, h3, show ¬ b = 95 by omega, show ¬ b ≤ 57 by omega]
 ·rw [if_neg (by omega)]
  by_cases h3 : i = 0
  ·rw [if_neg (by omega)]; simp [h1, h3]
  ·rw [if_pos (by omega)]
   by_cases h4 : b = 95
   ·rw [if_pos (by omega), if_neg (by omega), if_pos (by omega)]; simp [h3, h4]
   ·by_cases h5 : b < 48
    ·rw [if_neg (by omega), if_neg (by omega)]; simp [h1, h3, h4, show ¬ 48 ≤ b by omega]
    ·rw [if_pos (by omega)]
     by_cases h6 : 57 < b
     ·rw [if_neg (by omega), if_neg (by omega)]; simp [h1, h3, h4, show ¬ b ≤ 57 by omega]
     ·rw [if_pos (by omega)]; simp [h3, show 48 ≤ b by omega, show b ≤ 57 by omega]
theorem ref_name_run (s : ByteArray) (k : Nat) (hk : 20 < k) : kauditref02_name.f k s = some (nameL (L s)) := by
 obtain ⟨k, rfl⟩ : ∃ m, k = m + 1 := ⟨k - 1, by omega⟩
 have key : ∀ d k (i : Nat), s.size ≤ 16 → i ≤ s.size → s.size - i = d → d < k → kauditref02_name.l0 k s (i : Int) = some (okL (decide (i = 0)) ((L s).drop i)) := by
  intro d
  induction d with
  | zero =>
   intro k i h16 hi hd hk
   obtain ⟨k, rfl⟩ : ∃ m, k = m + 1 := ⟨k - 1, by omega⟩
   obtain rfl : i = s.size := by omega
   rw [kauditref02_name.l0, if_neg (by omega), List.drop_of_length_le (by rw [Za2]; exact Nat.le_refl _)]
   rfl
  | succ d ih =>
   intro k i h16 hi hd hk
   obtain ⟨k, rfl⟩ : ∃ m, k = m + 1 := ⟨k - 1, by omega⟩
   obtain ⟨b, r, hb⟩ := Zcf s i (by omega)
   obtain ⟨_, hb1, hr⟩ := bt_drop s i b r hb
   have hih := ih k (i + 1) h16 (by omega) (by omega) (by omega)
   have hw : wrap64 ((i : Int) + 1) = ((i + 1 : Nat) : Int) := by rw [wrap64_id (by omega) (by omega)]; omega
   rw [kauditref02_name.l0, if_pos (by omega), if_pos (by omega), hb1, hw, hih, ref_step _ _ (by omega), hb, okL, hr]
   have e : decide ((i : Int) = 0) = decide (i = 0) := decide_eq_decide.2 (by omega)
   rw [e, show decide (i + 1 = 0) = false from decide_eq_false (by omega)]
   cases chOK (decide (i = 0)) b.toNat <;> simp
 have hsz := Za2 s
 unfold kauditref02_name.f nameL
 by_cases h1 : (s.size : Int) < 1
 ·rw [if_pos h1, kauditref02_name.j0, if_pos rfl]
  have : L s = [] := List.eq_nil_of_length_eq_zero (by omega)
  rw [this]; rfl
 ·have hne : (L s).isEmpty = false := by
   rcases hl : L s with _ | ⟨b, l⟩
   ·rw [hl] at hsz; rw [hsz] at h1; exact absurd (by decide) h1
   ·rfl
  rw [if_neg h1, kauditref02_name.j0, hne]
  by_cases h2 : (s.size : Int) > 16
  ·rw [if_pos (decide_eq_true h2), decide_eq_false (show ¬ (L s).length ≤ 16 by omega)]; simp
  ·rw [if_neg (by simpa using h2), decide_eq_true (show (L s).length ≤ 16 by omega)]
   have := key s.size k 0 (by omega) (by omega) (by omega) (by omega)
   simpa using this
def Zb1 (name : List UInt8) (kind num : Int) (text : List UInt8) : Int :=
 if nameL name then (if kind < 1 ∨ kind > 3 ∨ (kind ≠ 1 ∧ num ≠ 0) ∨ (kind ≠ 2 ∧ text ≠ []) then 23 else if text.length > 640 then 20 else 0) else 22
theorem value_Check_j0 (k : Nat) (b : Bool) (x1 : ByteArray) (x2 x3 : Int) (x4 : ByteArray) : value_Check.j0 (k + 1) b x1 x2 x3 x4 = some (if b then 23 else if (L x4).length > 640 then 20 else 0) := by
 rw [value_Check.j0, Za2]
 cases b
 ·simp only [Bool.false_eq_true, if_false]
  by_cases h : (L x4).length > 640
  ·rw [if_pos (by omega), if_pos h]
  ·rw [if_neg (by omega), if_neg h]
 ·simp
theorem ref_Check_j0 (k : Nat) (b : Bool) (x1 : ByteArray) (x2 x3 : Int) (x4 : ByteArray) : kauditref02_Check.j0 (k + 1) b x1 x2 x3 x4 = some (if b then 23 else if (L x4).length > 640 then 20 else 0) := by
 rw [kauditref02_Check.j0, Za2]
 cases b
 ·simp only [Bool.false_eq_true, if_false]
  by_cases h : (L x4).length > 640
  ·rw [if_pos (by omega), if_pos h]
  ·rw [if_neg (by omega), if_neg h]
 ·simp
theorem check_tree (nm : Bool) (a1 a2 : Int) (t : List UInt8) : (if nm = true then (if a1 < 1 then some (if true = true then (23 : Int) else if t.length > 640 then 20 else 0) else (if a1 > 3 then some (if true = true then 23 else if t.length > 640 then 20 else 0) else (if a1 = 1 then (if a1 = 2 then some (if false = true then 23 else if t.length > 640 then 20 else 0) else some (if (t != ([] : List UInt8)) = true then 23 else if t.length > 640 then 20 else 0)) else (if a2 = 0 then (if a1 = 2 then some (if false = true then 23 else if t.length > 640 then 20 else 0) else some (if (t != ([] : List UInt8)) = true then 23 else if t.length > 640 then 20 else 0)) else some (if true = true then 23 else if t.length > 640 then 20 else 0))))) else some 22) =
  some (if nm then (if a1 < 1 ∨ a1 > 3 ∨ (a1 ≠ 1 ∧ a2 ≠ 0) ∨ (a1 ≠ 2 ∧ t ≠ []) then 23 else if t.length > 640 then 20 else 0) else 22) := by
 cases nm
 ·simp
 ·simp only [if_true, if_false, Bool.false_eq_true]
  by_cases h1 : a1 < 1
  ·simp [h1]
  ·by_cases h3 : a1 > 3
   ·simp [h1, h3]
   ·by_cases e1 : a1 = 1
    ·subst e1
     by_cases ht : t = [] <;> simp [ht]
    ·by_cases e2 : a1 = 2
     ·subst e2
      by_cases h2 : a2 = 0 <;> simp [h2]
     ·by_cases h2 : a2 = 0
      ·by_cases ht : t = [] <;> simp [h1, h3, e1, e2, h2, ht]
      ·simp [h1, h3, e1, e2, h2]
theorem value_Check_run (n : ByteArray) (a1 a2 : Int) (t : ByteArray) (hn : n.size ≤ 100000) (k : Nat) (hk : n.size + 1 < k) : value_Check.f k n a1 a2 t = some (Zb1 (L n) a1 a2 (L t)) := by
 obtain ⟨k, rfl⟩ : ∃ m, k = m + 1 := ⟨k - 1, by omega⟩
 unfold value_Check.f
 rw [value_name_run n hn (k + 1) (by omega)]
 simp only [Option.bind_some, value_Check_j0, toList_L]
 exact check_tree _ _ _ _
theorem ref_Check_run (n : ByteArray) (a1 a2 : Int) (t : ByteArray) (k : Nat) (hk : 20 < k) : kauditref02_Check.f k n a1 a2 t = some (Zb1 (L n) a1 a2 (L t)) := by
 obtain ⟨k, rfl⟩ : ∃ m, k = m + 1 := ⟨k - 1, by omega⟩
 unfold kauditref02_Check.f
 rw [ref_name_run n (k + 1) (by omega)]
 simp only [Option.bind_some, ref_Check_j0, toList_L]
 exact check_tree _ _ _ _
theorem Zbm (n : Int) (h : 0 ≤ n) : Lib.itoa n = Lib.decDigits n.toNat := by unfold Lib.itoa; rw [if_neg (by omega)]
theorem itoa_lt (n : Int) (h : n < 0) : Lib.itoa n = 45 :: Lib.decDigits n.natAbs := by unfold Lib.itoa; rw [if_pos h]
theorem dec_size (n : Nat) (h : n ≤ 9223372036854775808) : (Lib.decDigits n).length ≤ 20 := by
 rw [Lib.decDigits_length]
 have : ∀ d n : Nat, n < 10 ^ d → 1 ≤ d → Lib.nDigits n ≤ d := by
  intro d
  induction d with
  | zero => intro n _ h; omega
  | succ d ih =>
   intro n hn _
   rw [Lib.nDigits]
   by_cases h10 : n < 10
   ·rw [dif_pos h10]; omega
   ·rw [dif_neg h10]
    have hd : 1 ≤ d := by
     rcases d with _ | d
     ·simp at hn; omega
     ·omega
    have := ih (n / 10) (by rw [Nat.pow_succ] at hn; omega) hd
    omega
 exact this 20 n (by omega) (by omega)
theorem Zbk (l : List UInt8) : (⟨l.toArray⟩ : ByteArray).size = l.length := by rw [Za2, L_mk]
theorem ref_Number_run (n : Int) (h0 : -9223372036854775808 ≤ n) (h1 : n ≤ 9223372036854775807) : kauditref02_Number.f n = some ⟨(Lib.itoa n).toArray⟩ := by
 unfold kauditref02_Number.f kauditref01_Decimal.f
 by_cases hn : n ≥ 0
 ·rw [if_pos hn, if_pos ⟨hn, h1⟩, Zbm n hn]; rfl
 ·rw [if_neg hn, itoa_lt n (by omega)]
  by_cases hm : n = -9223372036854775808
  ·subst hm
   have e0 : wrap64 (-(-9223372036854775808 : Int)) = -9223372036854775808 := by decide +kernel
   have e1 : wrap64 (-(wrap64 (Int.tdiv (-9223372036854775808) 10))) = 922337203685477580 := by decide +kernel
   have e2 : wrap64 (-(Int.tmod (-9223372036854775808) 10)) = 8 := by decide +kernel
   rw [e0, e1, e2, if_pos (by decide +kernel), if_pos (by decide +kernel)]
   simp only [Option.bind_some]
   have z1 := dec_size 922337203685477580 (by omega)
   have z2 := dec_size 8 (by omega)
   rw [show (922337203685477580 : Int).toNat = 922337203685477580 from rfl, show (8 : Int).toNat = 8 from rfl]
   rw [if_pos (by rw [Zbk]; omega), if_pos (by decide +kernel)]
   simp only [Option.bind_some]
   rw [if_pos (by rw [ByteArray.size_append, Zbk, Zbk, PW.size_mk]; simp; omega)]
   congr 1
   apply ext_L
   rw [L_append, L_append, L_mk, L_mk, L_mk]
   rw [show (-9223372036854775808 : Int).natAbs = 9223372036854775808 from rfl]
   conv => rhs; rw [Lib.decDigits, dif_neg (by omega)]
   rw [Lib.decDigits_one (show 8 < 10 by omega)]
   rfl
  ·have e : wrap64 (-n) = -n := wrap64_id (by omega) (by omega)
   have hz := dec_size (-n).toNat (by omega)
   rw [e, if_neg (by omega), if_pos ⟨by omega, by omega⟩]
   simp only [Option.bind_some]
   rw [if_pos (by rw [Zbk]; omega)]
   congr 1
   apply ext_L
   rw [L_append, L_mk, L_mk, show (-n).toNat = n.natAbs by omega]
   rfl
theorem Zbu (n : Int) (h0 : -9223372036854775808 ≤ n) (h1 : n ≤ 9223372036854775807) : (Lib.itoa n).length ≤ 21 := by
 by_cases hn : 0 ≤ n
 ·rw [Zbm n hn]; have := dec_size n.toNat (by omega); omega
 ·rw [itoa_lt n (by omega), List.length_cons]; have := dec_size n.natAbs (by omega); omega
def valueL (kind num : Int) (text : List UInt8) : List UInt8 := if kind = 1 then Lib.itoa num else if kind = 2 then quoteL text else [40, 110, 117, 108, 108, 41]
def Zcj (name : List UInt8) (kind num : Int) (text : List UInt8) : List UInt8 := name ++ 61 :: valueL kind num text
def Zbn (n : ByteArray) (a1 a2 : Int) (t : ByteArray) : ByteArray × Int :=
 if Zb1 (L n) a1 a2 (L t) = 0 then (⟨(Zcj (L n) a1 a2 (L t)).toArray⟩, 0) else (⟨#[]⟩, Zb1 (L n) a1 a2 (L t))
theorem Zb0 {n t : List UInt8} {a1 a2 : Int} (h : Zb1 n a1 a2 t = 0) : nameL n = true ∧ 1 ≤ a1 ∧ a1 ≤ 3 ∧ (a1 = 1 ∨ a2 = 0) ∧ (a1 = 2 ∨ t = []) ∧ t.length ≤ 640 := by
 unfold Zb1 at h
 by_cases hn : nameL n = true
 ·rw [if_pos hn] at h
  split at h
  ·cases h
  ·rename_i hk
   split at h
   ·cases h
   ·refine ⟨hn, by omega, by omega, ?_, ?_, by omega⟩
    ·by_cases e : a1 = 1
     ·exact .inl e
     ·by_cases e2 : a2 = 0
      ·exact .inr e2
      ·exact absurd (.inr (.inr (.inl ⟨e, e2⟩))) hk
    ·by_cases e : a1 = 2
     ·exact .inl e
     ·by_cases e2 : t = []
      ·exact .inr e2
      ·exact absurd (.inr (.inr (.inr ⟨e, e2⟩))) hk
 ·rw [if_neg hn] at h; cases h
theorem quoteL_length (l : List UInt8) : (quoteL l).length ≤ 2 * l.length + 2 := by
 unfold quoteL; split
 ·simp; omega
 ·simp [hexL_length]
theorem quote_run (t : ByteArray) (h : t.size ≤ 640) : ∃ q, value_Quote.f t = some (q, 0) ∧ L q = quoteL (L t) := by
 obtain ⟨q, e, hq, hc⟩ := quote_some t
 rcases hc with ⟨h1, _, _⟩ | ⟨_, rfl, h2⟩
 ·omega
 ·exact ⟨q, hq, h2⟩
theorem Zch (n : ByteArray) (a1 a2 : Int) (t : ByteArray) (hn : n.size ≤ 100000) (h0 : -9223372036854775808 ≤ a2) (h1 : a2 ≤ 9223372036854775807) (k : Nat) (hk : n.size + 1 < k) :
  value_Format.f k n a1 a2 t = some (Zbn n a1 a2 t) := by
 unfold value_Format.f Zbn
 rw [value_Check_run n a1 a2 t hn k hk]
 simp only [Option.bind_some]
 by_cases hc : Zb1 (L n) a1 a2 (L t) = 0
 ·rw [if_pos hc, if_pos hc]
  obtain ⟨_, _, _, _, _, h640⟩ := Zb0 hc
  rw [← Za2] at h640
  unfold Zcj valueL
  have z0 : (n ++ (⟨#[61]⟩ : ByteArray)).size = n.size + 1 := by rw [ByteArray.size_append]; rfl
  by_cases e1 : a1 = 1
  ·rw [if_pos e1, if_pos e1, strconv_Itoa.f, if_pos ⟨h0, h1⟩]
   have zi : (⟨(Lib.itoa a2).toArray⟩ : ByteArray).size ≤ 21 := by rw [Zbk]; exact Zbu a2 h0 h1
   simp only [Option.bind_some]
   rw [if_pos (by omega), if_pos (by rw [z0]; omega)]
   congr 2
   apply ext_L
   rw [L_append, L_append, L_mk, L_mk, List.append_assoc]; rfl
  ·rw [if_neg e1, if_neg e1]
   by_cases e2 : a1 = 2
   ·rw [if_pos e2, if_pos e2]
    obtain ⟨q, hq, hl⟩ := quote_run t h640
    rw [hq]
    have zq : q.size ≤ 2 * t.size + 2 := by rw [Za2 q, hl, Za2 t]; exact quoteL_length _
    simp only [Option.bind_some]
    rw [if_pos (by omega), if_pos (by rw [z0]; omega)]
    congr 2
    apply ext_L
    rw [L_append, L_append, L_mk, hl, List.append_assoc]; rfl
   ·rw [if_neg e2, if_neg e2, if_pos (by omega), if_pos (by rw [z0]; omega)]
    congr 2
    apply ext_L
    rw [L_append, L_append, L_mk, List.append_assoc]; rfl
 ·rw [if_neg hc, if_neg hc]
theorem ref_Format_run (n : ByteArray) (a1 a2 : Int) (t : ByteArray) (hn : n.size ≤ 100000) (h0 : -9223372036854775808 ≤ a2) (h1 : a2 ≤ 9223372036854775807) (k : Nat) (hk : 700 < k) :
  kauditref02_Format.f k n a1 a2 t = some (Zbn n a1 a2 t) := by
 unfold kauditref02_Format.f Zbn
 rw [ref_Check_run n a1 a2 t k (by omega)]
 simp only [Option.bind_some]
 by_cases hc : Zb1 (L n) a1 a2 (L t) = 0
 ·rw [if_pos hc, if_pos hc]
  obtain ⟨_, _, _, _, _, h640⟩ := Zb0 hc
  rw [← Za2] at h640
  unfold Zcj valueL
  have z0 : (n ++ (⟨#[61]⟩ : ByteArray)).size = n.size + 1 := by rw [ByteArray.size_append]; rfl
  by_cases e1 : a1 = 1
  ·rw [if_pos e1, if_pos e1, if_pos (by omega), ref_Number_run a2 h0 h1]
   have zi : (⟨(Lib.itoa a2).toArray⟩ : ByteArray).size ≤ 21 := by rw [Zbk]; exact Zbu a2 h0 h1
   simp only [Option.bind_some]
   rw [if_pos (by rw [z0]; omega)]
   congr 2
   apply ext_L
   rw [L_append, L_append, L_mk, L_mk, List.append_assoc]; rfl
  ·rw [if_neg e1, if_neg e1]
   by_cases e2 : a1 = 2
   ·rw [if_pos e2, if_pos e2, ref_Quote t k (by omega)]
    obtain ⟨q, hq, hl⟩ := quote_run t h640
    rw [hq]
    have zq : q.size ≤ 2 * t.size + 2 := by rw [Za2 q, hl, Za2 t]; exact quoteL_length _
    simp only [Option.bind_some]
    rw [if_pos (by omega), if_pos (by rw [z0]; omega)]
    congr 2
    apply ext_L
    rw [L_append, L_append, L_mk, hl, List.append_assoc]; rfl
   ·rw [if_neg e2, if_neg e2, if_pos (by omega)]
    congr 2
 ·rw [if_neg hc, if_neg hc]
end Go.Proofs.YtodbabeldolcbaaGreatDoor.PA
end
