/- What the reference's Quote computes is what the program's Quote computes; the law ValueQuotes in plain Lean. Conditions: none. -/
import Derived.Test.YtodbabeldolcbaaDoorY1PAx0
import Derived.Test.YtodbabeldolcbaaDoorY1PAx2
import Derived.Test.YtodbabeldolcbaaDoorY1PAx7
namespace Go.Proofs.YtodbabeldolcbaaDoor.PA
open Go.RowKit Go.Proofs.YtodbabeldolcbaaDoorW.PrintWords Go.Proofs.YtodbabeldolcbaaDoorW.PrintLast Go.Proofs.YtodbabeldolcbaaDoorW.PrintMore Go.Proofs.YtodbabeldolcbaaDoor.M0
theorem ref_safe_run (s : ByteArray) (hs : s.size ≤ 640) (k : Nat) (hk : s.size < k) : kauditref02_safe.f k s = some (safeL (L s)) := by
  have key : ∀ d (k i : Nat), i ≤ s.size → s.size - i = d → d < k → kauditref02_safe.l0 k s (i : Int) = some (safeL ((L s).drop i)) := by
    intro d
    induction d with
    | zero =>
      intro k i hi hd hk
      obtain ⟨k, rfl⟩ : ∃ m, k = m + 1 := ⟨k - 1, by omega⟩
      obtain rfl : i = s.size := by omega
      rw [kauditref02_safe.l0, if_neg (by omega), List.drop_of_length_le (by rw [size_L]; exact Nat.le_refl _)]
      rfl
    | succ d ih =>
      intro k i hi hd hk
      obtain ⟨k, rfl⟩ : ∃ m, k = m + 1 := ⟨k - 1, by omega⟩
      have hlt : i < s.size := by omega
      have hl : i < (L s).length := by rw [← size_L]; exact hlt
      have hb := bt_L s i hl
      have hih := ih k (i + 1) (by omega) (by omega) (by omega)
      have hw : wrap64 ((i : Int) + 1) = ((i + 1 : Nat) : Int) := by rw [wrap64_id (by omega) (by omega)]; omega
      rw [kauditref02_safe.l0, if_pos (by omega), if_pos (by omega), hb, hw, hih, List.drop_eq_getElem_cons hl, safeL_cons]
      generalize ((L s)[i]).toNat = b
      by_cases h1 : b < 33
      · rw [if_pos (by omega)]; simp [h1]
      · rw [if_neg (by omega)]
        by_cases h2 : 126 < b
        · rw [if_pos (by omega)]; simp [h2]
        · rw [if_neg (by omega)]
          by_cases h3 : b = 34
          · rw [if_pos (by omega)]; simp [h3]
          · rw [if_neg (by omega)]; simp [h1, h2, h3]
  have := key s.size k 0 (by omega) (by omega) hk
  simpa [kauditref02_safe.f] using this
/-- The digits as a text of the reference. -/
def hexS : ByteArray := ⟨#[48, 49, 50, 51, 52, 53, 54, 55, 56, 57, 97, 98, 99, 100, 101, 102]⟩
theorem hexS_cut (n : Nat) (hn : n < 16) : L (hexS.extract n (n + 1)) = [UInt8.ofNat (digs.getD n 0).toNat] := by
  match n, hn with
  | 0, _ | 1, _ | 2, _ | 3, _ | 4, _ | 5, _ | 6, _ | 7, _ | 8, _ | 9, _ | 10, _ | 11, _ | 12, _ | 13, _ | 14, _ | 15, _ => rw [L_extract]; rfl
  | n + 16, h => omega
theorem hexS_size (n : Nat) (hn : n < 16) : (hexS.extract n (n + 1)).size = 1 := by rw [size_L, hexS_cut n hn]; rfl
theorem L_strOfNums (xs : List Int) : L (strOfNums xs) = xs.map fun n => UInt8.ofNat n.toNat := rfl
theorem strOfNums_snoc (xs : List Int) (a b : Int) {s t : ByteArray} (hs : L s = [UInt8.ofNat a.toNat]) (ht : L t = [UInt8.ofNat b.toNat]) : strOfNums (xs ++ [a, b]) = strOfNums xs ++ (s ++ t) := by
  apply ext_L
  rw [L_append, L_append, hs, ht, L_strOfNums, L_strOfNums, List.map_append]; rfl
theorem ref_hex_run (s : ByteArray) (hs : s.size ≤ 640) : ∀ d (k i : Nat), i ≤ s.size → s.size - i = d → d < k →
    kauditref02_Quote.l0 k s (strOfNums (120 :: hexI ((L s).take i))) (i : Int) = some (strOfNums (120 :: hexI (L s)), 0) := by
  intro d
  induction d with
  | zero =>
    intro k i hi hd hk
    obtain ⟨k, rfl⟩ : ∃ m, k = m + 1 := ⟨k - 1, by omega⟩
    obtain rfl : i = s.size := by omega
    rw [kauditref02_Quote.l0, if_neg (by omega), List.take_of_length_le (by rw [size_L]; exact Nat.le_refl _)]
  | succ d ih =>
    intro k i hi hd hk
    obtain ⟨k, rfl⟩ : ∃ m, k = m + 1 := ⟨k - 1, by omega⟩
    have hlt : i < s.size := by omega
    have hl : i < (L s).length := by rw [← size_L]; exact hlt
    have hb := bt_L s i hl
    have hih := ih k (i + 1) (by omega) (by omega) (by omega)
    have hw : wrap64 ((i : Int) + 1) = ((i + 1 : Nat) : Int) := by rw [wrap64_id (by omega) (by omega)]; omega
    have h256 := (L s)[i].toNat_lt
    rw [hexI_take (L s) i hl] at hih
    have hsz : (strOfNums (120 :: hexI ((L s).take i))).size ≤ 1281 := by
      rw [strOfNums_size]; simp only [List.length_cons, hexI_length, List.length_take]; omega
    generalize hx : strOfNums (120 :: hexI ((L s).take i)) = x at *
    obtain ⟨q, hq⟩ : ∃ q, q = (L s)[i].toNat / 16 := ⟨_, rfl⟩
    obtain ⟨m, hm⟩ : ∃ m, m = (L s)[i].toNat % 16 := ⟨_, rfl⟩
    have hq16 : q < 16 := by omega
    have hm16 : m < 16 := by omega
    have e1 : ((L s)[i].toNat : Int) / 16 = (q : Int) := by omega
    have e2 : Go.bits .and .u8 ((L s)[i].toNat : Int) 15 = (m : Int) := by rw [and15 _ (by omega)]; omega
    have e3 : ((q : Int) + 1) % 256 = ((q + 1 : Nat) : Int) := by omega
    have e4 : ((m : Int) + 1) % 256 = ((m + 1 : Nat) : Int) := by omega
    rw [kauditref02_Quote.l0, if_pos (by omega), if_pos (by omega), hb, hw]
    rw [e1, e2, e3, e4]
    simp only [Int.toNat_natCast]
    have z1 := hexS_size q hq16
    have z2 := hexS_size m hm16
    have c1 := hexS_cut q hq16
    have c2 := hexS_cut m hm16
    rw [← hq, ← hm] at hih
    have key := strOfNums_snoc (120 :: hexI ((L s).take i)) (digs.getD q 0) (digs.getD m 0) c1 c2
    rw [hx] at key
    unfold hexS at z1 z2 c1 c2 key
    rw [if_pos (by omega), if_pos (by omega), if_pos (by omega), if_pos (by omega), if_pos (by omega), if_pos (by omega), if_pos (by omega), if_pos (by rw [ByteArray.size_append]; omega), ← key]
    exact hih
theorem ref_Quote (s : ByteArray) (k : Nat) (hk : s.size + 1 < k) : kauditref02_Quote.f k s = value_Quote.f s := by
  unfold kauditref02_Quote.f value_Quote.f
  by_cases h1 : 640 < s.size
  · rw [if_pos (by omega), if_pos h1]
  · rw [if_neg (by omega), if_neg h1, ref_safe_run s (by omega) k (by omega)]
    simp only [Option.bind_some]
    by_cases h2 : safeL (L s) = true
    · rw [if_pos h2, if_pos h2, if_pos (by omega), if_pos (by rw [ByteArray.size_append]; simp only [PW.size_mk, List.size_toArray, List.length_cons, List.length_nil]; omega)]
    · rw [if_neg h2, if_neg h2]
      have := ref_hex_run s (by omega) s.size k 0 (by omega) (by omega) (by omega)
      rw [List.take_zero] at this
      exact this
theorem awake02 : kauditlaw02_awake.f = some true := by
  have h : value_Quote.f (⟨#[97, 32, 98]⟩ : ByteArray) = some (⟨#[120, 54, 49, 50, 48, 54, 50]⟩, 0) := by rfl
  unfold kauditlaw02_awake.f
  rw [h]
  simp only [Option.bind_some, if_true]
  simp [toList_L, L]
end Go.Proofs.YtodbabeldolcbaaDoor.PA
