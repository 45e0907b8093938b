/- The reference's ReadNumber reads a decimal text as its Number writes it. Condition: the text has at most 100000 bytes. -/
import Derived.Test.YtodbabeldolcbaaGreatDoorY9VCuts
namespace Go.Proofs.YtodbabeldolcbaaGreatDoor.PA
set_option linter.unusedSimpArgs false
set_option linter.unusedVariables false
open Go.RowKit Go.Proofs.YtodbabeldolcbaaGreatDoorW.PrintWords Go.Proofs.YtodbabeldolcbaaGreatDoorW.PrintLast Go.Proofs.YtodbabeldolcbaaGreatDoorW.PrintMore Go.Proofs.YtodbabeldolcbaaGreatDoor.M0
theorem wrap64_range (x : Int) : -9223372036854775808 ≤ wrap64 x ∧ wrap64 x ≤ 9223372036854775807 := by unfold wrap64; omega
def rd1 (n : Int) (b : UInt8) : Int := if 48 ≤ b.toNat ∧ b.toNat ≤ 57 then wrap64 (wrap64 (n * 10) - ((b.toNat : Int) - 48) % 256) else n
def readF (n : Int) (l : List UInt8) : Int := l.foldl rd1 n
theorem rd1_range {n : Int} (h : -9223372036854775808 ≤ n ∧ n ≤ 9223372036854775807) (b : UInt8) : -9223372036854775808 ≤ rd1 n b ∧ rd1 n b ≤ 9223372036854775807 := by
 unfold rd1
 split
 ·exact wrap64_range _
 ·exact h
theorem readF_range : ∀ (l : List UInt8) {n : Int}, (-9223372036854775808 ≤ n ∧ n ≤ 9223372036854775807) → -9223372036854775808 ≤ readF n l ∧ readF n l ≤ 9223372036854775807
 | [], _, h => h
 | b :: l, _, h => readF_range l (rd1_range h b)
theorem readF_fold : ∀ (l : List UInt8) (acc : Nat), Dg l → Zbc acc l ≤ 9223372036854775808 → readF (-(acc : Int)) l = -((Zbc acc l : Nat) : Int)
 | [], acc, _, _ => rfl
 | b :: l, acc, hd, hb => by
  have h1 := hd b (List.mem_cons_self ..)
  have e : Zbc acc (b :: l) = Zbc (10 * acc + (b.toNat - 48)) l := rfl
  rw [e] at hb ⊢
  have h2 := fold10_ge l (10 * acc + (b.toNat - 48))
  have h3 := readF_fold l (10 * acc + (b.toNat - 48)) (fun x hx => hd x (List.mem_cons_of_mem _ hx)) hb
  have e2 : rd1 (-(acc : Int)) b = -((10 * acc + (b.toNat - 48) : Nat) : Int) := by
   unfold rd1
   rw [if_pos h1, wrap64_id (x := -(acc : Int) * 10) (by omega) (by omega), wrap64_id (by omega) (by omega)]
   omega
  show readF (rd1 (-(acc : Int)) b) l = _
  rw [e2, h3]
theorem readN_end (s : ByteArray) (n : Int) (hn : -9223372036854775808 ≤ n ∧ n ≤ 9223372036854775807) (k : Nat) (i : Int) :
  ∃ m, -9223372036854775808 ≤ m ∧ m ≤ 9223372036854775807 ∧ (((L s).head?.map (·.toNat) = some 45 ∨ L s = []) → m = n) ∧ (¬ ((L s).head?.map (·.toNat) = some 45 ∨ L s = []) → m = wrap64 (-n)) ∧
   kauditref02_ReadNumber.j1 (k + 1) s n i false = some (m, decide (Lib.itoa m = L s)) := by
 have key : ∀ m : Int, (((⟨(Lib.itoa m).toArray⟩ : ByteArray).toList == s.toList) : Bool) = decide (Lib.itoa m = L s) := by
  intro m
  rw [toList_L, toList_L, L_mk, Bool.eq_iff_iff, beq_iff_eq, decide_eq_true_eq]
 rw [kauditref02_ReadNumber.j1, if_neg (by decide)]
 rcases hl : L s with _ | ⟨b, r⟩
 ·have hz : s.size = 0 := by rw [Za2, hl]; rfl
  refine ⟨n, hn.1, hn.2, fun _ => rfl, fun h => absurd (.inr rfl) h, ?_⟩
  rw [if_neg (by omega), ref_Number_run n hn.1 hn.2, Option.bind_some, key, hl]
 ·have hz : s.size = r.length + 1 := by rw [Za2, hl]; rfl
  rw [if_pos (by omega), if_pos (by omega), bt_zero s b r hl]
  by_cases h45 : b.toNat = 45
  ·refine ⟨n, hn.1, hn.2, fun _ => rfl, fun h => absurd (.inl (by rw [List.head?_cons, Option.map_some, h45])) h, ?_⟩
   rw [if_pos (by omega), ref_Number_run n hn.1 hn.2, Option.bind_some, key, hl]
  ·have hw := wrap64_range (-n)
   refine ⟨wrap64 (-n), hw.1, hw.2, fun h => ?_, fun _ => rfl, ?_⟩
   ·rcases h with h | h
    ·rw [List.head?_cons, Option.map_some] at h
     exact absurd (Option.some.inj h) h45
    ·cases h
   ·rw [if_neg (by omega), ref_Number_run _ hw.1 hw.2, Option.bind_some, key, hl]
theorem readN_loop (s : ByteArray) (hs : s.size ≤ 20) : ∀ (d i k : Nat) (n : Int), i + d = s.size → 2 * d + 1 < k → ∃ j i', kauditref02_ReadNumber.l0 k s n (i : Int) = kauditref02_ReadNumber.j1 (j + 1) s (readF n ((L s).drop i)) i' false := by
 intro d
 induction d with
 | zero =>
  intro i k n hi hk
  obtain ⟨k, rfl⟩ : ∃ m, k = m + 2 := ⟨k - 2, by omega⟩
  rw [kauditref02_ReadNumber.l0, if_neg (by omega), List.drop_of_length_le (by rw [← Za2]; omega)]
  exact ⟨k, _, rfl⟩
 | succ d ih =>
  intro i k n hi hk
  obtain ⟨k, rfl⟩ : ∃ m, k = m + 2 := ⟨k - 2, by omega⟩
  obtain ⟨b, r, hb⟩ := Zcf s i (by omega)
  obtain ⟨_, hb1, hr⟩ := bt_drop s i b r hb
  have hw : wrap64 ((i : Int) + 1) = ((i + 1 : Nat) : Int) := by rw [wrap64_id (by omega) (by omega)]; omega
  obtain ⟨j, i', hj⟩ := ih (i + 1) k (rd1 n b) (by omega) (by omega)
  rw [hr] at hj
  refine ⟨j, i', ?_⟩
  rw [kauditref02_ReadNumber.l0, if_pos (by omega), decide_eq_true (by omega), kauditref02_ReadNumber.j1, if_pos rfl, if_pos (by omega), if_pos (by omega), hb1, hw, hb]
  show _ = kauditref02_ReadNumber.j1 (j + 1) s (readF (rd1 n b) r) i' false
  rw [← hj]
  unfold rd1
  by_cases h1 : 48 ≤ b.toNat
  ·rw [if_pos (by omega)]
   by_cases h2 : b.toNat ≤ 57
   ·rw [if_pos (by omega), if_pos ⟨h1, h2⟩]
   ·rw [if_neg (by omega), if_neg (fun h => h2 h.2)]
  ·rw [if_neg (by omega), if_neg (fun h => h1 h.1)]
theorem readN_run (s : ByteArray) (hs : s.size ≤ 100000) (k : Nat) (hk : 100 < k) : ∃ n, -9223372036854775808 ≤ n ∧ n ≤ 9223372036854775807 ∧ kauditref02_ReadNumber.f k s = some (n, decide (Lib.itoa n = L s)) ∧ (IsDec (L s) → Lib.itoa n = L s) := by
 have z0 : (-9223372036854775808 : Int) ≤ 0 ∧ (0 : Int) ≤ 9223372036854775807 := by omega
 by_cases h20 : s.size ≤ 20
 ·obtain ⟨j, i', hj⟩ := readN_loop s h20 s.size 0 k 0 (by omega) (by omega)
  rw [List.drop_zero] at hj
  obtain ⟨m, m0, m1, e1, e2, he⟩ := readN_end s (readF 0 (L s)) (readF_range _ z0) j i'
  refine ⟨m, m0, m1, ?_, ?_⟩
  ·unfold kauditref02_ReadNumber.f
   exact hj.trans he
  ·rintro ⟨v, v0, v1, hv⟩
   suffices hm : m = v by rw [hm, ← hv]
   by_cases hn : 0 ≤ v
   ·rw [Zbm v hn] at hv
    obtain ⟨b, l, hl, c1, c2⟩ := dec_head v.toNat
    have hno : ¬ ((L s).head?.map (·.toNat) = some 45 ∨ L s = []) := by
     rw [hv, hl]
     rintro (h | h)
     ·rw [List.head?_cons, Option.map_some] at h
      have := Option.some.inj h
      omega
     ·cases h
    have ef : Zbc 0 (Lib.decDigits v.toNat) = v.toNat := Zb5 v.toNat
    have := readF_fold (Lib.decDigits v.toNat) 0 (dec_dg _) (by rw [ef]; omega)
    rw [ef] at this
    rw [e2 hno, hv, show (0 : Int) = -((0 : Nat) : Int) from rfl, this, wrap64_id (by omega) (by omega)]
    omega
   ·rw [itoa_lt v (by omega)] at hv
    have hyes : (L s).head?.map (·.toNat) = some 45 ∨ L s = [] := .inl (by rw [hv]; rfl)
    have ef : Zbc 0 (Lib.decDigits v.natAbs) = v.natAbs := Zb5 v.natAbs
    have := readF_fold (Lib.decDigits v.natAbs) 0 (dec_dg _) (by rw [ef]; omega)
    rw [ef] at this
    have e3 : readF 0 (45 :: Lib.decDigits v.natAbs) = readF 0 (Lib.decDigits v.natAbs) := rfl
    rw [e1 hyes, hv, e3]
    show readF (-((0 : Nat) : Int)) (Lib.decDigits v.natAbs) = v
    rw [this]
    omega
 ·obtain ⟨k, rfl⟩ : ∃ m, k = m + 2 := ⟨k - 2, by omega⟩
  obtain ⟨m, m0, m1, e1, e2, he⟩ := readN_end s 0 z0 k 0
  refine ⟨m, m0, m1, ?_, ?_⟩
  ·unfold kauditref02_ReadNumber.f
   rw [kauditref02_ReadNumber.l0, if_pos (by omega), decide_eq_false (by omega)]
   exact he
  ·rintro ⟨v, v0, v1, hv⟩
   exfalso
   have hz := Za2 s
   rw [hv] at hz
   by_cases hn : 0 ≤ v
   ·rw [Zbm v hn] at hz
    have := dec_len 19 v.toNat (by omega) (by omega)
    omega
   ·rw [itoa_lt v (by omega), List.length_cons] at hz
    have := dec_len 19 v.natAbs (by omega) (by omega)
    omega
end Go.Proofs.YtodbabeldolcbaaGreatDoor.PA
