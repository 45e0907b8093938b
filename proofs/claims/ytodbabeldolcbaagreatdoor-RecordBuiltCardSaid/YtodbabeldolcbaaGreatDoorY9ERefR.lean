/- What the reference's Parse of a line reads: its words, the two numbers of its stamp. Plain lemmas; conditions: each lemma names its own. -/
import Derived.Test.YtodbabeldolcbaaGreatDoorY9ERefS
import Derived.Test.YtodbabeldolcbaaGreatDoorY9VRec
import Derived.Test.YtodbabeldolcbaaGreatDoorY9ERParse
section
namespace Go.Proofs.YtodbabeldolcbaaGreatDoor.PA
set_option linter.unusedVariables false
set_option linter.unusedSimpArgs false
open Go.RowKit Go.Proofs.YtodbabeldolcbaaGreatDoorW.PrintWords Go.Proofs.YtodbabeldolcbaaGreatDoorW.PrintLast Go.Proofs.YtodbabeldolcbaaGreatDoorW.PrintMore Go.Proofs.YtodbabeldolcbaaGreatDoor.M0
theorem cut_loop (s : ByteArray) (hs : s.size ≤ 1000000) : ∀ (d i f k : Nat) (out : List ByteArray), i + d = s.size → d + 1 < k → f ≤ i → out.length ≤ f → (32 : UInt8) ∉ ((L s).drop f).take (i - f) →
  kauditref01_Cut.l0 k s 32 out (f : Int) (i : Int) = some (out ++ (splitB ((L s).drop f)).map fun l => ⟨l.toArray⟩) := by
 intro d
 induction d with
 | zero =>
  intro i f k out hi hk hf ho hno
  obtain ⟨k, rfl⟩ : ∃ m, k = m + 1 := ⟨k - 1, by omega⟩
  rw [kauditref01_Cut.l0, if_neg (by omega), if_pos (by omega), if_pos (by omega), if_pos (by omega)]
  have hlen : ((L s).drop f).length = i - f := by rw [List.length_drop, ← Za2]; omega
  rw [List.take_of_length_le (by omega)] at hno
  rw [splitB_one hno]
  congr 2
  rw [List.map_singleton]
  congr 1
  apply ext_L
  have hsz : ((s.size : Int)).toNat = s.size := Int.toNat_natCast _
  refine Eq.trans ?_ (L_mk _).symm
  rw [Zb3, Int.toNat_natCast, List.take_of_length_le (Nat.le_of_eq (hlen.trans (by omega)))]
 | succ d ih =>
  intro i f k out hi hk hf ho hno
  obtain ⟨k, rfl⟩ : ∃ m, k = m + 1 := ⟨k - 1, by omega⟩
  obtain ⟨b, r, hb⟩ := Zcf s i (by omega)
  obtain ⟨_, hb1, hr⟩ := bt_drop s i b r hb
  have hw : wrap64 ((i : Int) + 1) = ((i + 1 : Nat) : Int) := by rw [wrap64_id (by omega) (by omega)]; omega
  have hsplit : (L s).drop f = ((L s).drop f).take (i - f) ++ b :: r := by
   have h1 := List.take_append_drop (i - f) ((L s).drop f)
   rw [List.drop_drop, show f + (i - f) = i by omega, hb] at h1
   exact h1.symm
  by_cases hq : b.toNat = 32
  ·have hb32 : b = 32 := UInt8.toNat_inj.1 hq
   rw [kauditref01_Cut.l0, if_pos (by omega), if_pos (by omega), hb1, if_pos (by omega), if_pos (by omega), if_pos (by omega), if_pos (by omega), if_pos (by omega), hw]
   rw [ih (i + 1) (i + 1) k _ (by omega) (by omega) (Nat.le_refl _) (by rw [List.length_append, List.length_singleton]; omega) (by rw [Nat.sub_self, List.take_zero]; exact List.not_mem_nil)]
   rw [hsplit, hb32, splitB_cons r hno, hr, List.map_cons, List.append_assoc, List.singleton_append]
   have he : s.extract (f : Int).toNat (i : Int).toNat = ⟨(((L s).drop f).take (i - f)).toArray⟩ := by
    apply ext_L
    refine Eq.trans ?_ (L_mk _).symm
    rw [Zb3, Int.toNat_natCast, Int.toNat_natCast]
   rw [he]
  ·rw [kauditref01_Cut.l0, if_pos (by omega), if_pos (by omega), hb1, if_neg (by omega), hw]
   refine ih (i + 1) f k out (by omega) (by omega) (by omega) ho ?_
   rw [hsplit, show i + 1 - f = (((L s).drop f).take (i - f)).length + 1 by rw [List.length_take, List.length_drop, ← Za2]; omega, List.take_length_add_append]
   intro hm
   rcases List.mem_append.1 hm with hm | hm
   ·exact hno hm
   ·rw [List.take_succ_cons, List.take_zero, List.mem_singleton] at hm
    exact hq (by rw [← hm]; rfl)
theorem cut_run (s : ByteArray) (hs : s.size ≤ 1000000) (k : Nat) (hk : s.size + 1 < k) : kauditref01_Cut.f k s 32 = some (Zbz s) := by
 unfold kauditref01_Cut.f
 have := cut_loop s hs s.size 0 0 k [] (by omega) hk (Nat.le_refl _) (Nat.le_refl _) (by rw [Nat.sub_self, List.take_zero]; exact List.not_mem_nil)
 rw [List.drop_zero, List.nil_append] at this
 exact this
def dg1 (n : Int) (b : UInt8) : Int := if 48 ≤ b.toNat ∧ b.toNat ≤ 57 then n * 10 + ((b.toNat : Int) - 48) else n
def timeR : Int → List UInt8 → Int × List UInt8
 | n, [] => (n, [])
 | n, b :: l => if b.toNat = 58 then (n, b :: l) else timeR (if n ≤ 1099511627776 then dg1 n b else n) l
def serR : Int → List UInt8 → Int
 | n, [] => n
 | n, b :: l => if n ≤ 1073741824 then serR (dg1 n b) l else n
theorem dg1_digit {n : Nat} {b : UInt8} (h : 48 ≤ b.toNat ∧ b.toNat ≤ 57) : dg1 (n : Int) b = ((10 * n + (b.toNat - 48) : Nat) : Int) := by
 unfold dg1
 rw [if_pos h]
 omega
theorem timeR_dg : ∀ (l : List UInt8) (n : Nat) (x : List UInt8), Dg l → Zbc n l ≤ 1099511627776 → timeR (n : Int) (l ++ x) = timeR ((Zbc n l : Nat) : Int) x
 | [], n, x, _, _ => rfl
 | b :: l, n, x, hd, hb => by
  have h1 := hd b (List.mem_cons_self ..)
  have e : Zbc n (b :: l) = Zbc (10 * n + (b.toNat - 48)) l := rfl
  have h2 := fold10_ge l (10 * n + (b.toNat - 48))
  rw [e] at hb ⊢
  rw [List.cons_append, timeR, if_neg (by omega), if_pos (by omega), dg1_digit h1]
  exact timeR_dg l _ x (fun y hy => hd y (List.mem_cons_of_mem _ hy)) hb
theorem serR_dg : ∀ (l : List UInt8) (n : Nat) (x : List UInt8), Dg l → Zbc n l ≤ 1073741824 → serR (n : Int) (l ++ x) = serR ((Zbc n l : Nat) : Int) x
 | [], n, x, _, _ => rfl
 | b :: l, n, x, hd, hb => by
  have h1 := hd b (List.mem_cons_self ..)
  have e : Zbc n (b :: l) = Zbc (10 * n + (b.toNat - 48)) l := rfl
  have h2 := fold10_ge l (10 * n + (b.toNat - 48))
  rw [e] at hb ⊢
  rw [List.cons_append, serR, if_pos (by omega), dg1_digit h1]
  exact serR_dg l _ x (fun y hy => hd y (List.mem_cons_of_mem _ hy)) hb
theorem fold10_append (a b : List UInt8) (n : Nat) : Zbc n (a ++ b) = Zbc (Zbc n a) b := by unfold Zbc; rw [List.foldl_append]
theorem fold_itoa {n : Int} (h : 0 ≤ n) : Zbc 0 (Lib.itoa n) = n.toNat := by rw [Zbm n h]; exact Zb5 _
theorem words_of {a0 : ByteArray} {q : RecT} (h : Zbw q a0) :
  ∃ w0 w1 : ByteArray, Zbz a0 = w0 :: w1 :: q.2.2.2.map (fun p => ⟨(Zcj (L p.f0) p.f1 p.f2 (L p.f3)).toArray⟩) ∧ 5 ≤ w0.size ∧ 12 ≤ w1.size ∧ w1.size ≤ 60 ∧ q.2.2.2.length ≤ 24 ∧ (L w0).drop 5 = L (Zcn q.1) ∧
   (∃ x, timeR 0 ((L w1).drop 10) = (q.2.1, x) ∧ serR 0 x = q.2.2.1) ∧ goodP q.2.2.2 := by
 obtain ⟨hn, hc, hs⟩ := h
 obtain ⟨t0, t1, s0, s1, hl, hp⟩ := checkR_ok hc
 have hg : goodP q.2.2.2 := Zcm _ [] hp
 have hd := Int.tdiv_eq_ediv_of_nonneg t0 (b := 1000)
 have hm := Int.tmod_eq_emod_of_nonneg t0 (b := 1000)
 obtain ⟨m, hm2⟩ := Int.eq_ofNat_of_zero_le (show 0 ≤ q.2.1 % 1000 by omega)
 have hlt : m < 1000 := by omega
 obtain ⟨d1, e1⟩ : ∃ d, d = Lib.itoa (q.2.1 / 1000) := ⟨_, rfl⟩
 obtain ⟨d2, e2⟩ : ∃ d, d = (Lib.itoa (1000 + (m : Int))).drop 1 := ⟨_, rfl⟩
 obtain ⟨d3, e3⟩ : ∃ d, d = Lib.itoa q.2.2.1 := ⟨_, rfl⟩
 have g1 : Dg d1 := by rw [e1]; exact itoa_dg (by omega)
 have g2 : Dg d2 := by rw [e2]; exact thousand_dg _ (by omega)
 have g3 : Dg d3 := by rw [e3]; exact itoa_dg s0
 have l1 : d1.length ≤ 10 := by rw [e1]; exact itoa_len (by omega) (by omega)
 have l2 : d2.length = 3 := by rw [e2]; exact thousand_len m hlt
 have l3 : d3.length ≤ 10 := by rw [e3]; exact itoa_len s0 (by omega)
 have k1 : 1 ≤ d1.length := by
  obtain ⟨b, r, hb, _⟩ := itoa_head (q.2.1 / 1000)
  rw [e1, hb]; simp
 have f1 : Zbc 0 d1 = (q.2.1 / 1000).toNat := by rw [e1]; exact fold_itoa (by omega)
 have f3 : Zbc 0 d3 = q.2.2.1.toNat := by rw [e3]; exact fold_itoa s0
 have f12 : Zbc 0 (d1 ++ d2) = q.2.1.toNat := by
  rw [fold10_append, f1]
  have h1 := itoa_one m hlt
  rw [← e2] at h1
  have h2 := fold_itoa (n := 1000 + (m : Int)) (by omega)
  rw [h1] at h2
  match d2, l2, h2 with
  | [a, b, c], _, h2 =>
   have e49 : (49 : UInt8).toNat = 49 := rfl
   have e4 : Zbc 0 (49 :: [a, b, c]) = 10 * (10 * (10 * (10 * 0 + ((49 : UInt8).toNat - 48)) + (a.toNat - 48)) + (b.toNat - 48)) + (c.toNat - 48) := rfl
   rw [e4, e49] at h2
   show 10 * (10 * (10 * (q.2.1 / 1000).toNat + (a.toNat - 48)) + (b.toNat - 48)) + (c.toNat - 48) = q.2.1.toNat
   omega
 obtain ⟨w1, hw1⟩ : ∃ w : List UInt8, w = [109, 115, 103, 61, 97, 117, 100, 105, 116, 40] ++ (d1 ++ (46 :: (d2 ++ (58 :: (d3 ++ [41, 58]))))) := ⟨_, rfl⟩
 have hline : L a0 = (mType ++ L (Zcn q.1)) ++ 32 :: (w1 ++ Zbt q.2.2.2) := by
  rw [hs, hw1]
  unfold lineL headL mType
  rw [hd, hm, hm2, ← e1, ← e2, ← e3]
  simp only [List.append_assoc, List.cons_append, List.nil_append]
 have no1 : (32 : UInt8) ∉ mType ++ L (Zcn q.1) := fun hx => by
  rcases List.mem_append.1 hx with hx | hx
  ·exact absurd hx (by decide)
  ·exact nameK_no32 _ hx
 have no2 : (32 : UInt8) ∉ w1 := by
  rw [hw1]
  intro hx
  simp only [List.mem_append, List.mem_cons, List.not_mem_nil, or_false] at hx
  have n1 := g1.no 32 (by decide)
  have n2 := g2.no 32 (by decide)
  have n3 := g3.no 32 (by decide)
  rcases hx with hx | hx | hx | hx | hx | hx | hx
  ·revert hx; decide
  ·exact n1 hx
  ·exact absurd hx (by decide)
  ·exact n2 hx
  ·exact absurd hx (by decide)
  ·exact n3 hx
  ·revert hx; decide
 refine ⟨⟨(mType ++ L (Zcn q.1)).toArray⟩, ⟨w1.toArray⟩, ?_, ?_, ?_, ?_, hl, ?_, ⟨58 :: (d3 ++ [41, 58]), ?_, ?_⟩, hg⟩
 ·unfold Zbz
  rw [hline, splitB_cons _ no1, List.map_cons]
  congr 1
  rcases hq4 : q.2.2.2 with _ | ⟨z, zs⟩
  ·rw [show Zbt ([] : List S88) = [] from rfl, List.append_nil, splitB_one no2]
   rfl
  ·rw [hq4] at hg
   rw [Zb4, splitB_cons _ no2, List.map_cons, splitB_restL z zs hg, List.map_map]
   rfl
 ·rw [Zbk, List.length_append]
  show 5 ≤ 5 + _
  omega
 ·rw [Zbk, hw1]
  simp only [List.length_append, List.length_cons, List.length_nil]
  omega
 ·rw [Zbk, hw1]
  simp only [List.length_append, List.length_cons, List.length_nil]
  omega
 ·rw [L_mk]
  rfl
 ·rw [L_mk]
  rw [show w1.drop 10 = d1 ++ (46 :: (d2 ++ (58 :: (d3 ++ [41, 58])))) from by rw [hw1]; rfl]
  have h1 := timeR_dg d1 0 (46 :: (d2 ++ (58 :: (d3 ++ [41, 58])))) g1 (by rw [f1]; omega)
  refine Eq.trans h1 ?_
  rw [timeR, if_neg (by decide), if_pos (by rw [f1]; omega), show dg1 ((Zbc 0 d1 : Nat) : Int) 46 = ((Zbc 0 d1 : Nat) : Int) from rfl,
   timeR_dg d2 _ _ g2 (by rw [← fold10_append, f12]; omega), ← fold10_append, f12, timeR, if_pos (by decide)]
  congr 1
  omega
 ·rw [serR, if_pos (by decide), show dg1 0 58 = ((0 : Nat) : Int) from rfl, serR_dg d3 0 _ g3 (by rw [f3]; omega), f3, serR, if_pos (by omega), show ∀ n : Int, dg1 n 41 = n from fun _ => rfl, serR, if_pos (by omega), show ∀ n : Int, dg1 n 58 = n from fun _ => rfl, serR]
  omega
end Go.Proofs.YtodbabeldolcbaaGreatDoor.PA
end
/- The reference's Parse of a line returns the one record whose Format it is, or the error: what its printed form computes. Plain lemmas; conditions: each lemma names its own. -/
section
namespace Go.Proofs.YtodbabeldolcbaaGreatDoor.PA
set_option linter.unusedVariables false
set_option linter.unusedSimpArgs false
open Go.RowKit Go.Proofs.YtodbabeldolcbaaGreatDoorW.PrintWords Go.Proofs.YtodbabeldolcbaaGreatDoorW.PrintLast Go.Proofs.YtodbabeldolcbaaGreatDoorW.PrintMore Go.Proofs.YtodbabeldolcbaaGreatDoor.M0
noncomputable def tupW (a0 : ByteArray) : Int × Int × Int × List S88 × Int := ((Zcl a0).1.1, (Zcl a0).1.2.1, (Zcl a0).1.2.2.1, (Zcl a0).1.2.2.2, (Zcl a0).2)
theorem tupW_no {a0 : ByteArray} (h : ∀ q, ¬ Zbw q a0) : tupW a0 = (0, 0, 0, [], 34) := by
 unfold tupW
 rw [parseW_no h]
 rfl
theorem rd_at {pre rest : List ByteArray} {x : ByteArray} : rdOf ByteArray.empty (pre ++ x :: rest) ((pre.length : Nat) : Int) = x := by
 unfold rdOf
 rw [Int.toNat_natCast, List.getD_eq_getElem?_getD, List.getElem?_append_right (Nat.le_refl _), Nat.sub_self]
 rfl
theorem dg1_wrap {n : Int} {b : UInt8} (h0 : 0 ≤ n) (h1 : n ≤ 1099511627776) (h : 48 ≤ b.toNat ∧ b.toNat ≤ 57) : wrap64 ((wrap64 (n * 10)) + (((b.toNat : Int) - 48) % 256)) = dg1 n b := by
 unfold dg1
 have e : ((b.toNat : Int) - 48) % 256 = (b.toNat : Int) - 48 := Int.emod_eq_of_lt (by omega) (by omega)
 have e1 : wrap64 (n * 10) = n * 10 := wrap64_id (by omega) (by omega)
 rw [if_pos h, e1, e, wrap64_id (by omega) (by omega)]
theorem dg1_bound {n : Int} {b : UInt8} (h0 : 0 ≤ n) : 0 ≤ dg1 n b ∧ dg1 n b ≤ n * 10 + 9 := by
 unfold dg1
 split
 ·omega
 ·omega
set_option maxHeartbeats 1000000 in
theorem time_loop (x0 s : ByteArray) (x4 : List ByteArray) (y0 y1 y2 : Int) (R : Int × Int × Int × List S88 × Int) (hs : s.size ≤ 100000) (m : Nat) : ∀ (d i : Nat) (n : Int), i + d = s.size → 0 ≤ n → n ≤ 10995116277769 →
  (∀ j k : Nat, j ≤ s.size → m ≤ k → (timeR n ((L s).drop i)).2 = (L s).drop j → kauditref03_Scan.l1 k x0 x4 s (j : Int) y0 (timeR n ((L s).drop i)).1 y2 = some R) →
  ∀ k, 2 * d + 2 + m ≤ k → kauditref03_Scan.l0 k x0 x4 s n (i : Int) y0 y1 y2 = some R := by
 intro d
 induction d with
 | zero =>
  intro i n hi h0 h1 H k hk
  obtain ⟨k, rfl⟩ : ∃ j, k = j + 2 := ⟨k - 2, by omega⟩
  have hd : (L s).drop i = [] := List.drop_eq_nil_of_le (by rw [← Za2]; omega)
  have h2 := H i k (by omega) (by omega) (by rw [hd]; rfl)
  rw [hd] at h2
  rw [kauditref03_Scan.l0, if_neg (by omega), kauditref03_Scan.j2, if_neg (by decide)]
  exact h2
 | succ d ih =>
  intro i n hi h0 h1 H k hk
  obtain ⟨k, rfl⟩ : ∃ j, k = j + 2 := ⟨k - 2, by omega⟩
  obtain ⟨b, r, hb⟩ := Zcf s i (by omega)
  obtain ⟨_, hb1, hr⟩ := bt_drop s i b r hb
  have hw : wrap64 ((i : Int) + 1) = ((i + 1 : Nat) : Int) := by rw [wrap64_id (by omega) (by omega)]; omega
  rw [kauditref03_Scan.l0, if_pos (by omega), if_pos (by omega), hb1, kauditref03_Scan.j2]
  rw [hb] at H
  by_cases hq : b.toNat = 58
  ·have e : (((b.toNat : Nat) : Int) != 58) = false := bne_eq_false_iff_eq.mpr (by omega)
   rw [e, if_neg (by decide)]
   rw [timeR, if_pos hq] at H
   exact H i k (by omega) (by omega) hb.symm
  ·have e : (((b.toNat : Nat) : Int) != 58) = true := bne_iff_ne.mpr (by omega)
   rw [timeR, if_neg hq, ← hr] at H
   rw [e, if_pos rfl, if_pos (by omega), if_pos (by omega), hb1, hw]
   by_cases hn : n ≤ 1099511627776
   ·rw [if_pos hn] at H
    have hbd := dg1_bound (b := b) h0
    have hg := ih (i + 1) (dg1 n b) (by omega) hbd.1 (by omega) H k (by omega)
    by_cases c1 : 48 ≤ b.toNat
    ·rw [if_pos (by omega)]
     by_cases c2 : b.toNat ≤ 57
     ·rw [if_pos (by omega), if_pos hn, dg1_wrap h0 hn ⟨c1, c2⟩]
      exact hg
     ·rw [if_neg (by omega)]
      rw [show dg1 n b = n from if_neg (fun h => c2 h.2)] at hg
      exact hg
    ·rw [if_neg (by omega)]
     rw [show dg1 n b = n from if_neg (fun h => c1 h.1)] at hg
     exact hg
   ·rw [if_neg hn] at H
    have hg := ih (i + 1) n (by omega) h0 h1 H k (by omega)
    by_cases c1 : 48 ≤ b.toNat
    ·rw [if_pos (by omega)]
     by_cases c2 : b.toNat ≤ 57
     ·rw [if_pos (by omega), if_neg hn]; exact hg
     ·rw [if_neg (by omega)]; exact hg
    ·rw [if_neg (by omega)]; exact hg
set_option maxHeartbeats 1000000 in
theorem ser_loop (x0 s : ByteArray) (x4 : List ByteArray) (y0 y1 : Int) (R : Int × Int × Int × List S88 × Int) (hs : s.size ≤ 100000) (m : Nat) : ∀ (d i : Nat) (n : Int), i + d = s.size → 0 ≤ n →
  (∀ k : Nat, m ≤ k → kauditref03_Scan.l2 k x0 x4 2 y0 y1 (serR n ((L s).drop i)) [] = some R) →
  ∀ k, 2 * d + 2 + m ≤ k → kauditref03_Scan.l1 k x0 x4 s (i : Int) y0 y1 n = some R := by
 intro d
 induction d with
 | zero =>
  intro i n hi h0 H k hk
  obtain ⟨k, rfl⟩ : ∃ j, k = j + 2 := ⟨k - 2, by omega⟩
  have hd : (L s).drop i = [] := List.drop_eq_nil_of_le (by rw [← Za2]; omega)
  have h2 := H k (by omega)
  rw [hd] at h2
  rw [kauditref03_Scan.l1, if_neg (by omega), kauditref03_Scan.j4, if_neg (by decide)]
  exact h2
 | succ d ih =>
  intro i n hi h0 H k hk
  obtain ⟨k, rfl⟩ : ∃ j, k = j + 2 := ⟨k - 2, by omega⟩
  obtain ⟨b, r, hb⟩ := Zcf s i (by omega)
  obtain ⟨_, hb1, hr⟩ := bt_drop s i b r hb
  have hw : wrap64 ((i : Int) + 1) = ((i + 1 : Nat) : Int) := by rw [wrap64_id (by omega) (by omega)]; omega
  rw [kauditref03_Scan.l1, if_pos (by omega), kauditref03_Scan.j4]
  rw [hb] at H
  by_cases hn : n ≤ 1073741824
  ·rw [decide_eq_true hn, if_pos rfl, if_pos (by omega), if_pos (by omega), hb1, hw]
   rw [serR, if_pos hn, ← hr] at H
   have hbd := dg1_bound (b := b) h0
   have hg := ih (i + 1) (dg1 n b) (by omega) hbd.1 H k (by omega)
   by_cases c1 : 48 ≤ b.toNat
   ·rw [if_pos (by omega)]
    by_cases c2 : b.toNat ≤ 57
    ·rw [if_pos (by omega), dg1_wrap h0 (by omega) ⟨c1, c2⟩]
     exact hg
    ·rw [if_neg (by omega)]
     rw [show dg1 n b = n from if_neg (fun h => c2 h.2)] at hg
     exact hg
   ·rw [if_neg (by omega)]
    rw [show dg1 n b = n from if_neg (fun h => c1 h.1)] at hg
    exact hg
  ·rw [decide_eq_false hn, if_neg (by decide)]
   rw [serR, if_neg hn] at H
   exact H k (by omega)
set_option maxHeartbeats 1000000 in
theorem pairs_loop (a0 : ByteArray) (x4 : List ByteArray) (t tm sr : Int) (hx : x4.length ≤ 26) (hz : ∀ x ∈ x4, x.size ≤ 100000)
  (hq : ∀ q, Zbw q a0 → t = q.1 ∧ tm = q.2.1 ∧ sr = q.2.2.1 ∧ x4.drop 2 = q.2.2.2.map (fun p => ⟨(Zcj (L p.f0) p.f1 p.f2 (L p.f3)).toArray⟩) ∧ goodP q.2.2.2) :
  ∀ (rest pre : List ByteArray) (ps : List S88), x4 = pre ++ rest → 2 ≤ pre.length → Texts (pre.drop 2) ps → ∀ k, rest.length + 900 ≤ k → kauditref03_Scan.l2 k a0 x4 ((pre.length : Nat) : Int) t tm sr ps = some (tupW a0) := by
 intro rest
 induction rest with
 | nil =>
  intro pre ps he hp ht k hk
  obtain ⟨k, rfl⟩ : ∃ j, k = j + 1 := ⟨k - 1, by omega⟩
  have hlen := congrArg List.length he
  rw [List.length_append, List.length_nil] at hlen
  rw [kauditref03_Scan.l2, if_neg (by omega), ref03_Format_run k (by omega) t tm sr ps ht.nums.1 ht.nums.2, Option.bind_some]
  have hf := parseW_of (s := a0) (p := (t, tm, sr, ps)) ht.nums.1 (fun q h => by
   obtain ⟨e1, e2, e3, e4, e5⟩ := hq q h
   have e6 := ht.unique (by rw [← e4, he, List.append_nil]) e5 h.1
   obtain ⟨q1, q2, q3, q4⟩ := q
   simp only at e1 e2 e3 e6
   rw [e1, e2, e3, e6])
  unfold tupW
  rw [hf]
  obtain ⟨fs, fe, hff⟩ : ∃ fs fe, Zby t tm sr ps = (fs, fe) := ⟨_, _, rfl⟩
  rw [hff]
  by_cases he : fe = 0
  ·by_cases hs : fs = a0
   ·rw [if_pos he, if_pos (by rw [hs]), if_pos (by rw [hs, he])]
   ·have hne : ¬ fs.toList = a0.toList := fun e => hs (ext_L (by rw [← toList_L, ← toList_L, e]))
    rw [if_pos he, if_neg hne, if_neg (fun e => hs (Prod.mk.inj e).1)]
    rfl
  ·rw [if_neg he, if_neg (fun e => he (Prod.mk.inj e).2)]
   rfl
 | cons x rest ih =>
  intro pre ps he hp ht k hk
  obtain ⟨k, rfl⟩ : ∃ j, k = j + 1 := ⟨k - 1, by omega⟩
  rw [List.length_cons] at hk
  have hlen := congrArg List.length he
  rw [List.length_append, List.length_cons] at hlen
  have hps := ht.length
  rw [List.length_drop] at hps
  have hxz : x.size ≤ 100000 := hz x (by rw [he]; simp)
  have hw : wrap64 (((pre.length : Nat) : Int) + 1) = (((pre ++ [x]).length : Nat) : Int) := by rw [List.length_append, List.length_singleton, wrap64_id (by omega) (by omega)]; omega
  have hrd : rdOf ByteArray.empty x4 ((pre.length : Nat) : Int) = x := by rw [he]; exact rd_at
  rw [kauditref03_Scan.l2, if_pos (by omega), if_pos (by omega), hrd]
  unfold kauditref02_Parse.f
  rw [if_pos hxz, Option.bind_some]
  rcases parseV_cases x with ⟨p, hf, hpv⟩ | ⟨hno, hpv⟩
  ·have ep : tupV x = (p.f0, p.f1, p.f2, p.f3, 0) := by unfold tupV; rw [hpv]
   rw [ep]
   show (if (0 : Int) = 0 then _ else _) = _
   rw [if_pos rfl, if_pos (by omega), hw]
   refine ih (pre ++ [x]) (ps ++ [p]) (by rw [he, List.append_assoc]; rfl) (by rw [List.length_append]; omega) ?_ k (by omega)
   rw [List.drop_append_of_le_length hp]
   exact ht.snoc hf
  ·have ep : (tupV x).2.2.2.2 = 21 := by unfold tupV; rw [hpv]
   rw [ep, if_neg (by decide), tupW_no]
   intro q h
   obtain ⟨_, _, _, e4, e5⟩ := hq q h
   have hm : x ∈ x4.drop 2 := by rw [he, List.drop_append_of_le_length hp]; simp
   rw [e4] at hm
   obtain ⟨p, hp', rfl⟩ := List.mem_map.1 hm
   have hn := h.1
   unfold Zce at hn
   rw [List.all_eq_true] at hn
   have hnp := hn p hp'
   rw [Bool.and_eq_true, decide_eq_true_eq, decide_eq_true_eq] at hnp
   exact hno p ⟨hnp, e5 p hp', by rw [L_mk]⟩
set_option maxHeartbeats 1000000 in
theorem ref03_Parse_run (k : Nat) (hk : 40000 ≤ k) (a0 : ByteArray) (hs : a0.size ≤ 100000) : kauditref03_Scan.f k a0 = some (tupW a0) := by
 unfold kauditref03_Scan.f
 by_cases h1 : (a0.size : Int) > 31240
 ·rw [if_pos h1, tupW_no]
  intro q h
  have := line_len h
  omega
 rw [if_neg h1, cut_run a0 (by omega) k (by omega), Option.bind_some]
 obtain ⟨X, hX⟩ : ∃ X, Zbz a0 = X := ⟨_, rfl⟩
 have hsz : ∀ x ∈ X, x.size ≤ 100000 := fun x hx => by
  obtain ⟨pre, post, hp⟩ := List.append_of_mem hx
  have := (partsB_bound (hX.trans hp)).2
  omega
 rw [hX]
 have bad : (∀ q, ¬ Zbw q a0) → kauditref03_Scan.j0 k a0 X true = some (tupW a0) := fun h => by
  obtain ⟨j, rfl⟩ : ∃ j, k = j + 1 := ⟨k - 1, by omega⟩
  rw [kauditref03_Scan.j0, if_pos rfl, tupW_no h]
 have W : ∀ q, Zbw q a0 → _ := fun q h => words_of h
 rw [hX] at W
 by_cases c1 : (X.length : Int) < 2
 ·rw [if_pos c1]
  refine bad fun q h => ?_
  obtain ⟨w0, w1, e, _⟩ := W q h
  rw [e] at c1
  simp only [List.length_cons] at c1
  omega
 rw [if_neg c1]
 by_cases c2 : (X.length : Int) > 26
 ·rw [if_pos c2]
  refine bad fun q h => ?_
  obtain ⟨w0, w1, e, _, _, _, hl, _⟩ := W q h
  rw [e] at c2
  simp only [List.length_cons, List.length_map] at c2
  omega
 rw [if_neg c2, if_pos (by omega)]
 obtain ⟨w0, w1, xs, rfl⟩ : ∃ w0 w1 xs, X = w0 :: w1 :: xs := by
  match X, c1 with
  | [], c1 => exact absurd (show (([] : List ByteArray).length : Int) < 2 by decide) c1
  | [a], c1 => exact absurd (show (([a] : List ByteArray).length : Int) < 2 by show ((1 : Nat) : Int) < 2; decide) c1
  | a :: b :: xs, _ => exact ⟨a, b, xs, rfl⟩
 have r0 : rdOf ByteArray.empty (w0 :: w1 :: xs) 0 = w0 := rfl
 have r1 : rdOf ByteArray.empty (w0 :: w1 :: xs) 1 = w1 := rfl
 rw [r0, r1]
 by_cases c3 : (w0.size : Int) < 5
 ·rw [if_pos c3]
  refine bad fun q h => ?_
  obtain ⟨z0, z1, e, hz, _⟩ := W q h
  obtain ⟨rfl, _⟩ := List.cons.inj e
  omega
 rw [if_neg c3, if_pos (by omega)]
 by_cases c4 : (w1.size : Int) < 12
 ·rw [if_pos c4]
  refine bad fun q h => ?_
  obtain ⟨z0, z1, e, _, hz, _⟩ := W q h
  obtain ⟨_, e⟩ := List.cons.inj e
  obtain ⟨rfl, _⟩ := List.cons.inj e
  omega
 rw [if_neg c4]
 by_cases c5 : (w1.size : Int) > 60
 ·rw [decide_eq_true c5]
  refine bad fun q h => ?_
  obtain ⟨z0, z1, e, _, _, hz, _⟩ := W q h
  obtain ⟨_, e⟩ := List.cons.inj e
  obtain ⟨rfl, _⟩ := List.cons.inj e
  omega
 rw [decide_eq_false c5]
 obtain ⟨j, rfl⟩ : ∃ j, k = j + 1 := ⟨k - 1, by omega⟩
 obtain ⟨t, ht⟩ : ∃ t, record_Number.f (w0.extract 5 w0.size) = some t := ⟨_, rfl⟩
 rw [kauditref03_Scan.j0, if_neg (by decide), if_pos (by omega), r0, r1, if_pos (by omega), number_run j (by omega), ht, Option.bind_some, if_pos (by omega), if_pos (by omega)]
 have hL0 : L (w0.extract 5 w0.size) = (L w0).drop 5 := by
  rw [Zb3, List.take_of_length_le (by rw [List.length_drop, ← Za2]; exact Nat.le_refl _)]
 have hL1 : L (w1.extract 10 w1.size) = (L w1).drop 10 := by
  rw [Zb3, List.take_of_length_le (by rw [List.length_drop, ← Za2]; exact Nat.le_refl _)]
 obtain ⟨st, hst⟩ : ∃ st, w1.extract 10 w1.size = st := ⟨_, rfl⟩
 rw [hst] at hL1 ⊢
 have hss : st.size ≤ 60 := by
  rw [Za2, hL1, List.length_drop, ← Za2]; omega
 refine time_loop a0 st (w0 :: w1 :: xs) t 0 0 (tupW a0) (by omega) 2000 st.size 0 0 (by omega) (by omega) (by omega) (fun i k1 hi hk1 h2 => ?_) j (by omega)
 refine ser_loop a0 st (w0 :: w1 :: xs) t _ (tupW a0) (by omega) 1000 (st.size - i) i 0 (by omega) (by omega) (fun k2 hk2 => ?_) k1 (by omega)
 rw [List.drop_zero] at h2 ⊢
 refine pairs_loop a0 (w0 :: w1 :: xs) t _ _ (by omega) hsz (fun q h => ?_) xs [w0, w1] [] rfl (by simp) .nil k2 (by simp only [List.length_cons] at c2; omega)
 obtain ⟨z0, z1, e, _, _, _, _, hn, ⟨x, hx1, hx2⟩, hg⟩ := W q h
 obtain ⟨e0, e⟩ := List.cons.inj e
 obtain ⟨e1, e⟩ := List.cons.inj e
 rw [← e0] at hn
 rw [← e1, ← hL1] at hx1
 rw [hx1] at h2 ⊢
 refine ⟨?_, rfl, ?_, e, hg⟩
 ·have hc := checkR_name h.2.1
  have := number_name hc
  rw [ext_L (hL0.trans hn), this] at ht
  exact (Option.some.inj ht).symm
 ·rw [← h2, hx2]
end Go.Proofs.YtodbabeldolcbaaGreatDoor.PA
end
/- The Go function kauditref03.Parse returns the one record whose Format the line is, or the error. Condition: the line has at most 100000 bytes. -/
section
namespace Go.Proofs.YtodbabeldolcbaaGreatDoor.PA
open Go.RowKit Go.Proofs.YtodbabeldolcbaaGreatDoorW.PrintWords Go.Proofs.YtodbabeldolcbaaGreatDoorW.PrintLast Go.Proofs.YtodbabeldolcbaaGreatDoorW.PrintMore Go.Proofs.YtodbabeldolcbaaGreatDoor.M0
noncomputable def kauditref03_Parse.f (a0 : ByteArray) : Option (Int × Int × Int × List S88 × Int) := if a0.size ≤ 100000 then some (tupW a0) else none
theorem kauditref03_Parse.calls (a0 : ByteArray) (r1 : Int) (r2 : Int) (r3 : Int) (r4 : List S88) (r5 : Int) (w : World) (h : kauditref03_Parse.f a0 = some (r1, r2, r3, r4, r5)) :
  Calls Tryz.prog 48 #[.string a0] w fun e w' => ∃ v3_ : Value, e = .returned (.tuple #[.agg #[.int .i64 r1, .int .i64 r2, .int .i64 r3, v3_], .int .i64 r5]) ∧ Kd.R k88 88 w' w.heap.size (fun _ => True) v3_ r4 ∧ Below w.heap.size w w' := by
 unfold kauditref03_Parse.f at h
 by_cases hs : a0.size ≤ 100000
 ·rw [if_pos hs] at h
  exact kauditref03_Scan.calls 40000 a0 r1 r2 r3 r4 r5 w ((ref03_Parse_run 40000 (Nat.le_refl _) a0 hs).trans h)
 ·rw [if_neg hs] at h
  cases h
end Go.Proofs.YtodbabeldolcbaaGreatDoor.PA
end
