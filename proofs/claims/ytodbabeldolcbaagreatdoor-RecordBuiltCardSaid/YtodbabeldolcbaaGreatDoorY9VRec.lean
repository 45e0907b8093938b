/- The functions of the reference of layer 3 compute what record.Check and record.Format compute; the law RecordChecks in plain Lean. Conditions: the numbers of the pairs are of type int. -/
import Derived.Test.YtodbabeldolcbaaGreatDoorY9PAx8
import Derived.Test.YtodbabeldolcbaaGreatDoorY9PAx9
namespace Go.Proofs.YtodbabeldolcbaaGreatDoor.PA
set_option linter.unusedSimpArgs false
set_option linter.unusedVariables false
open Go.RowKit Go.Proofs.YtodbabeldolcbaaGreatDoorW.PrintWords Go.Proofs.YtodbabeldolcbaaGreatDoorW.PrintLast Go.Proofs.YtodbabeldolcbaaGreatDoorW.PrintMore Go.Proofs.YtodbabeldolcbaaGreatDoor.M0
def resF (t : Int) (l : List (List UInt8 × Int × Bool)) : ByteArray × Int × Bool × Bool :=
 match l.find? (fun k => k.2.1 == t) with
 | some k => (Zci k.1, k.2.1, k.2.2, true)
 | none => (⟨#[]⟩, 0, false, false)
def kindsS : List S126 := Zba.map fun k => ⟨Zci k.1, k.2.1, k.2.2⟩
theorem kinds_run : kauditref03_kinds.f = some kindsS := rfl
theorem kindsS_at (i : Nat) (hi : i < 10) : Zbh kindsS (i : Int) = ⟨Zci (Zbb i).1, (Zbb i).2.1, (Zbb i).2.2⟩ := by
 match i, hi with
 | 0, _ | 1, _ | 2, _ | 3, _ | 4, _ | 5, _ | 6, _ | 7, _ | 8, _ | 9, _ => rfl
 | n + 10, h => omega
theorem find_from (t : Int) (m : Nat) : ∀ d i : Nat, i + d = 10 → kauditref03_find.l0 (d + 1 + m) t kindsS (i : Int) = some (resF t (Zba.drop i)) := by
 intro d
 induction d with
 | zero =>
  intro i hi
  obtain rfl : i = 10 := by omega
  rw [show 0 + 1 + m = m + 1 by omega]
  unfold kauditref03_find.l0
  rw [if_neg (by decide)]
  rfl
 | succ d ih =>
  intro i hi
  have h := ih (i + 1) (by omega)
  have hlen : ((kindsS.length : Nat) : Int) = 10 := rfl
  have hw : wrap64 ((i : Int) + 1) = ((i + 1 : Nat) : Int) := by rw [wrap64_id (by omega) (by omega)]; omega
  have hd : Zba.drop i = Zbb i :: Zba.drop (i + 1) := by
   rw [List.drop_eq_getElem_cons (show i < Zba.length by show i < 10; omega), kind_get (by omega)]
  rw [show d + 1 + 1 + m = (d + 1 + m) + 1 by omega]
  unfold kauditref03_find.l0
  rw [hlen, if_pos (by omega), if_pos (by omega), kindsS_at i (by omega), hw, h, hd]
  unfold resF
  rw [List.find?_cons]
  by_cases hq : (Zbb i).2.1 = t
  ·rw [if_pos hq, beq_iff_eq.mpr hq]
  ·rw [if_neg hq, beq_eq_false_iff_ne.mpr hq]
theorem ref_find_run (k : Nat) (hk : 11 ≤ k) (t : Int) : kauditref03_find.f k t = some (resF t Zba) := by
 unfold kauditref03_find.f
 rw [kinds_run, Option.bind_some]
 have := find_from t (k - 11) 10 0 (by omega)
 rw [show 10 + 1 + (k - 11) = k by omega] at this
 exact this
theorem resF_name (t : Int) : (resF t Zba).1 = Zcn t := by
 unfold resF Zcn kindF
 cases Zba.find? (fun k => k.2.1 == t) <;> rfl
theorem resF_found (t : Int) : (resF t Zba).2.2.2 = true ↔ ¬ Zcn t = ⟨#[]⟩ := by
 unfold resF Zcn kindF
 cases h : Zba.find? (fun k => k.2.1 == t) with
 | none => simp [Zci]
 | some k =>
  have hm := List.mem_of_find?_eq_some h
  have key : ∀ k ∈ Zba, ¬ Zci k.1 = ⟨#[]⟩ := by decide +kernel
  simp [key k hm]
theorem number_from (x : ByteArray) (m : Nat) : ∀ d i : Nat, i + d = 10 → kauditref03_Number.l0 (d + 1 + m) x kindsS (i : Int) = some (((Zba.drop i).find? fun k => decide (Zci k.1 = x)).getD ([], 0, false)).2.1 := by
 intro d
 induction d with
 | zero =>
  intro i hi
  obtain rfl : i = 10 := by omega
  rw [show 0 + 1 + m = m + 1 by omega]
  unfold kauditref03_Number.l0
  rw [if_neg (by decide)]
  rfl
 | succ d ih =>
  intro i hi
  have h := ih (i + 1) (by omega)
  have hlen : ((kindsS.length : Nat) : Int) = 10 := rfl
  have hw : wrap64 ((i : Int) + 1) = ((i + 1 : Nat) : Int) := by rw [wrap64_id (by omega) (by omega)]; omega
  have hd : Zba.drop i = Zbb i :: Zba.drop (i + 1) := by
   rw [List.drop_eq_getElem_cons (show i < Zba.length by show i < 10; omega), kind_get (by omega)]
  rw [show d + 1 + 1 + m = (d + 1 + m) + 1 by omega]
  unfold kauditref03_Number.l0
  rw [hlen, if_pos (by omega), if_pos (by omega), kindsS_at i (by omega), hw, h, hd, List.find?_cons]
  have hs := Zbl (Zci (Zbb i).1) x
  by_cases hq : Zci (Zbb i).1 = x
  ·rw [if_pos (by rw [hq]), decide_eq_true hq]
   rfl
  ·rw [decide_eq_false hq] at hs
   rw [if_neg (by simpa using hs), decide_eq_false hq]
theorem number_run (k : Nat) (hk : 11 ≤ k) (x : ByteArray) : kauditref03_Number.f k x = record_Number.f x := by
 unfold kauditref03_Number.f record_Number.f kindF
 rw [kinds_run, Option.bind_some]
 have := number_from x (k - 11) 10 0 (by omega)
 rw [show 10 + 1 + (k - 11) = k by omega] at this
 exact this
theorem inner_run (t tm sr : Int) (l : List S88) (i : Nat) (hi : i < l.length) (hb : l.length ≤ 100) (F : Nat) : ∀ d j : Nat, j + d = i →
  kauditref03_Check.l1 (F + 1 + d) (i : Int) (j : Int) t tm sr l = (if hasN ((l.take i).drop j) (Zat l (i : Int)).f0 then some 33 else kauditref03_Check.l0 F ((i + 1 : Nat) : Int) t tm sr l) := by
 intro d
 induction d with
 | zero =>
  intro j hj
  obtain rfl : j = i := by omega
  have hw : wrap64 ((j : Int) + 1) = ((j + 1 : Nat) : Int) := by rw [wrap64_id (by omega) (by omega)]; omega
  rw [show F + 1 + 0 = F + 1 by omega]
  unfold kauditref03_Check.l1
  rw [if_neg (by omega), hw, List.drop_of_length_le (by rw [List.length_take]; omega)]
  rfl
 | succ d ih =>
  intro j hj
  have h := ih (j + 1) (by omega)
  have hw : wrap64 ((j : Int) + 1) = ((j + 1 : Nat) : Int) := by rw [wrap64_id (by omega) (by omega)]; omega
  have hd : (l.take i).drop j = l[j]'(by omega) :: (l.take i).drop (j + 1) := by
   rw [List.drop_eq_getElem_cons (by rw [List.length_take]; omega), List.getElem_take]
  have hr := rd_get (l := l) (k := j) (by omega)
  rw [show F + 1 + (d + 1) = (F + 1 + d) + 1 by omega]
  unfold kauditref03_Check.l1
  rw [if_pos (by omega), if_pos (by omega), if_pos (by omega), if_pos (by omega), if_pos (by omega), hw, h, hd, hr]
  have hs := Zbl (l[j]'(by omega)).f0 (Zat l (i : Int)).f0
  by_cases hq : (l[j]'(by omega)).f0 = (Zat l (i : Int)).f0
  ·rw [if_pos (by rw [hq])]
   unfold hasN
   rw [List.any_cons, decide_eq_true hq]
   rfl
  ·rw [decide_eq_false hq] at hs
   rw [if_neg (by simpa using hs)]
   unfold hasN
   rw [List.any_cons, decide_eq_false hq, Bool.false_or]
theorem outer_run (t tm sr : Int) (l : List S88) (hb : l.length ≤ 24) : ∀ (m i F : Nat), i + m = l.length → 26 * m + 22 ≤ F → kauditref03_Check.l0 F (i : Int) t tm sr l = some (pairsI (l.take i) (l.drop i)) := by
 intro m
 induction m with
 | zero =>
  intro i F hi hF
  obtain rfl : i = l.length := by omega
  obtain ⟨F, rfl⟩ : ∃ G, F = G + 1 := ⟨F - 1, by omega⟩
  unfold kauditref03_Check.l0
  rw [if_neg (by omega), List.drop_length]
  rfl
 | succ m ih =>
  intro i F hi hF
  obtain ⟨F, rfl⟩ : ∃ G, F = G + 1 := ⟨F - 1, by omega⟩
  have hlt : i < l.length := by omega
  rw [pairsI_at l i hlt]
  unfold kauditref03_Check.l0
  rw [if_pos (by omega), if_pos (by omega), ref_Check_run _ _ _ _ F (by omega), Option.bind_some]
  by_cases hc : Zb1 (L (Zat l (i : Int)).f0) (Zat l (i : Int)).f1 (Zat l (i : Int)).f2 (L (Zat l (i : Int)).f3) = 0
  ·have hin := inner_run t tm sr l i hlt (by omega) (F - i - 1) i 0 (by omega)
   rw [show F - i - 1 + 1 + i = F by omega] at hin
   rw [if_pos hc, if_pos hc]
   refine Eq.trans hin ?_
   rw [List.drop_zero, ih (i + 1) (F - i - 1) (by omega) (by omega)]
   split <;> rfl
  ·rw [if_neg hc, if_neg hc]
theorem ref03_Check_j (k : Nat) (hk : 700 ≤ k) (b : Bool) (t tm sr : Int) (l : List S88) : kauditref03_Check.j0 k b t tm sr l = some (if b then 31 else if 24 < l.length then 32 else pairsI [] l) := by
 obtain ⟨k, rfl⟩ : ∃ G, k = G + 1 := ⟨k - 1, by omega⟩
 unfold kauditref03_Check.j0
 cases b with
 | true => rfl
 | false =>
  simp only [Bool.false_eq_true, if_false]
  by_cases h : 24 < l.length
  ·rw [if_pos (by omega), if_pos h]
  ·rw [if_neg (by omega), if_neg h]
   exact outer_run t tm sr l (by omega) l.length 0 k (by omega) (by omega)
theorem ref03_Check_run (k : Nat) (hk : 700 ≤ k) (t tm sr : Int) (l : List S88) : kauditref03_Check.f k t tm sr l = some (checkR t tm sr l) := by
 unfold kauditref03_Check.f checkR
 rw [ref_find_run k (by omega), Option.bind_some]
 by_cases hn : Zcn t = ⟨#[]⟩
 ·rw [if_pos hn, if_neg (fun h => (resF_found t).1 h hn)]
 ·rw [if_neg hn, if_pos ((resF_found t).2 hn)]
  simp only [ref03_Check_j k hk]
  by_cases h1 : tm < 0
  ·rw [if_pos h1, if_pos h1]; rfl
  ·rw [if_neg h1, if_neg h1]
   by_cases h2 : 1099511627776 < tm
   ·rw [if_pos (by omega), if_pos h2]; rfl
   ·rw [if_neg (by omega), if_neg h2]
    by_cases h3 : sr < 0
    ·rw [if_pos h3, if_pos h3]; rfl
    ·rw [if_neg h3, if_neg h3]
     by_cases h4 : 1073741824 < sr
     ·rw [if_pos h4, decide_eq_true (by omega)]; rfl
     ·rw [if_neg h4, decide_eq_false (by omega)]; rfl
theorem dec_thousand (m : Nat) (hm : m < 1000) : Lib.decDigits (1000 + m) = [49, UInt8.ofNat (48 + m / 100), UInt8.ofNat (48 + m / 10 % 10), UInt8.ofNat (48 + m % 10)] := by
 rw [Lib.decDigits, dif_neg (by omega), show (1000 + m) / 10 = 100 + m / 10 by omega, show (1000 + m) % 10 = m % 10 by omega,
  Lib.decDigits, dif_neg (by omega), show (100 + m / 10) / 10 = 10 + m / 100 by omega, show (100 + m / 10) % 10 = m / 10 % 10 by omega,
  Lib.decDigits_two (by omega) (by omega), show (10 + m / 100) / 10 = 1 by omega, show (10 + m / 100) % 10 = m / 100 by omega]
 rfl
theorem dec_run (n : Int) (h0 : 0 ≤ n) (h1 : n ≤ 9223372036854775807) : kauditref01_Decimal.f n = some ⟨(Lib.decDigits n.toNat).toArray⟩ := by
 unfold kauditref01_Decimal.f; rw [if_pos ⟨h0, h1⟩]
theorem three_run (n : Int) (h0 : 0 ≤ n) (h1 : n < 1000) : kauditref03_three.f n = some ⟨((Lib.itoa (1000 + n)).drop 1).toArray⟩ := by
 obtain ⟨m, rfl⟩ := Int.eq_ofNat_of_zero_le h0
 have hm : m < 1000 := by omega
 have e1 : wrap64 (Int.tdiv (m : Int) 100) = ((m / 100 : Nat) : Int) := by
  rw [Int.tdiv_eq_ediv_of_nonneg h0, wrap64_id (by omega) (by omega)]; omega
 have e2 : Int.tmod (wrap64 (Int.tdiv (m : Int) 10)) 10 = ((m / 10 % 10 : Nat) : Int) := by
  rw [Int.tdiv_eq_ediv_of_nonneg h0, wrap64_id (by omega) (by omega), Int.tmod_eq_emod_of_nonneg (by omega)]; omega
 have e3 : Int.tmod (m : Int) 10 = ((m % 10 : Nat) : Int) := by
  rw [Int.tmod_eq_emod_of_nonneg h0]; omega
 unfold kauditref03_three.f
 rw [e1, e2, e3, dec_run _ (by omega) (by omega), dec_run _ (by omega) (by omega), dec_run _ (by omega) (by omega)]
 simp only [Option.bind_some, Int.toNat_natCast]
 rw [Lib.decDigits_one (show m / 100 < 10 by omega), Lib.decDigits_one (show m / 10 % 10 < 10 by omega), Lib.decDigits_one (show m % 10 < 10 by omega)]
 rw [if_pos (by simp only [Zbk, List.length_cons, List.length_nil]; omega), if_pos (by simp only [ByteArray.size_append, Zbk, List.length_cons, List.length_nil]; omega)]
 refine congrArg some (ext_L ?_)
 rw [Zbm _ (by omega), show (1000 + (m : Int)).toNat = 1000 + m by omega, dec_thousand m hm, L_append, L_append, L_mk, L_mk, L_mk, L_mk]
 rfl
theorem fmt_loop (t tm sr : Int) (l : List S88) (hz : pairsI [] l = 0) (hn : Zce l = true) (hs : shortN l = true) (hb : l.length ≤ 24) : ∀ (m i F : Nat) (X : ByteArray), i + m = l.length → m + 702 ≤ F → X.size ≤ 200 + 1401 * i →
  kauditref03_Format.l0 F X (i : Int) t tm sr l = some (⟨(L X ++ Zbt (l.drop i)).toArray⟩, 0) := by
 intro m
 induction m with
 | zero =>
  intro i F X hi hF hX
  obtain rfl : i = l.length := by omega
  obtain ⟨F, rfl⟩ : ∃ G, F = G + 1 := ⟨F - 1, by omega⟩
  unfold kauditref03_Format.l0
  rw [if_neg (by omega), List.drop_length]
  refine congrArg (fun z => some (z, (0 : Int))) (ext_L ?_)
  rw [show Zbt ([] : List S88) = [] from rfl, List.append_nil]
  exact (L_mk (L X)).symm
 | succ m ih =>
  intro i F X hi hF hX
  obtain ⟨F, rfl⟩ : ∃ G, F = G + 1 := ⟨F - 1, by omega⟩
  have hlt : i < l.length := by omega
  have hw : wrap64 ((i : Int) + 1) = ((i + 1 : Nat) : Int) := by rw [wrap64_id (by omega) (by omega)]; omega
  have hnk := numsOK_at hn hlt
  have hck := pairsI_zero hz i hlt
  have hsz := formL_len hck hnk.1 hnk.2
  have hr := rd_get (l := l) hlt
  unfold kauditref03_Format.l0
  rw [if_pos (by omega), if_pos (by omega), ref_Format_run _ _ _ _ (shortN_at hs hlt) hnk.1 hnk.2 F (by omega), Option.bind_some]
  unfold Zbn
  rw [if_pos hck]
  have z1 : ((⟨(Zcj (L (Zat l (i : Int)).f0) (Zat l (i : Int)).f1 (Zat l (i : Int)).f2 (L (Zat l (i : Int)).f3)).toArray⟩ : ByteArray)).size ≤ 1400 := by rw [Zbk]; exact hsz
  have z2 : ((⟨#[32]⟩ : ByteArray)).size = 1 := rfl
  dsimp only
  rw [if_pos (by omega), if_pos (by rw [ByteArray.size_append]; omega), hw, ih (i + 1) F _ (by omega) (by omega) (by rw [ByteArray.size_append, ByteArray.size_append]; omega)]
  refine congrArg (fun z => some ((⟨z⟩ : ByteArray), (0 : Int))) (congrArg List.toArray ?_)
  have hd : Zbt (l.drop i) = (32 :: Zcj (L (Zat l (i : Int)).f0) (Zat l (i : Int)).f1 (Zat l (i : Int)).f2 (L (Zat l (i : Int)).f3)) ++ Zbt (l.drop (i + 1)) := by
   rw [List.drop_eq_getElem_cons hlt, hr]
   simp only [Zbt, List.flatMap_cons]
  rw [hd, L_append, L_append, L_mk, List.append_assoc]
  rfl
theorem ref03_Format_run (k : Nat) (hk : 800 ≤ k) (t tm sr : Int) (l : List S88) (hn : Zce l = true) (hs : shortN l = true) : kauditref03_Format.f k t tm sr l = some (Zby t tm sr l) := by
 unfold kauditref03_Format.f Zby
 rw [ref03_Check_run k (by omega), Option.bind_some]
 by_cases hc : checkR t tm sr l = 0
 case neg => rw [if_neg hc, if_neg hc]
 rw [if_pos hc, if_pos hc]
 obtain ⟨t0, t1, s0, s1, hl24, hp0⟩ := checkR_ok hc
 obtain ⟨m0, m1⟩ := tmod1000 tm t0
 have hd0 : 0 ≤ Int.tdiv tm 1000 := by rw [Int.tdiv_eq_ediv_of_nonneg t0]; omega
 have hd1 : Int.tdiv tm 1000 ≤ 9223372036854775807 := by rw [Int.tdiv_eq_ediv_of_nonneg t0]; omega
 unfold kauditref03_Name.f
 rw [ref_find_run k (by omega), Option.bind_some, Option.bind_some, resF_name, wrap64_id (by omega) hd1, dec_run _ hd0 hd1, three_run _ m0 m1, dec_run _ s0 (by omega)]
 simp only [Option.bind_some]
 obtain ⟨nb, hnb⟩ : ∃ nb, nb = Zcn t := ⟨_, rfl⟩
 obtain ⟨q1, hq1⟩ : ∃ q : ByteArray, q = ⟨(Lib.decDigits (Int.tdiv tm 1000).toNat).toArray⟩ := ⟨_, rfl⟩
 obtain ⟨pt, hpt⟩ : ∃ q : ByteArray, q = ⟨((Lib.itoa (1000 + Int.tmod tm 1000)).drop 1).toArray⟩ := ⟨_, rfl⟩
 obtain ⟨q2, hq2⟩ : ∃ q : ByteArray, q = ⟨(Lib.decDigits sr.toNat).toArray⟩ := ⟨_, rfl⟩
 have z1 : nb.size ≤ 8 := by rw [hnb]; exact name_le _
 have z2 : q1.size ≤ 21 := by rw [hq1, Zbk, ← Zbm _ hd0]; exact Zbu _ (by omega) hd1
 have z3 : q2.size ≤ 21 := by rw [hq2, Zbk, ← Zbm _ s0]; exact Zbu _ (by omega) (by omega)
 have z4 : pt.size ≤ 21 := by rw [hpt, Zbk, List.length_drop]; have := Zbu (1000 + Int.tmod tm 1000) (by omega) (by omega); omega
 rw [← hnb, ← hq1, ← hpt, ← hq2]
 have y1 : ((⟨#[116, 121, 112, 101, 61]⟩ : ByteArray)).size = 5 := rfl
 have y2 : ((⟨#[32, 109, 115, 103, 61, 97, 117, 100, 105, 116, 40]⟩ : ByteArray)).size = 11 := rfl
 have y3 : ((⟨#[46]⟩ : ByteArray)).size = 1 := rfl
 have y4 : ((⟨#[58]⟩ : ByteArray)).size = 1 := rfl
 have y5 : ((⟨#[41, 58]⟩ : ByteArray)).size = 2 := rfl
 rw [if_pos (by omega), if_pos (by simp only [ByteArray.size_append]; omega), if_pos (by simp only [ByteArray.size_append]; omega), if_pos (by simp only [ByteArray.size_append]; omega), if_pos (by simp only [ByteArray.size_append]; omega),
  if_pos (by simp only [ByteArray.size_append]; omega), if_pos (by simp only [ByteArray.size_append]; omega), if_pos (by simp only [ByteArray.size_append]; omega)]
 have hx := fmt_loop t tm sr l hp0 hn hs hl24 l.length 0 k (((((((((⟨#[116, 121, 112, 101, 61]⟩ : ByteArray) ++ nb) ++ (⟨#[32, 109, 115, 103, 61, 97, 117, 100, 105, 116, 40]⟩ : ByteArray)) ++ q1) ++ (⟨#[46]⟩ : ByteArray)) ++ pt) ++ (⟨#[58]⟩ : ByteArray)) ++ q2) ++ (⟨#[41, 58]⟩ : ByteArray)) (by omega) (by omega) (by simp only [ByteArray.size_append]; omega)
 refine Eq.trans hx ?_
 refine congrArg (fun z => some ((⟨z⟩ : ByteArray), (0 : Int))) (congrArg List.toArray ?_)
 unfold lineL headL
 rw [List.drop_zero, hnb, hq1, hpt, hq2, ← Zbm _ hd0, ← Zbm _ s0]
 simp only [L_append, L_mk, L_lit]
theorem awake03_run : kauditlaw03_awake.f = some true := by decide +kernel
theorem agrees_run (k : Nat) (hk : 800 ≤ k) (t tm sr : Int) (l : List S88) (hn : Zce l = true) (hs : shortN l = true) : kauditlaw03_agrees.f k t tm sr l = some true := by
 unfold kauditlaw03_agrees.f
 rw [ref03_Format_run k hk t tm sr l hn hs, ref03_Check_run k (by omega)]
 unfold record_Format.f record_Check.f
 rw [if_pos (by rw [hs, hn]; rfl), if_pos hs]
 simp only [Option.bind_some]
 simp only [if_true, beq_self_eq_true]
end Go.Proofs.YtodbabeldolcbaaGreatDoor.PA
