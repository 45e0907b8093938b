/- The line of a record tells the record: plain lemmas (no program in them). Conditions: each lemma names its own. -/
import Derived.Test.YtodbabeldolcbaaGreatDoorY9EForm
import Derived.Test.YtodbabeldolcbaaGreatDoorY9VMake
import Derived.Lib.Bytealg
section
namespace Go.Proofs.YtodbabeldolcbaaGreatDoor.PA
set_option linter.unusedSimpArgs false
set_option linter.unusedVariables false
open Go.RowKit Go.Proofs.YtodbabeldolcbaaGreatDoorW.PrintWords Go.Proofs.YtodbabeldolcbaaGreatDoorW.PrintLast Go.Proofs.YtodbabeldolcbaaGreatDoorW.PrintMore Go.Proofs.YtodbabeldolcbaaGreatDoor.M0
theorem split_at (c : UInt8) : ∀ {a b x y : List UInt8}, c ∉ a → c ∉ b → a ++ c :: x = b ++ c :: y → a = b ∧ x = y
 | [], [], _, _, _, _, h => ⟨rfl, by simpa using h⟩
 | [], q :: b, _, _, _, hb, h => by
  simp only [List.nil_append, List.cons_append, List.cons.injEq] at h
  exact absurd h.1 (fun e => hb (by rw [e]; exact List.mem_cons_self ..))
 | q :: a, [], _, _, ha, _, h => by
  simp only [List.nil_append, List.cons_append, List.cons.injEq] at h
  exact absurd h.1.symm (fun e => ha (by rw [e]; exact List.mem_cons_self ..))
 | p :: a, q :: b, x, y, ha, hb, h => by
  simp only [List.cons_append, List.cons.injEq] at h
  obtain ⟨rfl, h⟩ := h
  obtain ⟨rfl, e⟩ := split_at c (fun hm => ha (List.mem_cons_of_mem _ hm)) (fun hm => hb (List.mem_cons_of_mem _ hm)) h
  exact ⟨rfl, e⟩
theorem split_end (c : UInt8) : ∀ {a b x y : List UInt8}, c ∉ a → c ∉ b → (x = [] ∨ ∃ r, x = c :: r) → (y = [] ∨ ∃ r, y = c :: r) → a ++ x = b ++ y → a = b ∧ x = y
 | [], [], _, _, _, _, _, _, h => ⟨rfl, by simpa using h⟩
 | [], q :: b, x, _, _, hb, hx, _, h => by
  rcases hx with rfl | ⟨r, rfl⟩
  ·cases h
  ·simp only [List.nil_append, List.cons_append, List.cons.injEq] at h
   exact absurd h.1 (fun e => hb (by rw [e]; exact List.mem_cons_self ..))
 | q :: a, [], _, y, ha, _, _, hy, h => by
  rcases hy with rfl | ⟨r, rfl⟩
  ·cases h
  ·simp only [List.nil_append, List.cons_append, List.cons.injEq] at h
   exact absurd h.1.symm (fun e => ha (by rw [e]; exact List.mem_cons_self ..))
 | p :: a, q :: b, x, y, ha, hb, hx, hy, h => by
  simp only [List.cons_append, List.cons.injEq] at h
  obtain ⟨rfl, h⟩ := h
  obtain ⟨rfl, e⟩ := split_end c (fun hm => ha (List.mem_cons_of_mem _ hm)) (fun hm => hb (List.mem_cons_of_mem _ hm)) hx hy h
  exact ⟨rfl, e⟩
def Pr (l : List UInt8) : Prop := ∀ b ∈ l, 33 ≤ b.toNat ∧ b.toNat ≤ 126
theorem Pr.append {a b : List UInt8} (ha : Pr a) (hb : Pr b) : Pr (a ++ b) := fun x hx => (List.mem_append.1 hx).elim (ha x) (hb x)
theorem Pr.cons {a : UInt8} {b : List UInt8} (ha : 33 ≤ a.toNat ∧ a.toNat ≤ 126) (hb : Pr b) : Pr (a :: b) := fun x hx => by
 rcases List.mem_cons.1 hx with rfl | hx
 ·exact ha
 ·exact hb x hx
theorem Pr.nospace {l : List UInt8} (h : Pr l) : (32 : UInt8) ∉ l := fun hm => absurd (h _ hm).1 (by decide)
theorem chOK_range {f : Bool} {b : Nat} (h : chOK f b = true) : 48 ≤ b ∧ b ≤ 122 := by
 unfold chOK at h
 simp only [Bool.or_eq_true, Bool.and_eq_true, decide_eq_true_eq, beq_iff_eq] at h
 omega
theorem okL_pr : ∀ (f : Bool) (l : List UInt8), okL f l = true → Pr l
 | _, [], _ => fun b hb => by cases hb
 | f, c :: l, h => by
  rw [okL, Bool.and_eq_true] at h
  have := chOK_range h.1
  exact Pr.cons (by omega) (okL_pr false l h.2)
theorem nameL_pr {l : List UInt8} (h : nameL l = true) : Pr l := by
 unfold nameL at h
 rw [Bool.and_eq_true] at h
 exact okL_pr true l h.1
def Dg (l : List UInt8) : Prop := ∀ b ∈ l, 48 ≤ b.toNat ∧ b.toNat ≤ 57
theorem dec_dg (u : Nat) : Dg (Lib.decDigits u) := by
 induction u using Nat.strongRecOn with
 | _ u ih =>
  rw [Lib.decDigits]
  by_cases h : u < 10
  ·rw [dif_pos h]
   intro b hb
   obtain rfl := List.mem_singleton.1 hb
   rw [UInt8.toNat_ofNat']; omega
  ·rw [dif_neg h]
   intro b hb
   rcases List.mem_append.1 hb with hb | hb
   ·exact ih (u / 10) (by omega) b hb
   ·obtain rfl := List.mem_singleton.1 hb
    rw [UInt8.toNat_ofNat']; omega
theorem itoa_dg {n : Int} (h : 0 ≤ n) : Dg (Lib.itoa n) := by rw [Zbm n h]; exact dec_dg _
theorem Dg.no {l : List UInt8} (h : Dg l) (c : UInt8) (hc : c.toNat < 48 ∨ 57 < c.toNat) : c ∉ l := fun hm => by have := h c hm; omega
theorem Dg.pr {l : List UInt8} (h : Dg l) : Pr l := fun b hb => by have := h b hb; omega
theorem itoa_pr (n : Int) : Pr (Lib.itoa n) := by
 by_cases hn : 0 ≤ n
 ·exact (itoa_dg hn).pr
 ·rw [itoa_lt n (by omega)]
  exact Pr.cons (by decide) (dec_dg _).pr
theorem hexL_pr : ∀ l : List UInt8, Pr (hexL l)
 | [] => fun b hb => by cases hb
 | c :: l => by
  rw [hexL_cons]
  have hc : c.toNat < 256 := c.toNat_lt
  have h1 := digs_range (c.toNat / 16) (by omega)
  have h2 := digs_range (c.toNat % 16) (by omega)
  refine Pr.cons ?_ (Pr.cons ?_ (hexL_pr l)) <;> (rw [UInt8.toNat_ofNat']; omega)
theorem quoteL_pr (l : List UInt8) : Pr (quoteL l) := by
 unfold quoteL
 split
 ·rename_i h
  refine Pr.cons (by decide) (Pr.append ?_ (Pr.cons (by decide) (fun b hb => by cases hb)))
  unfold safeL at h
  rw [List.all_eq_true] at h
  intro b hb
  have := h b hb
  simp only [Bool.not_eq_true', Bool.or_eq_false_iff, decide_eq_false_iff_not] at this
  omega
 ·exact Pr.cons (by decide) (hexL_pr l)
theorem valueL_pr (k m : Int) (t : List UInt8) : Pr (valueL k m t) := by
 unfold valueL
 split
 ·exact itoa_pr m
 ·split
  ·exact quoteL_pr t
  ·intro b hb
   simp only [List.mem_cons, List.not_mem_nil, or_false] at hb
   rcases hb with rfl | rfl | rfl | rfl | rfl | rfl <;> decide
theorem formL_pr {n t : List UInt8} {k m : Int} (h : Zb1 n k m t = 0) : Pr (Zcj n k m t) :=
 (nameL_pr (Zb0 h).1).append (Pr.cons (by decide) (valueL_pr k m t))
def goodP (l : List S88) : Prop := ∀ p ∈ l, Zb1 (L p.f0) p.f1 p.f2 (L p.f3) = 0
theorem Zb4 (p : S88) (l : List S88) : Zbt (p :: l) = 32 :: (Zcj (L p.f0) p.f1 p.f2 (L p.f3) ++ Zbt l) := by simp [Zbt]
theorem restL_head (l : List S88) : Zbt l = [] ∨ ∃ r, Zbt l = 32 :: r := by
 cases l with
 | nil => exact .inl rfl
 | cons p l => exact .inr ⟨_, Zb4 p l⟩
theorem restL_inj : ∀ {a b : List S88}, goodP a → goodP b → Zbt a = Zbt b → a = b
 | [], [], _, _, _ => rfl
 | [], q :: b, _, _, h => by rw [Zb4] at h; cases h
 | p :: a, [], _, _, h => by rw [Zb4] at h; cases h
 | p :: a, q :: b, ha, hb, h => by
  rw [Zb4, Zb4] at h
  have hp := ha p (List.mem_cons_self ..)
  have hq := hb q (List.mem_cons_self ..)
  obtain ⟨e1, e2⟩ := split_end 32 (formL_pr hp).nospace (formL_pr hq).nospace (restL_head a) (restL_head b) (List.cons.inj h).2
  obtain ⟨c0, c1, c2, c3⟩ := formL_inj hp hq e1
  rw [restL_inj (fun x hx => ha x (List.mem_cons_of_mem _ hx)) (fun x hx => hb x (List.mem_cons_of_mem _ hx)) e2]
  obtain ⟨p0, p1, p2, p3⟩ := p
  obtain ⟨q0, q1, q2, q3⟩ := q
  simp only at c0 c1 c2 c3
  rw [ext_L c0, c1, c2, ext_L c3]
theorem nameK_no32 (t : Int) : (32 : UInt8) ∉ L (Zcn t) := by
 have key : ∀ k : Fin 10, (32 : UInt8) ∉ L (Zci (Zbb k.val).1) := by decide +kernel
 unfold Zcn
 rcases idx_cases (fun k => k.2.1 == t) with ⟨k, hk, _, h⟩ | ⟨_, h⟩
 ·rw [h]; exact key ⟨k, hk⟩
 ·rw [h]; decide
theorem nameK_inj {s t : Int} (hs : ¬ Zcn s = ⟨#[]⟩) (h : Zcn s = Zcn t) : s = t := by
 have key : ∀ k ∈ Zba, ∀ k' ∈ Zba, Zci k.1 = Zci k'.1 → k.2.1 = k'.2.1 := by decide +kernel
 have e0 : Zci ([] : List UInt8) = ⟨#[]⟩ := rfl
 unfold Zcn kindF at h hs
 cases h1 : Zba.find? (fun k => k.2.1 == s) with
 | none => rw [h1] at hs; exact absurd e0 hs
 | some a =>
  cases h2 : Zba.find? (fun k => k.2.1 == t) with
  | none => rw [h] at hs; rw [h2] at hs; exact absurd e0 hs
  | some b =>
   rw [h1, h2] at h
   have ea := List.find?_some h1
   have eb := List.find?_some h2
   have := key a (List.mem_of_find?_eq_some h1) b (List.mem_of_find?_eq_some h2) h
   simp only [beq_iff_eq] at ea eb
   rw [← ea, ← eb, this]
theorem thousand_dg (n : Int) (h0 : 0 ≤ n) : Dg ((Lib.itoa (1000 + n)).drop 1) := fun b hb => itoa_dg (n := 1000 + n) (by omega) b (List.mem_of_mem_drop hb)
theorem itoa_one (m : Nat) (hm : m < 1000) : Lib.itoa (1000 + (m : Int)) = 49 :: (Lib.itoa (1000 + (m : Int))).drop 1 := by
 rw [Zbm _ (by omega), show (1000 + (m : Int)).toNat = 1000 + m by omega]
 rw [Lib.decDigits, dif_neg (by omega), show (1000 + m) / 10 = 100 + m / 10 by omega,
  Lib.decDigits, dif_neg (by omega), show (100 + m / 10) / 10 = 10 + m / 100 by omega,
  Lib.decDigits_two (by omega) (by omega), show (10 + m / 100) / 10 = 1 by omega]
 rfl
theorem tail_inj {x y : Int} (hx : 0 ≤ x) (hx2 : x < 1000) (hy : 0 ≤ y) (hy2 : y < 1000) (h : (Lib.itoa (1000 + x)).drop 1 = (Lib.itoa (1000 + y)).drop 1) : x = y := by
 obtain ⟨m, rfl⟩ := Int.eq_ofNat_of_zero_le hx
 obtain ⟨n, rfl⟩ := Int.eq_ofNat_of_zero_le hy
 have e : Lib.itoa (1000 + (m : Int)) = Lib.itoa (1000 + (n : Int)) := by rw [itoa_one m (by omega), itoa_one n (by omega), h]
 have := itoa_inj e
 omega
theorem parts_inj {a a' b b' c c' d d' r r' : List UInt8} (ha : (32 : UInt8) ∉ a) (ha' : (32 : UInt8) ∉ a') (hb : Dg b) (hb' : Dg b') (hc : Dg c) (hc' : Dg c') (hd : Dg d) (hd' : Dg d')
  (h : [116, 121, 112, 101, 61] ++ a ++ [32, 109, 115, 103, 61, 97, 117, 100, 105, 116, 40] ++ b ++ [46] ++ c ++ [58] ++ d ++ [41, 58] ++ r = [116, 121, 112, 101, 61] ++ a' ++ [32, 109, 115, 103, 61, 97, 117, 100, 105, 116, 40] ++ b' ++ [46] ++ c' ++ [58] ++ d' ++ [41, 58] ++ r') :
  a = a' ∧ b = b' ∧ c = c' ∧ d = d' ∧ r = r' := by
 simp only [List.append_assoc, List.cons_append, List.nil_append] at h
 simp only [List.cons.injEq, true_and] at h
 obtain ⟨e1, h⟩ := split_at 32 ha ha' h
 simp only [List.cons.injEq, true_and] at h
 obtain ⟨e2, h⟩ := split_at 46 (hb.no _ (by decide)) (hb'.no _ (by decide)) h
 obtain ⟨e3, h⟩ := split_at 58 (hc.no _ (by decide)) (hc'.no _ (by decide)) h
 obtain ⟨e4, h⟩ := split_at 41 (hd.no _ (by decide)) (hd'.no _ (by decide)) h
 exact ⟨e1, e2, e3, e4, (List.cons.inj h).2⟩
theorem checkR_name {t tm sr : Int} {l : List S88} (h : checkR t tm sr l = 0) : ¬ Zcn t = ⟨#[]⟩ := by
 intro e
 unfold checkR at h
 rw [if_pos e] at h
 omega
theorem line_inj {t tm sr t' tm' sr' : Int} {l l' : List S88} (h : checkR t tm sr l = 0) (h' : checkR t' tm' sr' l' = 0) (e : lineL t tm sr l = lineL t' tm' sr' l') : t = t' ∧ tm = tm' ∧ sr = sr' ∧ l = l' := by
 obtain ⟨t0, t1, s0, s1, _, hp⟩ := checkR_ok h
 obtain ⟨t0', t1', s0', s1', _, hp'⟩ := checkR_ok h'
 have hd := Int.tdiv_eq_ediv_of_nonneg t0 (b := 1000)
 have hm := Int.tmod_eq_emod_of_nonneg t0 (b := 1000)
 have hd' := Int.tdiv_eq_ediv_of_nonneg t0' (b := 1000)
 have hm' := Int.tmod_eq_emod_of_nonneg t0' (b := 1000)
 unfold lineL headL at e
 rw [hd, hm, hd', hm'] at e
 obtain ⟨e1, e2, e3, e4, e5⟩ := parts_inj (nameK_no32 t) (nameK_no32 t') (itoa_dg (by omega)) (itoa_dg (by omega)) (thousand_dg _ (by omega)) (thousand_dg _ (by omega)) (itoa_dg s0) (itoa_dg s0') e
 have q1 := nameK_inj (checkR_name h) (ext_L e1)
 have q2 := itoa_inj e2
 have q3 := tail_inj (by omega) (by omega) (by omega) (by omega) e3
 have q4 := itoa_inj e4
 have q5 := restL_inj (Zcm l [] hp) (Zcm l' [] hp') e5
 exact ⟨q1, by omega, q4, q5⟩
end Go.Proofs.YtodbabeldolcbaaGreatDoor.PA
end
/- Plain lemmas: cutting a text at a mark; reading a decimal text back. No program in them; conditions: each lemma names its own. -/
section
namespace Go.Proofs.YtodbabeldolcbaaGreatDoor.PA
set_option linter.unusedSimpArgs false
set_option linter.unusedVariables false
open Go.RowKit Go.Proofs.YtodbabeldolcbaaGreatDoorW.PrintWords Go.Proofs.YtodbabeldolcbaaGreatDoorW.PrintLast Go.Proofs.YtodbabeldolcbaaGreatDoorW.PrintMore Go.Proofs.YtodbabeldolcbaaGreatDoor.M0
theorem prefix_self (a r : List UInt8) : a.isPrefixOf (a ++ r) = true := by
 rw [List.isPrefixOf_iff_prefix]; exact List.prefix_append a r
theorem index_at (c : UInt8) (m : List UInt8) : ∀ (a r : List UInt8), c ∉ a → Lib.index (a ++ ((c :: m) ++ r)) (c :: m) = (a.length : Int)
 | [], r, _ => by
  show Lib.index (c :: (m ++ r)) (c :: m) = 0
  have h := prefix_self (c :: m) r
  rw [List.cons_append] at h
  rw [Lib.index, if_pos h]
 | q :: a, r, h => by
  have hq : ¬ c = q := fun e => h (by rw [e]; exact List.mem_cons_self ..)
  have ih := index_at c m a r (fun hm => h (List.mem_cons_of_mem _ hm))
  have hp : ¬ (c :: m).isPrefixOf (q :: (a ++ ((c :: m) ++ r))) = true := by
   intro hh
   rw [List.isPrefixOf_iff_prefix, List.cons_prefix_cons] at hh
   exact hq hh.1
  rw [List.cons_append, Lib.index, if_neg hp, ih, if_neg (by rw [beq_iff_eq]; omega), List.length_cons]
  omega
theorem cut_at (c : UInt8) (m a r : List UInt8) (h : c ∉ a) : Lib.cut (a ++ ((c :: m) ++ r)) (c :: m) = (a, r, true) := by
 unfold Lib.cut
 rw [index_at c m a r h, if_pos (by omega), Int.toNat_natCast, List.take_left, ← List.append_assoc, List.drop_left' (by rw [List.length_append])]
def Zbc (acc : Nat) (l : List UInt8) : Nat := l.foldl (fun a b => 10 * a + (b.toNat - 48)) acc
theorem fold10_ge : ∀ (l : List UInt8) (acc : Nat), acc ≤ Zbc acc l
 | [], acc => Nat.le_refl _
 | b :: l, acc => by
  have := fold10_ge l (10 * acc + (b.toNat - 48))
  show acc ≤ Zbc (10 * acc + (b.toNat - 48)) l
  omega
theorem parse_fold : ∀ (l : List UInt8) (acc : Nat), Dg l → Zbc acc l ≤ 9223372036854775808 → Lib.parseUint10 acc l = .ok (Zbc acc l)
 | [], acc, _, _ => rfl
 | b :: l, acc, hd, hb => by
  have h1 := hd b (List.mem_cons_self ..)
  have h2 := fold10_ge l (10 * acc + (b.toNat - 48))
  have e : Zbc acc (b :: l) = Zbc (10 * acc + (b.toNat - 48)) l := rfl
  rw [e] at hb ⊢
  have h3 := parse_fold l (10 * acc + (b.toNat - 48)) (fun x hx => hd x (List.mem_cons_of_mem _ hx)) hb
  rw [Lib.parseUint10, if_pos h1, if_neg (by omega), if_neg (by omega), show acc * 10 + (b.toNat - 48) = 10 * acc + (b.toNat - 48) by omega]
  exact h3
theorem mag_dec (u : Nat) (h : u ≤ 9223372036854775808) : Lib.parseMag (Lib.decDigits u) = .ok u := by
 obtain ⟨b, l, hl, _, _⟩ := dec_head u
 have e : Zbc 0 (Lib.decDigits u) = u := Zb5 u
 unfold Lib.parseMag
 rw [if_neg (by rw [hl]; exact List.cons_ne_nil _ _), parse_fold _ _ (dec_dg u) (by rw [e]; exact h), e]
theorem atoi_itoa (n : Int) (h0 : -9223372036854775808 ≤ n) (h1 : n ≤ 9223372036854775807) : Lib.atoiAll (Lib.itoa n) = .ok n := by
 by_cases hn : 0 ≤ n
 ·rw [Zbm n hn]
  obtain ⟨b, l, hl, c1, c2⟩ := dec_head n.toNat
  have hm := mag_dec n.toNat (by omega)
  rw [hl] at hm ⊢
  unfold Lib.atoiAll
  simp only
  rw [if_neg (by omega), hm]
  simp only
  rw [if_neg (by omega), if_neg (by omega), if_neg (by omega)]
  congr 1
  omega
 ·rw [itoa_lt n (by omega)]
  have hm := mag_dec n.natAbs (by omega)
  unfold Lib.atoiAll
  simp only
  have e45 : (45 : UInt8).toNat = 45 := rfl
  rw [if_pos (.inr e45), hm]
  simp only
  rw [if_neg (fun h => h.1 e45), if_neg (by omega), if_pos e45]
  congr 1
  omega
theorem atoi_no (c : UInt8) (r : List UInt8) (h : (c.toNat < 48 ∨ 57 < c.toNat) ∧ c.toNat ≠ 43 ∧ c.toNat ≠ 45) (v : Int) : ¬ Lib.atoiAll (c :: r) = .ok v := by
 have hp : Lib.parseMag (c :: r) = .syntax := by
  unfold Lib.parseMag
  rw [if_neg (List.cons_ne_nil _ _), Lib.parseUint10, if_neg (by omega)]
 unfold Lib.atoiAll
 simp only
 rw [if_neg (by omega), hp]
 intro e
 cases e
theorem atoi_range {l : List UInt8} {v : Int} (h : Lib.atoiAll l = .ok v) : -9223372036854775808 ≤ v ∧ v ≤ 9223372036854775807 := by
 unfold Lib.atoiAll at h
 rcases l with _ | ⟨c, r⟩
 ·cases h
 ·simp only at h
  split at h
  ·cases h
  ·cases h
  ·split at h
   ·cases h
   ·split at h
    ·cases h
    ·injection h with h
     split at h <;> omega
end Go.Proofs.YtodbabeldolcbaaGreatDoor.PA
end
/- What Parse of a text of a pair returns: the one pair that Format writes so, if there is one. Plain lemmas; conditions: each lemma names its own. -/
section
namespace Go.Proofs.YtodbabeldolcbaaGreatDoor.PA
set_option linter.unusedSimpArgs false
set_option linter.unusedVariables false
open Go.RowKit Go.Proofs.YtodbabeldolcbaaGreatDoorW.PrintWords Go.Proofs.YtodbabeldolcbaaGreatDoorW.PrintLast Go.Proofs.YtodbabeldolcbaaGreatDoorW.PrintMore Go.Proofs.YtodbabeldolcbaaGreatDoor.M0
def numP (p : S88) : Prop := -9223372036854775808 ≤ p.f2 ∧ p.f2 ≤ 9223372036854775807
def Forms (p : S88) (s : ByteArray) : Prop := numP p ∧ Zb1 (L p.f0) p.f1 p.f2 (L p.f3) = 0 ∧ L s = Zcj (L p.f0) p.f1 p.f2 (L p.f3)
theorem Forms.format {p : S88} {s : ByteArray} (h : Forms p s) : Zbn p.f0 p.f1 p.f2 p.f3 = (s, 0) := by
 unfold Zbn
 rw [if_pos h.2.1, ← h.2.2]
 rfl
theorem Forms.of {p : S88} {s : ByteArray} (hn : numP p) (h : Zbn p.f0 p.f1 p.f2 p.f3 = (s, 0)) : Forms p s := by
 unfold Zbn at h
 by_cases hc : Zb1 (L p.f0) p.f1 p.f2 (L p.f3) = 0
 ·rw [if_pos hc] at h
  refine ⟨hn, hc, ?_⟩
  rw [← (Prod.mk.inj h).1, L_mk]
 ·rw [if_neg hc] at h
  exact absurd (Prod.mk.inj h).2 hc
theorem Forms.inj {p q : S88} {s : ByteArray} (hp : Forms p s) (hq : Forms q s) : p = q := by
 obtain ⟨c0, c1, c2, c3⟩ := formL_inj hp.2.1 hq.2.1 (hp.2.2.symm.trans hq.2.2)
 obtain ⟨p0, p1, p2, p3⟩ := p
 obtain ⟨q0, q1, q2, q3⟩ := q
 simp only at c0 c1 c2 c3
 rw [ext_L c0, c1, c2, ext_L c3]
def zeroP : S88 := ⟨⟨#[]⟩, 0, 0, ⟨#[]⟩⟩
open Classical in
noncomputable def Zcd (s : ByteArray) : S88 × Int := if h : ∃ p, Forms p s then (Classical.choose h, 0) else (zeroP, 21)
theorem parseV_yes {s : ByteArray} {p : S88} (h : Forms p s) : Zcd s = (p, 0) := by
 have hx : ∃ p, Forms p s := ⟨p, h⟩
 unfold Zcd
 rw [dif_pos hx, (Classical.choose_spec hx).inj h]
theorem parseV_no {s : ByteArray} (h : ∀ p, ¬ Forms p s) : Zcd s = (zeroP, 21) := by
 unfold Zcd
 rw [dif_neg (fun ⟨p, hp⟩ => h p hp)]
theorem parseV_cases (s : ByteArray) : (∃ p, Forms p s ∧ Zcd s = (p, 0)) ∨ ((∀ p, ¬ Forms p s) ∧ Zcd s = (zeroP, 21)) := by
 by_cases h : ∃ p, Forms p s
 ·obtain ⟨p, hp⟩ := h
  exact .inl ⟨p, hp, parseV_yes hp⟩
 ·exact .inr ⟨fun p hp => h ⟨p, hp⟩, parseV_no (fun p hp => h ⟨p, hp⟩)⟩
theorem parseV_of {s : ByteArray} {p : S88} (hn : numP p) (h : ∀ q, Forms q s → q = p) : Zcd s = if Zbn p.f0 p.f1 p.f2 p.f3 = (s, 0) then (p, 0) else (zeroP, 21) := by
 by_cases hf : Zbn p.f0 p.f1 p.f2 p.f3 = (s, 0)
 ·rw [if_pos hf, parseV_yes (Forms.of hn hf)]
 ·rw [if_neg hf, parseV_no]
  intro q hq
  have := h q hq
  subst this
  exact hf hq.format
theorem forms_cut {q : S88} {s : ByteArray} (h : Forms q s) : Lib.cut (L s) [61] = (L q.f0, valueL q.f1 q.f2 (L q.f3), true) := by
 have hn := nameL_no61 (Zb0 h.2.1).1
 have := cut_at 61 [] (L q.f0) (valueL q.f1 q.f2 (L q.f3)) (fun hm => hn _ hm rfl)
 rw [h.2.2]
 exact this
def IsDec (l : List UInt8) : Prop := ∃ m : Int, -9223372036854775808 ≤ m ∧ m ≤ 9223372036854775807 ∧ l = Lib.itoa m
theorem not_dec {l : List UInt8} (h : ∀ v, ¬ Lib.atoiAll l = .ok v) : ¬ IsDec l := fun ⟨m, h0, h1, e⟩ => h m (by rw [e]; exact atoi_itoa m h0 h1)
theorem L_of (l : List UInt8) {a : ByteArray} (h : L a = l) : a = ⟨l.toArray⟩ := ext_L (by rw [h, L_mk])
theorem cand_num {s : ByteArray} {bf af : List UInt8} {fl : Bool} {n : Int} (hc : Lib.cut (L s) [61] = (bf, af, fl)) (ha : Lib.atoiAll af = .ok n) (q : S88) (h : Forms q s) : q = ⟨⟨bf.toArray⟩, 1, n, ⟨#[]⟩⟩ := by
 rw [forms_cut h] at hc
 obtain ⟨e1, e2⟩ := Prod.mk.inj hc
 obtain ⟨e2, _⟩ := Prod.mk.inj e2
 obtain ⟨_, k0, k1, hm, ht, _⟩ := Zb0 h.2.1
 rw [← e2] at ha
 obtain ⟨q0, q1, q2, q3⟩ := q
 simp only at e1 e2 k0 k1 hm ht ha
 unfold valueL at ha
 by_cases x1 : q1 = 1
 ·rw [if_pos x1, atoi_itoa q2 h.1.1 h.1.2] at ha
  injection ha with ha
  rw [L_of _ e1, x1, ha, L_of [] (ht.resolve_left (by omega))]
 ·rw [if_neg x1] at ha
  by_cases x2 : q1 = 2
  ·rw [if_pos x2] at ha
   obtain ⟨b, r, hb, hh⟩ := quoteL_head (L q3)
   rw [hb] at ha
   exact absurd ha (atoi_no b r (by omega) n)
  ·rw [if_neg x2] at ha
   exact absurd ha (atoi_no 40 _ (by decide) n)
theorem cand_text {s : ByteArray} {bf af : List UInt8} {fl : Bool} {t : ByteArray} (hc : Lib.cut (L s) [61] = (bf, af, fl)) (ha : ¬ IsDec af) (hq : Zbo t ⟨af.toArray⟩) (q : S88) (h : Forms q s) : q = ⟨⟨bf.toArray⟩, 2, 0, t⟩ := by
 rw [forms_cut h] at hc
 obtain ⟨e1, e2⟩ := Prod.mk.inj hc
 obtain ⟨e2, _⟩ := Prod.mk.inj e2
 obtain ⟨_, k0, k1, hm, ht, h640⟩ := Zb0 h.2.1
 obtain ⟨q0, q1, q2, q3⟩ := q
 simp only at e1 e2 k0 k1 hm ht h640
 unfold valueL at e2
 by_cases x1 : q1 = 1
 ·rw [if_pos x1] at e2
  exact absurd ⟨q2, h.1.1, h.1.2, e2.symm⟩ ha
 ·rw [if_neg x1] at e2
  by_cases x2 : q1 = 2
  ·rw [if_pos x2] at e2
   have hq2 : Zbo q3 ⟨af.toArray⟩ := Zbo.of (by rw [Za2]; exact h640) (by rw [L_mk, ← e2])
   rw [L_of _ e1, x2, hm.resolve_left x1, hq2.inj hq]
  ·rw [if_neg x2] at e2
   have hb := hq.bytes.2
   rw [L_mk, ← e2] at hb
   obtain ⟨b, r, hb2, hh⟩ := quoteL_head (L t)
   rw [hb2] at hb
   have := (List.cons.inj hb).1
   rw [← this] at hh
   exact absurd hh (by decide)
theorem cand_null {s : ByteArray} {bf af : List UInt8} {fl : Bool} (hc : Lib.cut (L s) [61] = (bf, af, fl)) (ha : ¬ IsDec af) (hq : ∀ t, ¬ Zbo t ⟨af.toArray⟩) (q : S88) (h : Forms q s) : q = ⟨⟨bf.toArray⟩, 3, 0, ⟨#[]⟩⟩ := by
 rw [forms_cut h] at hc
 obtain ⟨e1, e2⟩ := Prod.mk.inj hc
 obtain ⟨e2, _⟩ := Prod.mk.inj e2
 obtain ⟨_, k0, k1, hm, ht, h640⟩ := Zb0 h.2.1
 obtain ⟨q0, q1, q2, q3⟩ := q
 simp only at e1 e2 k0 k1 hm ht h640
 unfold valueL at e2
 by_cases x1 : q1 = 1
 ·rw [if_pos x1] at e2
  exact absurd ⟨q2, h.1.1, h.1.2, e2.symm⟩ ha
 ·rw [if_neg x1] at e2
  by_cases x2 : q1 = 2
  ·rw [if_pos x2] at e2
   exact absurd (Zbo.of (by rw [Za2]; exact h640) (by rw [L_mk, ← e2])) (hq q3)
  ·rw [L_of _ e1, hm.resolve_left x1, L_of [] (ht.resolve_left x2), show q1 = 3 by omega]
theorem parse_num {s : ByteArray} {bf af : List UInt8} {fl : Bool} {n : Int} (hc : Lib.cut (L s) [61] = (bf, af, fl)) (ha : Lib.atoiAll af = .ok n) : Zcd s = if Zbn ⟨bf.toArray⟩ 1 n ⟨#[]⟩ = (s, 0) then (⟨⟨bf.toArray⟩, 1, n, ⟨#[]⟩⟩, 0) else (zeroP, 21) :=
 parseV_of (p := ⟨⟨bf.toArray⟩, 1, n, ⟨#[]⟩⟩) (atoi_range ha) (cand_num hc ha)
theorem parse_text {s : ByteArray} {bf af : List UInt8} {fl : Bool} {t : ByteArray} (hc : Lib.cut (L s) [61] = (bf, af, fl)) (ha : ¬ IsDec af) (hq : Zbo t ⟨af.toArray⟩) : Zcd s = if Zbn ⟨bf.toArray⟩ 2 0 t = (s, 0) then (⟨⟨bf.toArray⟩, 2, 0, t⟩, 0) else (zeroP, 21) :=
 parseV_of (p := ⟨⟨bf.toArray⟩, 2, 0, t⟩) ⟨by simp only; omega, by simp only; omega⟩ (cand_text hc ha hq)
theorem parse_null {s : ByteArray} {bf af : List UInt8} {fl : Bool} (hc : Lib.cut (L s) [61] = (bf, af, fl)) (ha : ¬ IsDec af) (hq : ∀ t, ¬ Zbo t ⟨af.toArray⟩) : Zcd s = if Zbn ⟨bf.toArray⟩ 3 0 ⟨#[]⟩ = (s, 0) then (⟨⟨bf.toArray⟩, 3, 0, ⟨#[]⟩⟩, 0) else (zeroP, 21) :=
 parseV_of (p := ⟨⟨bf.toArray⟩, 3, 0, ⟨#[]⟩⟩) ⟨by simp only; omega, by simp only; omega⟩ (cand_null hc ha hq)
end Go.Proofs.YtodbabeldolcbaaGreatDoor.PA
end
/- What Parse of a line returns: the one record that Format writes so, if there is one; no permitted line is longer than 31240 bytes. Plain lemmas; conditions: each lemma names its own. -/
section
namespace Go.Proofs.YtodbabeldolcbaaGreatDoor.PA
set_option linter.unusedSimpArgs false
set_option linter.unusedVariables false
open Go.RowKit Go.Proofs.YtodbabeldolcbaaGreatDoorW.PrintWords Go.Proofs.YtodbabeldolcbaaGreatDoorW.PrintLast Go.Proofs.YtodbabeldolcbaaGreatDoorW.PrintMore Go.Proofs.YtodbabeldolcbaaGreatDoor.M0
abbrev RecT := Int × Int × Int × List S88
def Zbw (r : RecT) (s : ByteArray) : Prop := Zce r.2.2.2 = true ∧ checkR r.1 r.2.1 r.2.2.1 r.2.2.2 = 0 ∧ L s = lineL r.1 r.2.1 r.2.2.1 r.2.2.2
theorem Zbw.format {r : RecT} {s : ByteArray} (h : Zbw r s) : Zby r.1 r.2.1 r.2.2.1 r.2.2.2 = (s, 0) := by
 unfold Zby
 rw [if_pos h.2.1, ← h.2.2]
 rfl
theorem Zbw.of {r : RecT} {s : ByteArray} (hn : Zce r.2.2.2 = true) (h : Zby r.1 r.2.1 r.2.2.1 r.2.2.2 = (s, 0)) : Zbw r s := by
 unfold Zby at h
 by_cases hc : checkR r.1 r.2.1 r.2.2.1 r.2.2.2 = 0
 ·rw [if_pos hc] at h
  refine ⟨hn, hc, ?_⟩
  rw [← (Prod.mk.inj h).1, L_mk]
 ·rw [if_neg hc] at h
  exact absurd (Prod.mk.inj h).2 hc
theorem Zbw.inj {p q : RecT} {s : ByteArray} (hp : Zbw p s) (hq : Zbw q s) : p = q := by
 obtain ⟨c0, c1, c2, c3⟩ := line_inj hp.2.1 hq.2.1 (hp.2.2.symm.trans hq.2.2)
 obtain ⟨p0, p1, p2, p3⟩ := p
 obtain ⟨q0, q1, q2, q3⟩ := q
 simp only at c0 c1 c2 c3
 rw [c0, c1, c2, c3]
def zeroR : RecT := (0, 0, 0, [])
open Classical in
noncomputable def Zcl (s : ByteArray) : RecT × Int := if h : ∃ r, Zbw r s then (Classical.choose h, 0) else (zeroR, 34)
theorem parseW_yes {s : ByteArray} {p : RecT} (h : Zbw p s) : Zcl s = (p, 0) := by
 have hx : ∃ p, Zbw p s := ⟨p, h⟩
 unfold Zcl
 rw [dif_pos hx, (Classical.choose_spec hx).inj h]
theorem parseW_no {s : ByteArray} (h : ∀ p, ¬ Zbw p s) : Zcl s = (zeroR, 34) := by
 unfold Zcl
 rw [dif_neg (fun ⟨p, hp⟩ => h p hp)]
theorem parseW_cases (s : ByteArray) : (∃ p, Zbw p s ∧ Zcl s = (p, 0)) ∨ ((∀ p, ¬ Zbw p s) ∧ Zcl s = (zeroR, 34)) := by
 by_cases h : ∃ p, Zbw p s
 ·obtain ⟨p, hp⟩ := h
  exact .inl ⟨p, hp, parseW_yes hp⟩
 ·exact .inr ⟨fun p hp => h ⟨p, hp⟩, parseW_no (fun p hp => h ⟨p, hp⟩)⟩
theorem parseW_of {s : ByteArray} {p : RecT} (hn : Zce p.2.2.2 = true) (h : ∀ q, Zbw q s → q = p) : Zcl s = if Zby p.1 p.2.1 p.2.2.1 p.2.2.2 = (s, 0) then (p, 0) else (zeroR, 34) := by
 by_cases hf : Zby p.1 p.2.1 p.2.2.1 p.2.2.2 = (s, 0)
 ·rw [if_pos hf, parseW_yes (Zbw.of hn hf)]
 ·rw [if_neg hf, parseW_no]
  intro q hq
  have := h q hq
  subst this
  exact hf hq.format
theorem dec_len : ∀ (d n : Nat), n < 10 ^ d → 1 ≤ d → (Lib.decDigits n).length ≤ d := by
 intro d n hn hd
 rw [Lib.decDigits_length]
 induction d generalizing n with
 | zero => omega
 | succ d ih =>
  rw [Lib.nDigits]
  by_cases h10 : n < 10
  ·rw [dif_pos h10]; omega
  ·rw [dif_neg h10]
   have hd2 : 1 ≤ d := by
    rcases d with _ | d
    ·simp at hn; omega
    ·omega
   have := ih (n / 10) (by rw [Nat.pow_succ] at hn; omega) hd2
   omega
theorem itoa_len {n : Int} (h0 : 0 ≤ n) (h1 : n < 10000000000) : (Lib.itoa n).length ≤ 10 := by
 rw [Zbm n h0]
 exact dec_len 10 _ (by omega) (by omega)
theorem quoteL_len2 {l : List UInt8} (h : l.length ≤ 640) : (quoteL l).length ≤ 1281 := by
 unfold quoteL
 split
 ·simp only [List.length_cons, List.length_append, List.length_nil]; omega
 ·simp only [List.length_cons, hexL_length]; omega
theorem formL_len2 {n t : List UInt8} {a1 a2 : Int} (h : Zb1 n a1 a2 t = 0) (h0 : -9223372036854775808 ≤ a2) (h1 : a2 ≤ 9223372036854775807) : (Zcj n a1 a2 t).length ≤ 1298 := by
 obtain ⟨hn, _, _, _, _, ht⟩ := Zb0 h
 have h2 := nameL_len hn
 have h3 := Zbu a2 h0 h1
 have h4 := quoteL_len2 ht
 unfold Zcj valueL
 rw [List.length_append, List.length_cons]
 split
 ·omega
 ·split
  ·omega
  ·simp only [List.length_cons, List.length_nil]; omega
theorem restL_len3 : ∀ l : List S88, (∀ p ∈ l, (Zcj (L p.f0) p.f1 p.f2 (L p.f3)).length ≤ 1298) → (Zbt l).length ≤ 1299 * l.length
 | [], _ => by simp [Zbt]
 | p :: l, h => by
  have h1 := h p (List.mem_cons_self ..)
  have h2 := restL_len3 l (fun q hq => h q (List.mem_cons_of_mem _ hq))
  rw [Zb4, List.length_cons, List.length_append, List.length_cons]
  omega
theorem headL_len {t tm sr : Int} (t0 : 0 ≤ tm) (t1 : tm ≤ 1099511627776) (s0 : 0 ≤ sr) (s1 : sr ≤ 1073741824) : (headL t tm sr).length ≤ 51 := by
 have h1 := name_le t
 rw [Za2] at h1
 have hd := Int.tdiv_eq_ediv_of_nonneg t0 (b := 1000)
 have hm := Int.tmod_eq_emod_of_nonneg t0 (b := 1000)
 have h2 := itoa_len (n := Int.tdiv tm 1000) (by omega) (by omega)
 have h3 := itoa_len s0 (by omega)
 have h4 : (Lib.itoa (1000 + Int.tmod tm 1000)).length ≤ 4 := by
  rw [Zbm _ (by omega)]
  exact dec_len 4 _ (by omega) (by omega)
 unfold headL
 simp only [List.length_append, List.length_cons, List.length_nil, List.length_drop]
 omega
theorem line_len {r : RecT} {s : ByteArray} (h : Zbw r s) : s.size ≤ 31240 := by
 obtain ⟨hn, hc, hs⟩ := h
 obtain ⟨t0, t1, s0, s1, hl, hp⟩ := checkR_ok hc
 have h1 := headL_len (t := r.1) t0 t1 s0 s1
 have h2 := restL_len3 r.2.2.2 (fun p hp2 => by
  unfold Zce at hn
  rw [List.all_eq_true] at hn
  have hb := hn p hp2
  rw [Bool.and_eq_true] at hb
  exact formL_len2 (Zcm _ [] hp p hp2) (of_decide_eq_true hb.1) (of_decide_eq_true hb.2))
 rw [Za2, hs]
 unfold lineL
 rw [List.length_append]
 omega
end Go.Proofs.YtodbabeldolcbaaGreatDoor.PA
end
/- A text cut at each space: plain lemmas; what the parts of a permitted line are. Conditions: each lemma names its own. -/
section
namespace Go.Proofs.YtodbabeldolcbaaGreatDoor.PA
set_option linter.unusedSimpArgs false
set_option linter.unusedVariables false
open Go.RowKit Go.Proofs.YtodbabeldolcbaaGreatDoorW.PrintWords Go.Proofs.YtodbabeldolcbaaGreatDoorW.PrintLast Go.Proofs.YtodbabeldolcbaaGreatDoorW.PrintMore Go.Proofs.YtodbabeldolcbaaGreatDoor.M0
def splitB : List UInt8 → List (List UInt8)
 | [] => [[]]
 | b :: l => if b = 32 then [] :: splitB l else match splitB l with | x :: xs => (b :: x) :: xs | [] => [[b]]
theorem splitB_one : ∀ {a : List UInt8}, (32 : UInt8) ∉ a → splitB a = [a]
 | [], _ => rfl
 | b :: l, h => by
  rw [splitB, if_neg (fun e => h (by rw [e]; exact List.mem_cons_self ..)), splitB_one (fun hm => h (List.mem_cons_of_mem _ hm))]
theorem splitB_cons : ∀ {a : List UInt8} (r : List UInt8), (32 : UInt8) ∉ a → splitB (a ++ 32 :: r) = a :: splitB r
 | [], r, _ => by rw [List.nil_append, splitB, if_pos rfl]
 | b :: l, r, h => by
  rw [List.cons_append, splitB, if_neg (fun e => h (by rw [e]; exact List.mem_cons_self ..)), splitB_cons r (fun hm => h (List.mem_cons_of_mem _ hm))]
theorem idx_cases32 : ∀ s : List UInt8, (Lib.indexByte s 32 = -1 ∧ (32 : UInt8) ∉ s) ∨ ∃ a r, s = a ++ 32 :: r ∧ (32 : UInt8) ∉ a ∧ Lib.indexByte s 32 = (a.length : Int)
 | [] => .inl ⟨rfl, List.not_mem_nil⟩
 | b :: l => by
  by_cases hb : b = 32
  ·subst hb
   exact .inr ⟨[], l, rfl, List.not_mem_nil, by rw [Lib.indexByte, if_pos (by decide)]; rfl⟩
  ·rcases idx_cases32 l with ⟨h1, h2⟩ | ⟨a, r, h1, h2, h3⟩
   ·refine .inl ⟨by rw [Lib.indexByte, if_neg (by simpa using hb), h1, if_pos (by decide)], fun hm => ?_⟩
    rcases List.mem_cons.1 hm with e | hm
    ·exact hb e.symm
    ·exact h2 hm
   ·refine .inr ⟨b :: a, r, by rw [h1]; rfl, fun hm => ?_, ?_⟩
    ·rcases List.mem_cons.1 hm with e | hm
     ·exact hb e.symm
     ·exact h2 hm
    ·rw [Lib.indexByte, if_neg (by simpa using hb), h3, if_neg (by rw [beq_iff_eq]; omega), List.length_cons]
     omega
theorem splitB_restL : ∀ (p : S88) (l : List S88), goodP (p :: l) → splitB (Zcj (L p.f0) p.f1 p.f2 (L p.f3) ++ Zbt l) = (p :: l).map fun q => Zcj (L q.f0) q.f1 q.f2 (L q.f3)
 | p, [], h => by
  have hp := formL_pr (h p (List.mem_cons_self ..))
  rw [show Zbt ([] : List S88) = [] from rfl, List.append_nil, splitB_one hp.nospace]
  rfl
 | p, q :: l, h => by
  have hp := formL_pr (h p (List.mem_cons_self ..))
  rw [Zb4, splitB_cons _ hp.nospace, splitB_restL q l (fun x hx => h x (List.mem_cons_of_mem _ hx))]
  rfl
def mType : List UInt8 := [116, 121, 112, 101, 61]
def mMsg : List UInt8 := [32, 109, 115, 103, 61, 97, 117, 100, 105, 116, 40]
theorem thousand_len (m : Nat) (hm : m < 1000) : ((Lib.itoa (1000 + (m : Int))).drop 1).length = 3 := by
 rw [Zbm _ (by omega), show (1000 + (m : Int)).toNat = 1000 + m by omega]
 rw [Lib.decDigits, dif_neg (by omega), show (1000 + m) / 10 = 100 + m / 10 by omega,
  Lib.decDigits, dif_neg (by omega), show (100 + m / 10) / 10 = 10 + m / 100 by omega,
  Lib.decDigits_two (by omega) (by omega)]
 rfl
theorem line_shape {r : RecT} {s : ByteArray} (h : Zbw r s) :
  ∃ d1 d2 d3 : List UInt8, L s = mType ++ (L (Zcn r.1) ++ (mMsg ++ (d1 ++ ([46] ++ (d2 ++ ([58] ++ (d3 ++ ([41, 58] ++ Zbt r.2.2.2)))))))) ∧ Dg d1 ∧ Dg d2 ∧ Dg d3 ∧
   Lib.atoiAll d1 = .ok (r.2.1 / 1000) ∧ Lib.atoiAll d2 = .ok (r.2.1 % 1000) ∧ Lib.atoiAll d3 = .ok r.2.2.1 ∧ 0 ≤ r.2.1 ∧ r.2.1 ≤ 1099511627776 ∧ 0 ≤ r.2.2.1 ∧ r.2.2.1 ≤ 1073741824 := by
 obtain ⟨hn, hc, hs⟩ := h
 obtain ⟨t0, t1, s0, s1, hl, hp⟩ := checkR_ok hc
 have hd := Int.tdiv_eq_ediv_of_nonneg t0 (b := 1000)
 have hm := Int.tmod_eq_emod_of_nonneg t0 (b := 1000)
 refine ⟨Lib.itoa (r.2.1 / 1000), (Lib.itoa (1000 + r.2.1 % 1000)).drop 1, Lib.itoa r.2.2.1, ?_, itoa_dg (by omega), thousand_dg _ (by omega), itoa_dg s0, atoi_itoa _ (by omega) (by omega), ?_, atoi_itoa _ (by omega) (by omega), t0, t1, s0, s1⟩
 ·rw [hs]
  unfold lineL headL mType mMsg
  rw [hd, hm]
  simp only [List.append_assoc]
 ·obtain ⟨m, hm2⟩ := Int.eq_ofNat_of_zero_le (show 0 ≤ r.2.1 % 1000 by omega)
  have hlt : m < 1000 := by omega
  rw [hm2]
  have e1 := itoa_one m hlt
  have e2 := parse_fold (Lib.itoa (1000 + (m : Int))) 0 (itoa_dg (by omega)) (by
   rw [Zbm _ (by omega)]
   have : Zbc 0 (Lib.decDigits (1000 + (m : Int)).toNat) = (1000 + (m : Int)).toNat := Zb5 _
   rw [this]; omega)
  have e3 : Zbc 0 (Lib.itoa (1000 + (m : Int))) = 1000 + m := by
   rw [Zbm _ (by omega)]
   have : Zbc 0 (Lib.decDigits (1000 + (m : Int)).toNat) = (1000 + (m : Int)).toNat := Zb5 _
   rw [this]; omega
  obtain ⟨d, hd2⟩ : ∃ d, d = (Lib.itoa (1000 + (m : Int))).drop 1 := ⟨_, rfl⟩
  rw [← hd2] at e1 ⊢
  have hdg : Dg d := by rw [hd2]; exact thousand_dg _ (by omega)
  have hlen : d.length = 3 := by rw [hd2]; exact thousand_len m hlt
  match d, hlen with
  | [a, b, c], _ =>
   have ha := hdg a (by simp)
   have hb := hdg b (by simp)
   have hcc := hdg c (by simp)
   rw [e1] at e3
   have e4 : Zbc 0 (49 :: [a, b, c]) = 10 * (10 * (10 * (10 * 0 + ((49 : UInt8).toNat - 48)) + (a.toNat - 48)) + (b.toNat - 48)) + (c.toNat - 48) := rfl
   have e49 : (49 : UInt8).toNat = 49 := rfl
   rw [e4, e49] at e3
   have e5 : Zbc 0 [a, b, c] = m := by
    show 10 * (10 * (10 * 0 + (a.toNat - 48)) + (b.toNat - 48)) + (c.toNat - 48) = m
    omega
   have e6 := parse_fold [a, b, c] 0 hdg (by rw [e5]; omega)
   rw [e5] at e6
   unfold Lib.atoiAll
   simp only
   rw [if_neg (by omega)]
   unfold Lib.parseMag
   rw [if_neg (by simp), e6]
   simp only
   rw [if_neg (by omega), if_neg (by omega), if_neg (by omega)]
end Go.Proofs.YtodbabeldolcbaaGreatDoor.PA
end
/- What the readings of a line give where the line is permitted. Plain lemmas; conditions: each lemma names its own. -/
section
namespace Go.Proofs.YtodbabeldolcbaaGreatDoor.PA
set_option linter.unusedVariables false
set_option linter.unusedSimpArgs false
open Go.RowKit Go.Proofs.YtodbabeldolcbaaGreatDoorW.PrintWords Go.Proofs.YtodbabeldolcbaaGreatDoorW.PrintLast Go.Proofs.YtodbabeldolcbaaGreatDoorW.PrintMore Go.Proofs.YtodbabeldolcbaaGreatDoor.M0
def sType : ByteArray := ⟨#[116, 121, 112, 101, 61]⟩
def sMsg : ByteArray := ⟨#[32, 109, 115, 103, 61, 97, 117, 100, 105, 116, 40]⟩
structure Cuts (a0 x1 r1 nm r2 s3 r3 s4 r4 s5 r5 : ByteArray) (o1 o2 o3 o4 o5 : Bool) : Prop where
 c1 : Lib.cut (L a0) (L sType) = (L x1, L r1, o1)
 c2 : Lib.cut (L r1) (L sMsg) = (L nm, L r2, o2)
 c3 : Lib.cut (L r2) (L ⟨#[46]⟩) = (L s3, L r3, o3)
 c4 : Lib.cut (L r3) (L ⟨#[58]⟩) = (L s4, L r4, o4)
 c5 : Lib.cut (L r4) (L ⟨#[41, 58]⟩) = (L s5, L r5, o5)
theorem Zcg {s m b a : ByteArray} {o : Bool} (h : Lib.cut (L s) (L m) = (L b, L a, o)) : b.size ≤ s.size ∧ a.size ≤ s.size := by
 have hz := Za2 s
 unfold Lib.cut at h
 split at h
 ·obtain ⟨c1, c2⟩ := Prod.mk.inj h
  obtain ⟨c2, _⟩ := Prod.mk.inj c2
  rw [Za2 b, Za2 a, ← c1, ← c2, List.length_take, List.length_drop]
  omega
 ·obtain ⟨c1, c2⟩ := Prod.mk.inj h
  obtain ⟨c2, _⟩ := Prod.mk.inj c2
  rw [Za2 b, Za2 a, ← c1, ← c2, List.length_nil]
  omega
theorem Cuts.exist (a0 : ByteArray) : ∃ x1 r1 nm r2 s3 r3 s4 r4 s5 r5 o1 o2 o3 o4 o5, Cuts a0 x1 r1 nm r2 s3 r3 s4 r4 s5 r5 o1 o2 o3 o4 o5 := by
 have key : ∀ s m : ByteArray, ∃ (b a : ByteArray) (o : Bool), Lib.cut (L s) (L m) = (L b, L a, o) := fun s m =>
  ⟨⟨(Lib.cut (L s) (L m)).1.toArray⟩, ⟨(Lib.cut (L s) (L m)).2.1.toArray⟩, (Lib.cut (L s) (L m)).2.2, by rw [L_mk (Lib.cut (L s) (L m)).1, L_mk (Lib.cut (L s) (L m)).2.1]⟩
 obtain ⟨x1, r1, o1, c1⟩ := key a0 sType
 obtain ⟨nm, r2, o2, c2⟩ := key r1 sMsg
 obtain ⟨s3, r3, o3, c3⟩ := key r2 ⟨#[46]⟩
 obtain ⟨s4, r4, o4, c4⟩ := key r3 ⟨#[58]⟩
 obtain ⟨s5, r5, o5, c5⟩ := key r4 ⟨#[41, 58]⟩
 exact ⟨_, _, _, _, _, _, _, _, _, _, _, _, _, _, _, c1, c2, c3, c4, c5⟩
theorem cut_of {s m : ByteArray} {b a : ByteArray} {o : Bool} (h : Lib.cut (L s) (L m) = (L b, L a, o)) {c : UInt8} {k x y : List UInt8} (hm : L m = c :: k) (hs : L s = x ++ ((c :: k) ++ y)) (hc : c ∉ x) : L b = x ∧ L a = y ∧ o = true := by
 rw [hm, hs, cut_at c k x y hc] at h
 obtain ⟨h1, h2⟩ := Prod.mk.inj h
 obtain ⟨h2, h3⟩ := Prod.mk.inj h2
 exact ⟨h1.symm, h2.symm, h3.symm⟩
theorem number_name {t : Int} (h : ¬ Zcn t = ⟨#[]⟩) : record_Number.f (Zcn t) = some t := by
 have key : ∀ k : Fin 10, record_Number.f (Zci (Zbb k.val).1) = some (Zbb k.val).2.1 := by decide +kernel
 have e0 : Zci ([] : List UInt8) = ⟨#[]⟩ := rfl
 unfold Zcn kindF at h ⊢
 cases h1 : Zba.find? (fun k => k.2.1 == t) with
 | none => rw [h1] at h; exact absurd e0 h
 | some a =>
  have ea := List.find?_some h1
  simp only [beq_iff_eq] at ea
  obtain ⟨i, hi, hg⟩ := List.getElem_of_mem (List.mem_of_find?_eq_some h1)
  have hi10 : i < 10 := hi
  have := key ⟨i, hi10⟩
  rw [show Zbb (⟨i, hi10⟩ : Fin 10).val = a by rw [← hg]; exact (kind_get hi10).symm, ea] at this
  exact this
theorem Cuts.forms {a0 x1 r1 nm r2 s3 r3 s4 r4 s5 r5 : ByteArray} {o1 o2 o3 o4 o5 : Bool} (C : Cuts a0 x1 r1 nm r2 s3 r3 s4 r4 s5 r5 o1 o2 o3 o4 o5) {q : RecT} (h : Zbw q a0) :
  o1 = true ∧ o2 = true ∧ o3 = true ∧ o4 = true ∧ o5 = true ∧ record_Number.f nm = some q.1 ∧ Lib.atoiAll (L s3) = .ok (q.2.1 / 1000) ∧ Lib.atoiAll (L s4) = .ok (q.2.1 % 1000) ∧ Lib.atoiAll (L s5) = .ok q.2.2.1 ∧ L r5 = Zbt q.2.2.2 ∧
   0 ≤ q.2.1 ∧ q.2.1 ≤ 1099511627776 ∧ 0 ≤ q.2.2.1 ∧ q.2.2.1 ≤ 1073741824 ∧ a0.size ≤ 31240 := by
 obtain ⟨d1, d2, d3, hl, g1, g2, g3, e1, e2, e3, t0, t1, s0, s1⟩ := line_shape h
 obtain ⟨_, k2, k3⟩ := cut_of C.c1 (c := 116) (k := [121, 112, 101, 61]) (x := []) rfl hl List.not_mem_nil
 obtain ⟨j1, j2, j3⟩ := cut_of C.c2 (c := 32) (k := [109, 115, 103, 61, 97, 117, 100, 105, 116, 40]) rfl k2 (nameK_no32 _)
 obtain ⟨i1, i2, i3⟩ := cut_of C.c3 (c := 46) (k := []) rfl j2 (g1.no _ (by decide))
 obtain ⟨p1, p2, p3⟩ := cut_of C.c4 (c := 58) (k := []) rfl i2 (g2.no _ (by decide))
 obtain ⟨q1, q2, q3⟩ := cut_of C.c5 (c := 41) (k := [58]) rfl p2 (g3.no _ (by decide))
 refine ⟨k3, j3, i3, p3, q3, ?_, by rw [i1, e1], by rw [p1, e2], by rw [q1, e3], q2, t0, t1, s0, s1, line_len h⟩
 rw [ext_L j1]
 exact number_name (checkR_name h.2.1)
inductive Texts : List ByteArray → List S88 → Prop
 | nil : Texts [] []
 | snoc {xs : List ByteArray} {ps : List S88} {x : ByteArray} {p : S88} : Texts xs ps → Forms p x → Texts (xs ++ [x]) (ps ++ [p])
theorem Texts.length {xs : List ByteArray} {ps : List S88} (h : Texts xs ps) : xs.length = ps.length := by
 induction h with
 | nil => rfl
 | snoc _ _ ih => rw [List.length_append, List.length_append, ih]; rfl
theorem Texts.nums {xs : List ByteArray} {ps : List S88} (h : Texts xs ps) : Zce ps = true ∧ shortN ps = true := by
 induction h with
 | nil => exact ⟨rfl, rfl⟩
 | @snoc xs ps x p _ hf ih =>
  have hn := nameL_len (Zb0 hf.2.1).1
  have hz := Za2 p.f0
  unfold Zce shortN at ih ⊢
  rw [List.all_append, List.all_append, ih.1, ih.2]
  simp only [List.all_cons, List.all_nil, Bool.and_true, Bool.true_and, Bool.and_eq_true, decide_eq_true_eq]
  exact ⟨hf.1, by omega⟩
theorem Texts.unique {xs : List ByteArray} {ps qs : List S88} (h : Texts xs ps) (hq : xs = qs.map fun q => ⟨(Zcj (L q.f0) q.f1 q.f2 (L q.f3)).toArray⟩) (hg : goodP qs) (hn : Zce qs = true) : ps = qs := by
 induction h generalizing qs with
 | nil => cases qs with
  | nil => rfl
  | cons q qs => cases hq
 | @snoc xs ps x p _ hf ih =>
  rcases List.eq_nil_or_concat qs with rfl | ⟨ys, y, rfl⟩
  ·simp at hq
  ·rw [List.concat_eq_append] at hq hg hn ⊢
   rw [List.map_append, List.map_cons, List.map_nil] at hq
   obtain ⟨h1, h2⟩ := List.append_inj' hq (by simp)
   have hx : x = ⟨(Zcj (L y.f0) y.f1 y.f2 (L y.f3)).toArray⟩ := by simpa using h2
   unfold Zce at hn
   rw [List.all_append, Bool.and_eq_true] at hn
   have hyn : numP y := by
    have := hn.2
    simp only [List.all_cons, List.all_nil, Bool.and_true, Bool.and_eq_true, decide_eq_true_eq] at this
    exact this
   have hy : Forms y x := ⟨hyn, hg y (by simp), by rw [hx, L_mk]⟩
   rw [ih h1 (fun z hz => hg z (by simp [hz])) hn.1, hf.inj hy]
end Go.Proofs.YtodbabeldolcbaaGreatDoor.PA
end
