/- The line of a record tells the record: plain lemmas (no program in them). Conditions: each lemma names its own. -/
import Derived.Test.YtodbabeldolcbaaDoorY2EForm
import Derived.Test.YtodbabeldolcbaaDoorY2VMake
namespace Go.Proofs.YtodbabeldolcbaaDoor.PA
set_option linter.unusedSimpArgs false
set_option linter.unusedVariables false
open Go.RowKit Go.Proofs.YtodbabeldolcbaaDoorW.PrintWords Go.Proofs.YtodbabeldolcbaaDoorW.PrintLast Go.Proofs.YtodbabeldolcbaaDoorW.PrintMore Go.Proofs.YtodbabeldolcbaaDoor.M0
/-- Two lists split at the first byte c. -/
theorem split_at (c : UInt8) : ∀ {a b x y : List UInt8}, c ∉ a → c ∉ b → a ++ c :: x = b ++ c :: y → a = b ∧ x = y
  | [], [], _, _, _, _, h => ⟨rfl, by simpa using h⟩
  | [], q :: b, _, _, _, hb, h => by
    simp only [List.nil_append, List.cons_append, List.cons.injEq] at h
    exact absurd h.1 (fun e => hb (by rw [e]; exact List.mem_cons_self ..))
  | q :: a, [], _, _, ha, _, h => by
    simp only [List.nil_append, List.cons_append, List.cons.injEq] at h
    exact absurd h.1.symm (fun e => ha (by rw [e]; exact List.mem_cons_self ..))
  | p :: a, q :: b, x, y, ha, hb, h => by
    simp only [List.cons_append, List.cons.injEq] at h
    obtain ⟨rfl, h⟩ := h
    obtain ⟨rfl, e⟩ := split_at c (fun hm => ha (List.mem_cons_of_mem _ hm)) (fun hm => hb (List.mem_cons_of_mem _ hm)) h
    exact ⟨rfl, e⟩
/-- Two lists split at the first byte c, or at the end. -/
theorem split_end (c : UInt8) : ∀ {a b x y : List UInt8}, c ∉ a → c ∉ b → (x = [] ∨ ∃ r, x = c :: r) → (y = [] ∨ ∃ r, y = c :: r) → a ++ x = b ++ y → a = b ∧ x = y
  | [], [], _, _, _, _, _, _, h => ⟨rfl, by simpa using h⟩
  | [], q :: b, x, _, _, hb, hx, _, h => by
    rcases hx with rfl | ⟨r, rfl⟩
    · cases h
    · simp only [List.nil_append, List.cons_append, List.cons.injEq] at h
      exact absurd h.1 (fun e => hb (by rw [e]; exact List.mem_cons_self ..))
  | q :: a, [], _, y, ha, _, _, hy, h => by
    rcases hy with rfl | ⟨r, rfl⟩
    · cases h
    · simp only [List.nil_append, List.cons_append, List.cons.injEq] at h
      exact absurd h.1.symm (fun e => ha (by rw [e]; exact List.mem_cons_self ..))
  | p :: a, q :: b, x, y, ha, hb, hx, hy, h => by
    simp only [List.cons_append, List.cons.injEq] at h
    obtain ⟨rfl, h⟩ := h
    obtain ⟨rfl, e⟩ := split_end c (fun hm => ha (List.mem_cons_of_mem _ hm)) (fun hm => hb (List.mem_cons_of_mem _ hm)) hx hy h
    exact ⟨rfl, e⟩
/-! ### Which bytes are written -/
def Pr (l : List UInt8) : Prop := ∀ b ∈ l, 33 ≤ b.toNat ∧ b.toNat ≤ 126
theorem Pr.append {a b : List UInt8} (ha : Pr a) (hb : Pr b) : Pr (a ++ b) := fun x hx => (List.mem_append.1 hx).elim (ha x) (hb x)
theorem Pr.cons {a : UInt8} {b : List UInt8} (ha : 33 ≤ a.toNat ∧ a.toNat ≤ 126) (hb : Pr b) : Pr (a :: b) := fun x hx => by
  rcases List.mem_cons.1 hx with rfl | hx
  · exact ha
  · exact hb x hx
theorem Pr.nospace {l : List UInt8} (h : Pr l) : (32 : UInt8) ∉ l := fun hm => absurd (h _ hm).1 (by decide)
theorem chOK_range {f : Bool} {b : Nat} (h : chOK f b = true) : 48 ≤ b ∧ b ≤ 122 := by
  unfold chOK at h
  simp only [Bool.or_eq_true, Bool.and_eq_true, decide_eq_true_eq, beq_iff_eq] at h
  omega
theorem okL_pr : ∀ (f : Bool) (l : List UInt8), okL f l = true → Pr l
  | _, [], _ => fun b hb => by cases hb
  | f, c :: l, h => by
    rw [okL, Bool.and_eq_true] at h
    have := chOK_range h.1
    exact Pr.cons (by omega) (okL_pr false l h.2)
theorem nameL_pr {l : List UInt8} (h : nameL l = true) : Pr l := by
  unfold nameL at h
  rw [Bool.and_eq_true] at h
  exact okL_pr true l h.1
/-- Are these digits? -/
def Dg (l : List UInt8) : Prop := ∀ b ∈ l, 48 ≤ b.toNat ∧ b.toNat ≤ 57
theorem dec_dg (u : Nat) : Dg (Lib.decDigits u) := by
  induction u using Nat.strongRecOn with
  | _ u ih =>
    rw [Lib.decDigits]
    by_cases h : u < 10
    · rw [dif_pos h]
      intro b hb
      obtain rfl := List.mem_singleton.1 hb
      rw [UInt8.toNat_ofNat']; omega
    · rw [dif_neg h]
      intro b hb
      rcases List.mem_append.1 hb with hb | hb
      · exact ih (u / 10) (by omega) b hb
      · obtain rfl := List.mem_singleton.1 hb
        rw [UInt8.toNat_ofNat']; omega
theorem itoa_dg {n : Int} (h : 0 ≤ n) : Dg (Lib.itoa n) := by rw [itoa_ge n h]; exact dec_dg _
theorem Dg.no {l : List UInt8} (h : Dg l) (c : UInt8) (hc : c.toNat < 48 ∨ 57 < c.toNat) : c ∉ l := fun hm => by have := h c hm; omega
theorem Dg.pr {l : List UInt8} (h : Dg l) : Pr l := fun b hb => by have := h b hb; omega
theorem itoa_pr (n : Int) : Pr (Lib.itoa n) := by
  by_cases hn : 0 ≤ n
  · exact (itoa_dg hn).pr
  · rw [itoa_lt n (by omega)]
    exact Pr.cons (by decide) (dec_dg _).pr
theorem hexL_pr : ∀ l : List UInt8, Pr (hexL l)
  | [] => fun b hb => by cases hb
  | c :: l => by
    rw [hexL_cons]
    have hc : c.toNat < 256 := c.toNat_lt
    have h1 := digs_range (c.toNat / 16) (by omega)
    have h2 := digs_range (c.toNat % 16) (by omega)
    refine Pr.cons ?_ (Pr.cons ?_ (hexL_pr l)) <;> (rw [UInt8.toNat_ofNat']; omega)
theorem quoteL_pr (l : List UInt8) : Pr (quoteL l) := by
  unfold quoteL
  split
  · rename_i h
    refine Pr.cons (by decide) (Pr.append ?_ (Pr.cons (by decide) (fun b hb => by cases hb)))
    unfold safeL at h
    rw [List.all_eq_true] at h
    intro b hb
    have := h b hb
    simp only [Bool.not_eq_true', Bool.or_eq_false_iff, decide_eq_false_iff_not] at this
    omega
  · exact Pr.cons (by decide) (hexL_pr l)
theorem valueL_pr (k m : Int) (t : List UInt8) : Pr (valueL k m t) := by
  unfold valueL
  split
  · exact itoa_pr m
  · split
    · exact quoteL_pr t
    · intro b hb
      simp only [List.mem_cons, List.not_mem_nil, or_false] at hb
      rcases hb with rfl | rfl | rfl | rfl | rfl | rfl <;> decide
theorem formL_pr {n t : List UInt8} {k m : Int} (h : checkI n k m t = 0) : Pr (formL n k m t) :=
  (nameL_pr (checkI_ok h).1).append (Pr.cons (by decide) (valueL_pr k m t))
/-! ### The rest of a line -/
def goodP (l : List S25) : Prop := ∀ p ∈ l, checkI (L p.f0) p.f1 p.f2 (L p.f3) = 0
theorem restL_cons (p : S25) (l : List S25) : restL (p :: l) = 32 :: (formL (L p.f0) p.f1 p.f2 (L p.f3) ++ restL l) := by simp [restL]
theorem restL_head (l : List S25) : restL l = [] ∨ ∃ r, restL l = 32 :: r := by
  cases l with
  | nil => exact .inl rfl
  | cons p l => exact .inr ⟨_, restL_cons p l⟩
theorem restL_inj : ∀ {a b : List S25}, goodP a → goodP b → restL a = restL b → a = b
  | [], [], _, _, _ => rfl
  | [], q :: b, _, _, h => by rw [restL_cons] at h; cases h
  | p :: a, [], _, _, h => by rw [restL_cons] at h; cases h
  | p :: a, q :: b, ha, hb, h => by
    rw [restL_cons, restL_cons] at h
    have hp := ha p (List.mem_cons_self ..)
    have hq := hb q (List.mem_cons_self ..)
    obtain ⟨e1, e2⟩ := split_end 32 (formL_pr hp).nospace (formL_pr hq).nospace (restL_head a) (restL_head b) (List.cons.inj h).2
    obtain ⟨c0, c1, c2, c3⟩ := formL_inj hp hq e1
    rw [restL_inj (fun x hx => ha x (List.mem_cons_of_mem _ hx)) (fun x hx => hb x (List.mem_cons_of_mem _ hx)) e2]
    obtain ⟨p0, p1, p2, p3⟩ := p
    obtain ⟨q0, q1, q2, q3⟩ := q
    simp only at c0 c1 c2 c3
    rw [ext_L c0, c1, c2, ext_L c3]
/-! ### The head of a line -/
theorem nameK_no32 (t : Int) : (32 : UInt8) ∉ L (nameK t) := by
  have key : ∀ k : Fin 10, (32 : UInt8) ∉ L (strOf (kindAt k.val).1) := by decide +kernel
  unfold nameK
  rcases idx_cases (fun k => k.2.1 == t) with ⟨k, hk, _, h⟩ | ⟨_, h⟩
  · rw [h]; exact key ⟨k, hk⟩
  · rw [h]; decide
theorem nameK_inj {s t : Int} (hs : ¬ nameK s = ⟨#[]⟩) (h : nameK s = nameK t) : s = t := by
  have key : ∀ k ∈ kindsT, ∀ k' ∈ kindsT, strOf k.1 = strOf k'.1 → k.2.1 = k'.2.1 := by decide +kernel
  have e0 : strOf ([] : List UInt8) = ⟨#[]⟩ := rfl
  unfold nameK kindF at h hs
  cases h1 : kindsT.find? (fun k => k.2.1 == s) with
  | none => rw [h1] at hs; exact absurd e0 hs
  | some a =>
    cases h2 : kindsT.find? (fun k => k.2.1 == t) with
    | none => rw [h] at hs; rw [h2] at hs; exact absurd e0 hs
    | some b =>
      rw [h1, h2] at h
      have ea := List.find?_some h1
      have eb := List.find?_some h2
      have := key a (List.mem_of_find?_eq_some h1) b (List.mem_of_find?_eq_some h2) h
      simp only [beq_iff_eq] at ea eb
      rw [← ea, ← eb, this]
theorem thousand_dg (n : Int) (h0 : 0 ≤ n) : Dg ((Lib.itoa (1000 + n)).drop 1) := fun b hb => itoa_dg (n := 1000 + n) (by omega) b (List.mem_of_mem_drop hb)
theorem itoa_one (m : Nat) (hm : m < 1000) : Lib.itoa (1000 + (m : Int)) = 49 :: (Lib.itoa (1000 + (m : Int))).drop 1 := by
  rw [itoa_ge _ (by omega), show (1000 + (m : Int)).toNat = 1000 + m by omega]
  rw [Lib.decDigits, dif_neg (by omega), show (1000 + m) / 10 = 100 + m / 10 by omega,
    Lib.decDigits, dif_neg (by omega), show (100 + m / 10) / 10 = 10 + m / 100 by omega,
    Lib.decDigits_two (by omega) (by omega), show (10 + m / 100) / 10 = 1 by omega]
  rfl
theorem tail_inj {x y : Int} (hx : 0 ≤ x) (hx2 : x < 1000) (hy : 0 ≤ y) (hy2 : y < 1000) (h : (Lib.itoa (1000 + x)).drop 1 = (Lib.itoa (1000 + y)).drop 1) : x = y := by
  obtain ⟨m, rfl⟩ := Int.eq_ofNat_of_zero_le hx
  obtain ⟨n, rfl⟩ := Int.eq_ofNat_of_zero_le hy
  have e : Lib.itoa (1000 + (m : Int)) = Lib.itoa (1000 + (n : Int)) := by rw [itoa_one m (by omega), itoa_one n (by omega), h]
  have := itoa_inj e
  omega
theorem parts_inj {a a' b b' c c' d d' r r' : List UInt8} (ha : (32 : UInt8) ∉ a) (ha' : (32 : UInt8) ∉ a') (hb : Dg b) (hb' : Dg b') (hc : Dg c) (hc' : Dg c') (hd : Dg d) (hd' : Dg d')
    (h : [116, 121, 112, 101, 61] ++ a ++ [32, 109, 115, 103, 61, 97, 117, 100, 105, 116, 40] ++ b ++ [46] ++ c ++ [58] ++ d ++ [41, 58] ++ r = [116, 121, 112, 101, 61] ++ a' ++ [32, 109, 115, 103, 61, 97, 117, 100, 105, 116, 40] ++ b' ++ [46] ++ c' ++ [58] ++ d' ++ [41, 58] ++ r') :
    a = a' ∧ b = b' ∧ c = c' ∧ d = d' ∧ r = r' := by
  simp only [List.append_assoc, List.cons_append, List.nil_append] at h
  simp only [List.cons.injEq, true_and] at h
  obtain ⟨e1, h⟩ := split_at 32 ha ha' h
  simp only [List.cons.injEq, true_and] at h
  obtain ⟨e2, h⟩ := split_at 46 (hb.no _ (by decide)) (hb'.no _ (by decide)) h
  obtain ⟨e3, h⟩ := split_at 58 (hc.no _ (by decide)) (hc'.no _ (by decide)) h
  obtain ⟨e4, h⟩ := split_at 41 (hd.no _ (by decide)) (hd'.no _ (by decide)) h
  exact ⟨e1, e2, e3, e4, (List.cons.inj h).2⟩
theorem checkR_name {t tm sr : Int} {l : List S25} (h : checkR t tm sr l = 0) : ¬ nameK t = ⟨#[]⟩ := by
  intro e
  unfold checkR at h
  rw [if_pos e] at h
  omega
theorem line_inj {t tm sr t' tm' sr' : Int} {l l' : List S25} (h : checkR t tm sr l = 0) (h' : checkR t' tm' sr' l' = 0) (e : lineL t tm sr l = lineL t' tm' sr' l') : t = t' ∧ tm = tm' ∧ sr = sr' ∧ l = l' := by
  obtain ⟨t0, t1, s0, s1, _, hp⟩ := checkR_ok h
  obtain ⟨t0', t1', s0', s1', _, hp'⟩ := checkR_ok h'
  have hd := Int.tdiv_eq_ediv_of_nonneg t0 (b := 1000)
  have hm := Int.tmod_eq_emod_of_nonneg t0 (b := 1000)
  have hd' := Int.tdiv_eq_ediv_of_nonneg t0' (b := 1000)
  have hm' := Int.tmod_eq_emod_of_nonneg t0' (b := 1000)
  unfold lineL headL at e
  rw [hd, hm, hd', hm'] at e
  obtain ⟨e1, e2, e3, e4, e5⟩ := parts_inj (nameK_no32 t) (nameK_no32 t') (itoa_dg (by omega)) (itoa_dg (by omega)) (thousand_dg _ (by omega)) (thousand_dg _ (by omega)) (itoa_dg s0) (itoa_dg s0') e
  have q1 := nameK_inj (checkR_name h) (ext_L e1)
  have q2 := itoa_inj e2
  have q3 := tail_inj (by omega) (by omega) (by omega) (by omega) e3
  have q4 := itoa_inj e4
  have q5 := restL_inj (pairsI_all l [] hp) (pairsI_all l' [] hp') e5
  exact ⟨q1, by omega, q4, q5⟩
end Go.Proofs.YtodbabeldolcbaaDoor.PA
