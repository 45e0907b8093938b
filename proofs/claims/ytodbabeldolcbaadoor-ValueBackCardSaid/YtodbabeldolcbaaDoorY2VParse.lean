/- What Parse of a text of a pair returns: the one pair that Format writes so, if there is one. Plain lemmas; conditions: each lemma names its own. -/
import Derived.Test.YtodbabeldolcbaaDoorY2VCut
namespace Go.Proofs.YtodbabeldolcbaaDoor.PA
set_option linter.unusedSimpArgs false
set_option linter.unusedVariables false
open Go.RowKit Go.Proofs.YtodbabeldolcbaaDoorW.PrintWords Go.Proofs.YtodbabeldolcbaaDoorW.PrintLast Go.Proofs.YtodbabeldolcbaaDoorW.PrintMore Go.Proofs.YtodbabeldolcbaaDoor.M0
def numP (p : S25) : Prop := -9223372036854775808 ≤ p.f2 ∧ p.f2 ≤ 9223372036854775807
/-- This pair is permitted, and this is its text. -/
def Forms (p : S25) (s : ByteArray) : Prop := numP p ∧ checkI (L p.f0) p.f1 p.f2 (L p.f3) = 0 ∧ L s = formL (L p.f0) p.f1 p.f2 (L p.f3)
theorem Forms.format {p : S25} {s : ByteArray} (h : Forms p s) : formatF p.f0 p.f1 p.f2 p.f3 = (s, 0) := by
  unfold formatF
  rw [if_pos h.2.1, ← h.2.2]
  rfl
theorem Forms.of {p : S25} {s : ByteArray} (hn : numP p) (h : formatF p.f0 p.f1 p.f2 p.f3 = (s, 0)) : Forms p s := by
  unfold formatF at h
  by_cases hc : checkI (L p.f0) p.f1 p.f2 (L p.f3) = 0
  · rw [if_pos hc] at h
    refine ⟨hn, hc, ?_⟩
    rw [← (Prod.mk.inj h).1, L_mk]
  · rw [if_neg hc] at h
    exact absurd (Prod.mk.inj h).2 hc
theorem Forms.inj {p q : S25} {s : ByteArray} (hp : Forms p s) (hq : Forms q s) : p = q := by
  obtain ⟨c0, c1, c2, c3⟩ := formL_inj hp.2.1 hq.2.1 (hp.2.2.symm.trans hq.2.2)
  obtain ⟨p0, p1, p2, p3⟩ := p
  obtain ⟨q0, q1, q2, q3⟩ := q
  simp only at c0 c1 c2 c3
  rw [ext_L c0, c1, c2, ext_L c3]
def zeroP : S25 := ⟨⟨#[]⟩, 0, 0, ⟨#[]⟩⟩
open Classical in
/-- What Parse returns. -/
noncomputable def parseV (s : ByteArray) : S25 × Int := if h : ∃ p, Forms p s then (Classical.choose h, 0) else (zeroP, 21)
theorem parseV_yes {s : ByteArray} {p : S25} (h : Forms p s) : parseV s = (p, 0) := by
  have hx : ∃ p, Forms p s := ⟨p, h⟩
  unfold parseV
  rw [dif_pos hx, (Classical.choose_spec hx).inj h]
theorem parseV_no {s : ByteArray} (h : ∀ p, ¬ Forms p s) : parseV s = (zeroP, 21) := by
  unfold parseV
  rw [dif_neg (fun ⟨p, hp⟩ => h p hp)]
/-- One candidate decides. -/
theorem parseV_of {s : ByteArray} {p : S25} (hn : numP p) (h : ∀ q, Forms q s → q = p) : parseV s = if formatF p.f0 p.f1 p.f2 p.f3 = (s, 0) then (p, 0) else (zeroP, 21) := by
  by_cases hf : formatF p.f0 p.f1 p.f2 p.f3 = (s, 0)
  · rw [if_pos hf, parseV_yes (Forms.of hn hf)]
  · rw [if_neg hf, parseV_no]
    intro q hq
    have := h q hq
    subst this
    exact hf hq.format
/-! ### The candidate -/
theorem forms_cut {q : S25} {s : ByteArray} (h : Forms q s) : Lib.cut (L s) [61] = (L q.f0, valueL q.f1 q.f2 (L q.f3), true) := by
  have hn := nameL_no61 (checkI_ok h.2.1).1
  have := cut_at 61 [] (L q.f0) (valueL q.f1 q.f2 (L q.f3)) (fun hm => hn _ hm rfl)
  rw [h.2.2]
  exact this
/-- A decimal text of an int, as Go writes it. -/
def IsDec (l : List UInt8) : Prop := ∃ m : Int, -9223372036854775808 ≤ m ∧ m ≤ 9223372036854775807 ∧ l = Lib.itoa m
theorem not_dec {l : List UInt8} (h : ∀ v, ¬ Lib.atoiAll l = .ok v) : ¬ IsDec l := fun ⟨m, h0, h1, e⟩ => h m (by rw [e]; exact atoi_itoa m h0 h1)
theorem L_of (l : List UInt8) {a : ByteArray} (h : L a = l) : a = ⟨l.toArray⟩ := ext_L (by rw [h, L_mk])
theorem cand_num {s : ByteArray} {bf af : List UInt8} {fl : Bool} {n : Int} (hc : Lib.cut (L s) [61] = (bf, af, fl)) (ha : Lib.atoiAll af = .ok n) (q : S25) (h : Forms q s) : q = ⟨⟨bf.toArray⟩, 1, n, ⟨#[]⟩⟩ := by
  rw [forms_cut h] at hc
  obtain ⟨e1, e2⟩ := Prod.mk.inj hc
  obtain ⟨e2, _⟩ := Prod.mk.inj e2
  obtain ⟨_, k0, k1, hm, ht, _⟩ := checkI_ok h.2.1
  rw [← e2] at ha
  obtain ⟨q0, q1, q2, q3⟩ := q
  simp only at e1 e2 k0 k1 hm ht ha
  unfold valueL at ha
  by_cases x1 : q1 = 1
  · rw [if_pos x1, atoi_itoa q2 h.1.1 h.1.2] at ha
    injection ha with ha
    rw [L_of _ e1, x1, ha, L_of [] (ht.resolve_left (by omega))]
  · rw [if_neg x1] at ha
    by_cases x2 : q1 = 2
    · rw [if_pos x2] at ha
      obtain ⟨b, r, hb, hh⟩ := quoteL_head (L q3)
      rw [hb] at ha
      exact absurd ha (atoi_no b r (by omega) n)
    · rw [if_neg x2] at ha
      exact absurd ha (atoi_no 40 _ (by decide) n)
theorem cand_text {s : ByteArray} {bf af : List UInt8} {fl : Bool} {t : ByteArray} (hc : Lib.cut (L s) [61] = (bf, af, fl)) (ha : ¬ IsDec af) (hq : Quotes t ⟨af.toArray⟩) (q : S25) (h : Forms q s) : q = ⟨⟨bf.toArray⟩, 2, 0, t⟩ := by
  rw [forms_cut h] at hc
  obtain ⟨e1, e2⟩ := Prod.mk.inj hc
  obtain ⟨e2, _⟩ := Prod.mk.inj e2
  obtain ⟨_, k0, k1, hm, ht, h640⟩ := checkI_ok h.2.1
  obtain ⟨q0, q1, q2, q3⟩ := q
  simp only at e1 e2 k0 k1 hm ht h640
  unfold valueL at e2
  by_cases x1 : q1 = 1
  · rw [if_pos x1] at e2
    exact absurd ⟨q2, h.1.1, h.1.2, e2.symm⟩ ha
  · rw [if_neg x1] at e2
    by_cases x2 : q1 = 2
    · rw [if_pos x2] at e2
      have hq2 : Quotes q3 ⟨af.toArray⟩ := Quotes.of (by rw [size_L]; exact h640) (by rw [L_mk, ← e2])
      rw [L_of _ e1, x2, hm.resolve_left x1, hq2.inj hq]
    · rw [if_neg x2] at e2
      have hb := hq.bytes.2
      rw [L_mk, ← e2] at hb
      obtain ⟨b, r, hb2, hh⟩ := quoteL_head (L t)
      rw [hb2] at hb
      have := (List.cons.inj hb).1
      rw [← this] at hh
      exact absurd hh (by decide)
theorem cand_null {s : ByteArray} {bf af : List UInt8} {fl : Bool} (hc : Lib.cut (L s) [61] = (bf, af, fl)) (ha : ¬ IsDec af) (hq : ∀ t, ¬ Quotes t ⟨af.toArray⟩) (q : S25) (h : Forms q s) : q = ⟨⟨bf.toArray⟩, 3, 0, ⟨#[]⟩⟩ := by
  rw [forms_cut h] at hc
  obtain ⟨e1, e2⟩ := Prod.mk.inj hc
  obtain ⟨e2, _⟩ := Prod.mk.inj e2
  obtain ⟨_, k0, k1, hm, ht, h640⟩ := checkI_ok h.2.1
  obtain ⟨q0, q1, q2, q3⟩ := q
  simp only at e1 e2 k0 k1 hm ht h640
  unfold valueL at e2
  by_cases x1 : q1 = 1
  · rw [if_pos x1] at e2
    exact absurd ⟨q2, h.1.1, h.1.2, e2.symm⟩ ha
  · rw [if_neg x1] at e2
    by_cases x2 : q1 = 2
    · rw [if_pos x2] at e2
      exact absurd (Quotes.of (by rw [size_L]; exact h640) (by rw [L_mk, ← e2])) (hq q3)
    · rw [L_of _ e1, hm.resolve_left x1, L_of [] (ht.resolve_left x2), show q1 = 3 by omega]
/-- What Parse returns, from what Atoi and Unquote return. -/
theorem parse_num {s : ByteArray} {bf af : List UInt8} {fl : Bool} {n : Int} (hc : Lib.cut (L s) [61] = (bf, af, fl)) (ha : Lib.atoiAll af = .ok n) : parseV s = if formatF ⟨bf.toArray⟩ 1 n ⟨#[]⟩ = (s, 0) then (⟨⟨bf.toArray⟩, 1, n, ⟨#[]⟩⟩, 0) else (zeroP, 21) :=
  parseV_of (p := ⟨⟨bf.toArray⟩, 1, n, ⟨#[]⟩⟩) (atoi_range ha) (cand_num hc ha)
theorem parse_text {s : ByteArray} {bf af : List UInt8} {fl : Bool} {t : ByteArray} (hc : Lib.cut (L s) [61] = (bf, af, fl)) (ha : ¬ IsDec af) (hq : Quotes t ⟨af.toArray⟩) : parseV s = if formatF ⟨bf.toArray⟩ 2 0 t = (s, 0) then (⟨⟨bf.toArray⟩, 2, 0, t⟩, 0) else (zeroP, 21) :=
  parseV_of (p := ⟨⟨bf.toArray⟩, 2, 0, t⟩) ⟨by simp only; omega, by simp only; omega⟩ (cand_text hc ha hq)
theorem parse_null {s : ByteArray} {bf af : List UInt8} {fl : Bool} (hc : Lib.cut (L s) [61] = (bf, af, fl)) (ha : ¬ IsDec af) (hq : ∀ t, ¬ Quotes t ⟨af.toArray⟩) : parseV s = if formatF ⟨bf.toArray⟩ 3 0 ⟨#[]⟩ = (s, 0) then (⟨⟨bf.toArray⟩, 3, 0, ⟨#[]⟩⟩, 0) else (zeroP, 21) :=
  parseV_of (p := ⟨⟨bf.toArray⟩, 3, 0, ⟨#[]⟩⟩) ⟨by simp only; omega, by simp only; omega⟩ (cand_null hc ha hq)
end Go.Proofs.YtodbabeldolcbaaDoor.PA
