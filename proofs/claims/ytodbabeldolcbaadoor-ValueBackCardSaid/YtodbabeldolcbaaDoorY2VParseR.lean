/- What Parse of a line returns: the one record that Format writes so, if there is one; no permitted line is longer than 31240 bytes. Plain lemmas; conditions: each lemma names its own. -/
import Derived.Test.YtodbabeldolcbaaDoorY2VParse
namespace Go.Proofs.YtodbabeldolcbaaDoor.PA
set_option linter.unusedSimpArgs false
set_option linter.unusedVariables false
open Go.RowKit Go.Proofs.YtodbabeldolcbaaDoorW.PrintWords Go.Proofs.YtodbabeldolcbaaDoorW.PrintLast Go.Proofs.YtodbabeldolcbaaDoorW.PrintMore Go.Proofs.YtodbabeldolcbaaDoor.M0
abbrev RecT := Int × Int × Int × List S25
/-- This record is permitted, and this is its line. -/
def FormsR (r : RecT) (s : ByteArray) : Prop := numsOK r.2.2.2 = true ∧ checkR r.1 r.2.1 r.2.2.1 r.2.2.2 = 0 ∧ L s = lineL r.1 r.2.1 r.2.2.1 r.2.2.2
theorem FormsR.format {r : RecT} {s : ByteArray} (h : FormsR r s) : formatR r.1 r.2.1 r.2.2.1 r.2.2.2 = (s, 0) := by
  unfold formatR
  rw [if_pos h.2.1, ← h.2.2]
  rfl
theorem FormsR.of {r : RecT} {s : ByteArray} (hn : numsOK r.2.2.2 = true) (h : formatR r.1 r.2.1 r.2.2.1 r.2.2.2 = (s, 0)) : FormsR r s := by
  unfold formatR at h
  by_cases hc : checkR r.1 r.2.1 r.2.2.1 r.2.2.2 = 0
  · rw [if_pos hc] at h
    refine ⟨hn, hc, ?_⟩
    rw [← (Prod.mk.inj h).1, L_mk]
  · rw [if_neg hc] at h
    exact absurd (Prod.mk.inj h).2 hc
theorem FormsR.inj {p q : RecT} {s : ByteArray} (hp : FormsR p s) (hq : FormsR q s) : p = q := by
  obtain ⟨c0, c1, c2, c3⟩ := line_inj hp.2.1 hq.2.1 (hp.2.2.symm.trans hq.2.2)
  obtain ⟨p0, p1, p2, p3⟩ := p
  obtain ⟨q0, q1, q2, q3⟩ := q
  simp only at c0 c1 c2 c3
  rw [c0, c1, c2, c3]
end Go.Proofs.YtodbabeldolcbaaDoor.PA
