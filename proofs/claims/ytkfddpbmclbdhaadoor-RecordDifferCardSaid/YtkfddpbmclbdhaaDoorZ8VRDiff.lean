/- The law RecordDiffer in plain Lean: the lines of two records that are permitted are equal exactly if the records are. Conditions: none. -/
import Derived.Test.YtkfddpbmclbdhaaDoorZ8VRec
import Derived.Test.YtkfddpbmclbdhaaDoorZ8VSame
import Derived.Test.YtkfddpbmclbdhaaDoorZ8PAx16
namespace Go.Proofs.YtkfddpbmclbdhaaDoor.PA
set_option linter.unusedSimpArgs false
set_option linter.unusedVariables false
open Go.RowKit Go.Proofs.YtkfddpbmclbdhaaDoorW.PrintWords Go.Proofs.YtkfddpbmclbdhaaDoorW.PrintLast Go.Proofs.YtkfddpbmclbdhaaDoorW.PrintMore Go.Proofs.YtkfddpbmclbdhaaDoor.M0
theorem lines_eq {t tm sr t' tm' sr' : Int} {l l' : List S31} (h : (formatR t tm sr l).2 = 0) (h' : (formatR t' tm' sr' l').2 = 0) :
    ((formatR t tm sr l).1.toList == (formatR t' tm' sr' l').1.toList) = decide (t = t' ∧ tm = tm' ∧ sr = sr' ∧ l = l') := by
  have ok : ∀ (t tm sr : Int) (l : List S31), (formatR t tm sr l).2 = 0 → checkR t tm sr l = 0 ∧ (formatR t tm sr l).1 = ⟨(lineL t tm sr l).toArray⟩ := by
    intro t tm sr l h
    unfold formatR at h ⊢
    split
    · rename_i hc; exact ⟨hc, rfl⟩
    · rename_i hc; rw [if_neg hc] at h; exact absurd h hc
  obtain ⟨c1, e1⟩ := ok _ _ _ _ h
  obtain ⟨c2, e2⟩ := ok _ _ _ _ h'
  rw [e1, e2, toList_L, toList_L, L_mk, L_mk, Bool.eq_iff_iff, beq_iff_eq, decide_eq_true_eq]
  constructor
  · exact line_inj c1 c2
  · rintro ⟨a, b, c, d⟩
    rw [a, b, c, d]
theorem differ_j (k : Nat) (hk : 100 < k) (t tm sr t' tm' sr' : Int) (l l' : List S31) (h : allOK l) (h' : allOK l') (hl : l.length ≤ 10) : kauditlaw03_RecordDiffer.j0 k t tm sr l t' tm' sr' l' = some true := by
  obtain ⟨k, rfl⟩ : ∃ m, k = m + 1 := ⟨k - 1, by omega⟩
  rw [kauditlaw03_RecordDiffer.j0, format_run _ _ _ _ h, format_run _ _ _ _ h', awake03_run, same_run _ _ _ _ _ _ _ _ (by omega) _ (by omega)]
  simp only [Option.bind_some]
  by_cases e1 : (formatR t tm sr l).2 = 0
  · rw [if_pos e1]
    by_cases e2 : (formatR t' tm' sr' l').2 = 0
    · rw [if_pos e2, lines_eq e1 e2, if_pos (by simp)]
    · rw [if_neg e2]
  · rw [if_neg e1]
/-- The law RecordDiffer, plain. -/
theorem pure_RecordDiffer (l0 : List Int) (_ : l0.length ≤ maxLen) (_ : l0.length * 8 ≤ 140737488351232) (_ : ∀ x ∈ l0, (Lit.int .i64 x).wf = true) : ∃ k, kauditlaw03_RecordDiffer.f k l0 = some true := by
  refine ⟨200, ?_⟩
  unfold kauditlaw03_RecordDiffer.f kauditmake_New.f
  simp only [Option.bind_some]
  obtain ⟨t, tm, sr, ps, at1, h1, p1, p2, p3, p4, p5, p6, g1, g2⟩ := src_Record l0 0 200 (by omega) (by omega) (by omega)
  rw [h1]
  simp only [Option.bind_some]
  obtain ⟨x, hx, x0, x1⟩ := src_N l0 at1 4 ⟨by omega, by omega⟩ (by omega) (by omega)
  rw [hx]
  simp only [Option.bind_some]
  by_cases e0 : x = 0
  · rw [if_pos e0]
    obtain ⟨t', tm', sr', ps', at2, h2, q1, q2, _⟩ := src_Record l0 (at1 + 1) 200 (by omega) (by omega) (by omega)
    rw [h2]
    simp only [Option.bind_some]
    exact differ_j 200 (by omega) _ _ _ _ _ _ _ _ p1 q1 (by omega)
  · rw [if_neg e0]
    by_cases e1 : x = 1
    · rw [if_pos e1]
      obtain ⟨y, hy, _, _⟩ := src_N l0 (at1 + 1) 2 ⟨by omega, by omega⟩ (by omega) (by omega)
      rw [hy]
      simp only [Option.bind_some]
      exact differ_j 200 (by omega) _ _ _ _ _ _ _ _ p1 p1 (by omega)
    · rw [if_neg e1]
      by_cases e2 : x = 2
      · rw [if_pos e2, if_pos (by rw [List.length_nil]; omega)]
        simp only [List.nil_append, Option.bind_some]
        obtain ⟨n, a1, a2, tx, at2, hq, hpk, _, _⟩ := src_Pair l0 (at1 + 1) 200 (by omega) (by omega) (by omega)
        rw [hq]
        simp only [Option.bind_some]
        rw [if_pos (by omega)]
        exact differ_j 200 (by omega) _ _ _ _ _ _ _ _ p1 (p1.snoc hpk) (by omega)
      · rw [if_neg e2]
        exact differ_j 200 (by omega) _ _ _ _ _ _ _ _ p1 p1 (by omega)
end Go.Proofs.YtkfddpbmclbdhaaDoor.PA
