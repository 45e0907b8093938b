/- The law RecordBack in plain Lean: a record that is permitted comes back from its line, and the line has no line feed. Conditions: none. -/
import Derived.Test.YtodbabeldolcbaaDoorY4ERParse
import Derived.Test.YtodbabeldolcbaaDoorY4VRec
import Derived.Test.YtodbabeldolcbaaDoorY4VSame
import Derived.Test.YtodbabeldolcbaaDoorY4VCuts
import Derived.Test.YtodbabeldolcbaaDoorY4PAx0
import Derived.Test.YtodbabeldolcbaaDoorY4PAx4
import Derived.Test.YtodbabeldolcbaaDoorY4PAx15
namespace Go.Proofs.YtodbabeldolcbaaDoor.PA
set_option linter.unusedSimpArgs false
set_option linter.unusedVariables false
open Go.RowKit Go.Proofs.YtodbabeldolcbaaDoorW.PrintWords Go.Proofs.YtodbabeldolcbaaDoorW.PrintLast Go.Proofs.YtodbabeldolcbaaDoorW.PrintMore Go.Proofs.YtodbabeldolcbaaDoor.M0
theorem nameK_nofeed (t : Int) : (10 : UInt8) ∉ L (nameK t) := by
  have key : ∀ k : Fin 10, (10 : UInt8) ∉ L (strOf (kindAt k.val).1) := by decide +kernel
  unfold nameK
  rcases idx_cases (fun k => k.2.1 == t) with ⟨k, hk, _, h⟩ | ⟨_, h⟩
  · rw [h]; exact key ⟨k, hk⟩
  · rw [h]; exact List.not_mem_nil
theorem restL_nofeed : ∀ {l : List S25}, goodP l → (10 : UInt8) ∉ restL l
  | [], _ => List.not_mem_nil
  | p :: l, h => fun hm => by
    rw [restL_cons] at hm
    rcases List.mem_cons.1 hm with hm | hm
    · exact absurd hm (by decide)
    · rcases List.mem_append.1 hm with hm | hm
      · have := formL_pr (h p (List.mem_cons_self ..)) _ hm
        exact absurd this (by decide)
      · exact restL_nofeed (fun q hq => h q (List.mem_cons_of_mem _ hq)) hm
theorem line_nofeed {q : RecT} {s : ByteArray} (h : FormsR q s) : ∀ b ∈ L s, b.toNat ≠ 10 := by
  obtain ⟨_, _, _, _, _, hp⟩ := checkR_ok h.2.1
  have hg : goodP q.2.2.2 := pairsI_all _ [] hp
  obtain ⟨d1, d2, d3, hl, g1, g2, g3, _⟩ := line_shape h
  intro b hb hc
  have e : b = 10 := UInt8.toNat_inj.1 hc
  subst e
  rw [hl] at hb
  have n1 := g1.no 10 (by decide)
  have n2 := g2.no 10 (by decide)
  have n3 := g3.no 10 (by decide)
  simp only [List.mem_append] at hb
  rcases hb with hb | hb | hb | hb | hb | hb | hb | hb | hb | hb
  · exact absurd hb (by decide)
  · exact nameK_nofeed _ hb
  · exact absurd hb (by decide)
  · exact n1 hb
  · exact absurd hb (by decide)
  · exact n2 hb
  · exact absurd hb (by decide)
  · exact n3 hb
  · exact absurd hb (by decide)
  · exact restL_nofeed hg hb
theorem rback_loop (s : ByteArray) (hs : s.size ≤ 100000) (hb : ∀ b ∈ L s, b.toNat ≠ 10) (t tm sr : Int) (ps : List S25) (hl : ps.length ≤ 100) : ∀ (d i k : Nat), i + d = s.size → d + 200 ≤ k → kauditlaw03_RecordBack.l0 k s 0 (i : Int) t tm sr ps t tm sr ps = some true := by
  intro d
  induction d with
  | zero =>
    intro i k hi hk
    obtain ⟨k, rfl⟩ : ∃ m, k = m + 1 := ⟨k - 1, by omega⟩
    rw [kauditlaw03_RecordBack.l0, if_neg (by omega), if_pos rfl, same_run _ _ _ _ _ _ _ _ (by omega) k (by omega), Option.bind_some, if_pos (by simp), awake03_run]
    rfl
  | succ d ih =>
    intro i k hi hk
    obtain ⟨k, rfl⟩ : ∃ m, k = m + 1 := ⟨k - 1, by omega⟩
    have hlt : i < (L s).length := by rw [← size_L]; omega
    have hbb := hb _ (List.getElem_mem hlt)
    have hbt := bt_L s i hlt
    have hw : wrap64 ((i : Int) + 1) = ((i + 1 : Nat) : Int) := by rw [wrap64_id (by omega) (by omega)]; omega
    rw [kauditlaw03_RecordBack.l0, if_pos (by omega), if_pos (by omega), hbt, if_neg (by omega), hw]
    exact ih (i + 1) k (by omega) (by omega)
/-- The law RecordBack, plain. -/
theorem pure_RecordBack (l0 : List Int) (_ : l0.length ≤ maxLen) (_ : l0.length * 8 ≤ 140737488351232) (_ : ∀ x ∈ l0, (Lit.int .i64 x).wf = true) : ∃ k, kauditlaw03_RecordBack.f k l0 = some true := by
  refine ⟨100000, ?_⟩
  unfold kauditlaw03_RecordBack.f kauditmake_New.f
  simp only [Option.bind_some]
  obtain ⟨t, tm, sr, ps, at1, h1, p1, p2, p3, p4, p5, p6, g1, g2⟩ := src_Record l0 0 100000 (by omega) (by omega) (by omega)
  rw [h1]
  simp only [Option.bind_some]
  rw [format_run _ _ _ _ p1]
  simp only [Option.bind_some]
  by_cases e : (formatR t tm sr ps).2 = 0
  · rw [if_pos e]
    have hf : FormsR (t, tm, sr, ps) (formatR t tm sr ps).1 := FormsR.of p1.nums (Prod.ext rfl e)
    obtain ⟨s, hs⟩ : ∃ s, s = (formatR t tm sr ps).1 := ⟨_, rfl⟩
    rw [← hs] at hf ⊢
    have hz := line_len hf
    unfold record_Parse.f
    rw [if_pos (by omega), parseW_yes hf, Option.bind_some]
    exact rback_loop s (by omega) (line_nofeed hf) t tm sr ps (by omega) s.size 0 100000 (by omega) (by omega)
  · rw [if_neg e]
    unfold record_Check.f
    rw [if_pos p1.short, Option.bind_some]
    have hc : (formatR t tm sr ps).2 = checkR t tm sr ps := by
      unfold formatR at e ⊢
      split
      · rename_i h; rw [if_pos h] at e; exact absurd rfl e
      · rfl
    rw [if_pos hc.symm, awake03_run]
    rfl
end Go.Proofs.YtodbabeldolcbaaDoor.PA
