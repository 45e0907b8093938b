/- The law RecordBuilt in plain Lean: the two Parses agree on the line of a record that is built, with one byte changed, left out or added. Conditions: none. -/
import Derived.Test.YtodbabeldolcbaaGreatDoorY9VLRParses
import Derived.Test.YtodbabeldolcbaaGreatDoorY9PAx12
namespace Go.Proofs.YtodbabeldolcbaaGreatDoor.PA
set_option linter.unusedSimpArgs false
set_option linter.unusedVariables false
open Go.RowKit Go.Proofs.YtodbabeldolcbaaGreatDoorW.PrintWords Go.Proofs.YtodbabeldolcbaaGreatDoorW.PrintLast Go.Proofs.YtodbabeldolcbaaGreatDoorW.PrintMore Go.Proofs.YtodbabeldolcbaaGreatDoor.M0
theorem formatR_small (t tm sr : Int) (ps : List S88) (hn : Zce ps = true) : (Zby t tm sr ps).1.size ≤ 31240 := by
 by_cases e : (Zby t tm sr ps).2 = 0
 ·exact line_len (Zbw.of (r := (t, tm, sr, ps)) hn (Prod.ext rfl e))
 ·unfold Zby at e ⊢
  split
  ·rename_i h; rw [if_pos h] at e; exact absurd rfl e
  ·exact Nat.zero_le _
theorem one_size (y : Int) : (strOfNums [y]).size = 1 := rfl
theorem extract_small (s : ByteArray) (a b : Nat) : (s.extract a b).size ≤ s.size := by
 rw [ByteArray.size_extract]; omega
theorem pure_RecordBuilt (l0 : List Int) (y : Int) (_ : l0.length ≤ maxLen) (_ : l0.length * 8 ≤ 140737488351232) (_ : ∀ x ∈ l0, (Lit.int .i64 x).wf = true) (_ : (Lit.int .u8 y).wf = true) : ∃ k, kauditlaw03_RecordBuilt.f k l0 y = some true := by
 refine ⟨1000, ?_⟩
 unfold kauditlaw03_RecordBuilt.f kauditmake_New.f
 simp only [Option.bind_some]
 obtain ⟨t, tm, sr, ps, at1, h1, p1, p2, p3, p4, p5, p6, g1, g2⟩ := src_Record l0 0 1000 (by omega) (by omega) (by omega)
 rw [h1]
 simp only [Option.bind_some]
 rw [agrees_run 1000 (by omega) t tm sr ps p1.nums p1.short, ref03_Format_run 1000 (by omega) t tm sr ps p1.nums p1.short]
 simp only [Option.bind_some]
 rw [if_pos trivial]
 have hz := formatR_small t tm sr ps p1.nums
 obtain ⟨s, hs⟩ : ∃ s, s = (Zby t tm sr ps).1 := ⟨_, rfl⟩
 rw [← hs] at hz ⊢
 by_cases h0 : (s.size : Int) = 0
 ·rw [if_pos h0, awake03_run]; rfl
 ·rw [if_neg h0]
  obtain ⟨x, hx, x0, x1⟩ := src_N l0 at1 (s.size : Int) ⟨by omega, by omega⟩ (by omega) (by omega)
  rw [hx]
  simp only [Option.bind_some]
  have hw : wrap64 (x + 1) = x + 1 := wrap64_id (by omega) (by omega)
  have e1 := extract_small s 0 x.toNat
  have e2 := extract_small s (x + 1).toNat s.size
  have e3 := extract_small s x.toNat s.size
  have e4 : (⟨#[32]⟩ : ByteArray).size = 1 := rfl
  rw [hw, reads_run 1000 (by omega) s (by omega), Option.bind_some, if_pos rfl, if_pos x0, if_pos (by omega)]
  rw [if_pos (by rw [one_size]; omega), if_pos (by omega), if_pos (by omega), if_pos (by rw [ByteArray.size_append, one_size]; omega)]
  rw [reads_run 1000 (by omega) _ (by rw [ByteArray.size_append, ByteArray.size_append, one_size]; omega), Option.bind_some, if_pos rfl, if_pos (by omega)]
  rw [reads_run 1000 (by omega) _ (by rw [ByteArray.size_append]; omega), Option.bind_some, if_pos rfl]
  rw [if_pos (by rw [one_size]; omega), if_pos (by rw [ByteArray.size_append, one_size]; omega)]
  rw [reads_run 1000 (by omega) _ (by rw [ByteArray.size_append, ByteArray.size_append, one_size]; omega), Option.bind_some, if_pos rfl, if_pos (by omega)]
  rw [reads_run 1000 (by omega) _ (by rw [ByteArray.size_append, e4]; omega), Option.bind_some, if_pos rfl, awake03_run]
  rfl
end Go.Proofs.YtodbabeldolcbaaGreatDoor.PA
