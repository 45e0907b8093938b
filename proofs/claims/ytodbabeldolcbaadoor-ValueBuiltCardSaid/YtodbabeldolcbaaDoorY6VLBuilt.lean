/- The law ValueBuilt in plain Lean: the two Formats and the two Parses agree on a pair that is built, one byte of its text changed. Conditions: none. -/
import Derived.Test.YtodbabeldolcbaaDoorY6EBuilt
import Derived.Test.YtodbabeldolcbaaDoorY6VLParses
import Derived.Test.YtodbabeldolcbaaDoorY6VMake
import Derived.Test.YtodbabeldolcbaaDoorY6PAx0
import Derived.Test.YtodbabeldolcbaaDoorY6PAx4
namespace Go.Proofs.YtodbabeldolcbaaDoor.PA
set_option linter.unusedSimpArgs false
set_option linter.unusedVariables false
open Go.RowKit Go.Proofs.YtodbabeldolcbaaDoorW.PrintWords Go.Proofs.YtodbabeldolcbaaDoorW.PrintLast Go.Proofs.YtodbabeldolcbaaDoorW.PrintMore Go.Proofs.YtodbabeldolcbaaDoor.M0
theorem strOfNums_size (l : List Int) : (strOfNums l).size = l.length := by
  show (strOfNums l).data.size = _
  simp [strOfNums]
theorem formatF_small (n : ByteArray) (a1 a2 : Int) (t : ByteArray) (h0 : -9223372036854775808 ≤ a2) (h1 : a2 ≤ 9223372036854775807) : (formatF n a1 a2 t).1.size ≤ 1400 := by
  by_cases he : (formatF n a1 a2 t).2 = 0
  · have hf : Forms ⟨n, a1, a2, t⟩ (formatF n a1 a2 t).1 := Forms.of ⟨h0, h1⟩ (Prod.ext rfl he)
    rw [size_L, hf.2.2]
    exact formL_len hf.2.1 h0 h1
  · unfold formatF at he ⊢
    split
    · rename_i h; rw [if_pos h] at he; exact absurd rfl he
    · exact Nat.zero_le _
theorem built_j0 (k : Nat) (l : List Int) (at_ : Int) (y : Int) (s : ByteArray) (h0 : 0 ≤ at_) (h1 : at_ ≤ 1000) (hs : s.size ≤ 1400) : kauditlaw02_ValueBuilt.j0 (k + 1) y s false l at_ = some true := by
  rw [kauditlaw02_ValueBuilt.j0, if_neg (by decide)]
  by_cases hz : (s.size : Int) > 0
  · rw [if_pos hz]
    simp only [Option.bind_some]
    obtain ⟨x, hx, x0, x1⟩ := src_N l at_ ((strNums s).length : Int) ⟨h0, by omega⟩ (by rw [strNums_length]; omega) (by rw [strNums_length]; omega)
    rw [hx]
    simp only [Option.bind_some]
    have hq : (strOfNums ((strNums s).set x.toNat y)).size ≤ 100000 := by
      rw [strOfNums_size, List.length_set, strNums_length]; omega
    rw [if_pos x0, if_pos x1, vparse_tup _ hq, rparse_tup _ hq]
    simp [awake02]
  · rw [if_neg hz, vparse_tup s (by omega), rparse_tup s (by omega)]
    simp [awake02]
/-- The law ValueBuilt, plain. -/
theorem pure_ValueBuilt (l0 : List Int) (y : Int) (_ : l0.length ≤ maxLen) (_ : l0.length * 8 ≤ 140737488351232) (_ : ∀ x ∈ l0, (Lit.int .i64 x).wf = true) (_ : (Lit.int .u8 y).wf = true) : ∃ k, kauditlaw02_ValueBuilt.f k l0 y = some true := by
  refine ⟨1000, ?_⟩
  unfold kauditlaw02_ValueBuilt.f kauditmake_New.f
  simp only [Option.bind_some]
  obtain ⟨n, a1, a2, t, at1, h1, p1, g1, g2⟩ := src_Pair l0 0 1000 (by omega) (by omega) (by omega)
  rw [h1]
  simp only [Option.bind_some]
  have q1 := p1.name
  rw [value_Format_run n a1 a2 t (by omega) p1.num.1 p1.num.2 1000 (by omega), ref_Format_run n a1 a2 t (by omega) p1.num.1 p1.num.2 1000 (by omega), value_Check_run n a1 a2 t (by omega) 1000 (by omega), ref_Check_run n a1 a2 t 1000 (by omega)]
  simp only [Option.bind_some]
  rw [if_pos trivial, if_pos trivial]
  have e : ((formatF n a1 a2 t).1.toList != (formatF n a1 a2 t).1.toList) = false := by simp
  rw [e]
  exact built_j0 999 l0 at1 y _ (by omega) (by omega) (formatF_small n a1 a2 t p1.num.1 p1.num.2)
end Go.Proofs.YtodbabeldolcbaaDoor.PA
