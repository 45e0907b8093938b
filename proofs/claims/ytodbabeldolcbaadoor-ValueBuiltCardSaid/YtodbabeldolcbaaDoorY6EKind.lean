/- The Go functions record.find, record.Name, record.Single, record.Number return what the table kindsT says. Condition: the program's tables read as they were laid (GT 2). -/
import Derived.Test.YtodbabeldolcbaaDoorY6EQuote
namespace Go.Proofs.YtodbabeldolcbaaDoor.PA
open Go.RowKit Go.Proofs.YtodbabeldolcbaaDoorW.PrintWords Go.Proofs.YtodbabeldolcbaaDoorW.PrintLast Go.Proofs.YtodbabeldolcbaaDoorW.PrintMore
set_option linter.unusedVariables false
set_option linter.unusedSimpArgs false
theorem str_beq (s t : ByteArray) : (s.toList == t.toList) = decide (s = t) := by
  by_cases h : s = t
  · subst h; simp
  · have : ¬ s.toList = t.toList := fun e => h (M0.ext_L (by rw [← M0.toList_L, ← M0.toList_L]; exact e))
    simp [h, this]
/-- The k-th kind. -/
def kindAt (k : Nat) : List UInt8 × Int × Bool := kindsT.getD k ([], 0, false)
def strOf (l : List UInt8) : ByteArray := ⟨l.toArray⟩
def idxT (p : List UInt8 × Int × Bool → Bool) : Int := if kindsT.findIdx p < 10 then (kindsT.findIdx p : Nat) else -1
def kindF (p : List UInt8 × Int × Bool → Bool) : List UInt8 × Int × Bool := (kindsT.find? p).getD ([], 0, false)
theorem find_idx {α : Type} (p : α → Bool) (l : List α) : l.find? p = l[l.findIdx p]? := by
  induction l with
  | nil => rfl
  | cons a l ih =>
    rw [List.find?_cons, List.findIdx_cons]
    cases p a with
    | true => rfl
    | false => simpa using ih
theorem idx_cases (p : List UInt8 × Int × Bool → Bool) : (∃ k : Nat, k < 10 ∧ idxT p = (k : Int) ∧ kindF p = kindAt k) ∨ (idxT p = -1 ∧ kindF p = ([], 0, false)) := by
  by_cases h : kindsT.findIdx p < 10
  · refine .inl ⟨kindsT.findIdx p, h, by unfold idxT; rw [if_pos h], ?_⟩
    unfold kindF kindAt
    rw [find_idx, List.getD_eq_getElem?_getD]
  · refine .inr ⟨by unfold idxT; rw [if_neg h], ?_⟩
    unfold kindF
    rw [find_idx, List.getElem?_eq_none (by simpa [kindsT] using h)]
    rfl
end Go.Proofs.YtodbabeldolcbaaDoor.PA
