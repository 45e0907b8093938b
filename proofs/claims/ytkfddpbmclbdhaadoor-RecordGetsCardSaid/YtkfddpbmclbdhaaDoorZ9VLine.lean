/- The line of a record tells the record: plain lemmas (no program in them). Conditions: each lemma names its own. -/
import Derived.Test.YtkfddpbmclbdhaaDoorZ9EForm
import Derived.Test.YtkfddpbmclbdhaaDoorZ9VMake
namespace Go.Proofs.YtkfddpbmclbdhaaDoor.PA
set_option linter.unusedSimpArgs false
set_option linter.unusedVariables false
open Go.RowKit Go.Proofs.YtkfddpbmclbdhaaDoorW.PrintWords Go.Proofs.YtkfddpbmclbdhaaDoorW.PrintLast Go.Proofs.YtkfddpbmclbdhaaDoorW.PrintMore Go.Proofs.YtkfddpbmclbdhaaDoor.M0
/-! ### Which bytes are written -/
def Pr (l : List UInt8) : Prop := ∀ b ∈ l, 33 ≤ b.toNat ∧ b.toNat ≤ 126
theorem Pr.append {a b : List UInt8} (ha : Pr a) (hb : Pr b) : Pr (a ++ b) := fun x hx => (List.mem_append.1 hx).elim (ha x) (hb x)
theorem Pr.cons {a : UInt8} {b : List UInt8} (ha : 33 ≤ a.toNat ∧ a.toNat ≤ 126) (hb : Pr b) : Pr (a :: b) := fun x hx => by
  rcases List.mem_cons.1 hx with rfl | hx
  · exact ha
  · exact hb x hx
/-- Are these digits? -/
def Dg (l : List UInt8) : Prop := ∀ b ∈ l, 48 ≤ b.toNat ∧ b.toNat ≤ 57
theorem Dg.no {l : List UInt8} (h : Dg l) (c : UInt8) (hc : c.toNat < 48 ∨ 57 < c.toNat) : c ∉ l := fun hm => by have := h c hm; omega
end Go.Proofs.YtkfddpbmclbdhaaDoor.PA
