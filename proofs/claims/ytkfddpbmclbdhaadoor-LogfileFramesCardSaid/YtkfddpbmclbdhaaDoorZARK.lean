/- For the rows of this seat: what the listed tables give (GT), and worlds for the witnesses. Conditions: none. -/
import Derived.Test.YtkfddpbmclbdhaaDoorRows
import Derived.Test.YtkfddpbmclbdhaaDoorZAEQuote
import Derived.ProofKit
import Derived.LaidMore
import Derived.Stop.LaidErr
import Derived.OpenShut
import Derived.Shelf.Vars
namespace Go.Proofs.YtkfddpbmclbdhaaDoor.PA
open Go.ChangeShapes Go.WideShapes Go.ChangeAt Go.RowKit
theorem own : ownKnob Tryd.prog.godebug = none := by kernel_rfl
theorem laidOut : laidOutB Tryd.prog = true := by kernel_rfl
theorem gDigType : (Tryd.prog.globals[(0 : Nat)]?).map (·.type) = some 98 := by kernel_rfl
theorem gPowType : (Tryd.prog.globals[(2 : Nat)]?).map (·.type) = some 190 := by kernel_rfl
theorem gKindType : (Tryd.prog.globals[(1 : Nat)]?).map (·.type) = some 119 := by kernel_rfl
theorem cellsDig : Tryd.prog.cellsOf 98 = 16 := by kernel_rfl
theorem cellsPow : Tryd.prog.cellsOf 190 = 20 := by kernel_rfl
theorem cellsByte : Tryd.prog.cellsOf 5 = 1 := by kernel_rfl
theorem cellsU64 : Tryd.prog.cellsOf 78 = 1 := by kernel_rfl
def IsRow (k : IntKind) (w : World) (a : Option Addr) (len cap : Nat) (zs : List Int) : Prop :=
 (a = none ∧ len = 0 ∧ cap = 0 ∧ zs = []) ∨
 ∃ x, a = some x ∧ len ≤ cap ∧ cap ≤ maxLen ∧ zs.length = cap ∧ (∀ i, i < zs.length → w.cell? (x.add i) = some (.int k (zs.getD i 0))) ∧ ∀ n ∈ zs, (Lit.int k n).wf = true
noncomputable def laidWorld2 (os : Os) : World := World.doorLaid Tryd.prog 36 os
section
variable {H : Type} {enc : TypeId × Value → H} {w : World} {base b0 : Nat} {sp : Nat → Bool} {held : Bool} {r : Reach}
end
end Go.Proofs.YtkfddpbmclbdhaaDoor.PA
