/- For the rows of this seat: what the listed tables give (GT), and worlds for the witnesses. Conditions: none. -/
import Derived.Test.YtkfddpbmclbdhaaDoorRows
import Derived.Test.YtkfddpbmclbdhaaDoorGT
import Derived.Test.YtkfddpbmclbdhaaDoorEQuote
import Derived.ProofKit
import Derived.LaidMore
import Derived.Stop.LaidErr
import Derived.Lib.LaidTab
import Derived.Lib.SmallJoins
import Derived.OpenShut
namespace Go.Proofs.YtkfddpbmclbdhaaDoor.PA
open Go.ChangeShapes Go.WideShapes Go.ChangeAt Go.RowKit

theorem own : ownKnob Tryd.prog.godebug = none := by kernel_rfl
theorem laidOut : laidOutB Tryd.prog = true := by kernel_rfl
theorem gDigType : (Tryd.prog.globals[(0 : Nat)]?).map (·.type) = some 98 := by kernel_rfl
theorem gPowType : (Tryd.prog.globals[(2 : Nat)]?).map (·.type) = some 190 := by kernel_rfl
theorem gKindType : (Tryd.prog.globals[(1 : Nat)]?).map (·.type) = some 119 := by kernel_rfl
theorem cellsDig : Tryd.prog.cellsOf 98 = 16 := by kernel_rfl
theorem cellsPow : Tryd.prog.cellsOf 190 = 20 := by kernel_rfl
theorem cellsByte : Tryd.prog.cellsOf 5 = 1 := by kernel_rfl
theorem cellsU64 : Tryd.prog.cellsOf 78 = 1 := by kernel_rfl

def IsRow (k : IntKind) (w : World) (a : Option Addr) (len cap : Nat) (zs : List Int) : Prop :=
  (a = none ∧ len = 0 ∧ cap = 0 ∧ zs = []) ∨
  ∃ x, a = some x ∧ len ≤ cap ∧ cap ≤ maxLen ∧ zs.length = cap ∧ (∀ i, i < zs.length → w.cell? (x.add i) = some (.int k (zs.getD i 0))) ∧ ∀ n ∈ zs, (Lit.int k n).wf = true

theorem table0 {W : World} (h : laidMetH Tryd.prog [("kaudit/value.digits", Rows.laid_kaudit_value_digits)] W) : GT 0 W :=
  ⟨Lib.tabIs_of_head (rest := []) gDig gDigType Tryd.underlying98 Tryd.underlying5 cellsByte cellsDig h, fun h => by omega, fun h => by omega⟩
theorem table1 {W : World} (h : laidMetH Tryd.prog [("math/bits.deBruijn32tab", Rows.laid_math_bits_deBruijn32tab), ("math/bits.deBruijn64tab", Rows.laid_math_bits_deBruijn64tab), ("internal/strconv.uint64pow10", Rows.laid_internal_strconv_uint64pow10), ("kaudit/value.digits", Rows.laid_kaudit_value_digits)] W) : GT 1 W := by
  have h0 : laidMet Tryd.prog [("math/bits.deBruijn32tab", Rows.laid_math_bits_deBruijn32tab), ("math/bits.deBruijn64tab", Rows.laid_math_bits_deBruijn64tab), ("internal/strconv.uint64pow10", Rows.laid_internal_strconv_uint64pow10), ("kaudit/value.digits", Rows.laid_kaudit_value_digits)] W := h
  have h2 := h0.tail.tail
  exact ⟨Lib.tabIs_of_head (rest := []) gDig gDigType Tryd.underlying98 Tryd.underlying5 cellsByte cellsDig h2.tail,
    fun _ => Lib.tabIs_of_head gPow gPowType Tryd.underlying190 Tryd.underlying78 cellsU64 cellsPow h2, fun h => by omega⟩

/-- Worlds for the witnesses: the settled one, the tables holding what their initialisers lay. -/
noncomputable def laidWorld0 (os : Os) : World :=
  { World.holding Tryd.prog os ⟨#[], #[], []⟩ with heap := (World.holding Tryd.prog os ⟨#[], #[], []⟩).heap.modify 0 fun
      | .cells _ t frozen => .cells digArr t frozen
      | o => o }
noncomputable def laidWorld1 (os : Os) : World := World.doorLaid Tryd.prog 44 os
noncomputable def laidWorld2 (os : Os) : World := World.doorLaid Tryd.prog 44 os

section
variable {H : Type} {enc : TypeId × Value → H} {w : World} {base b0 : Nat} {sp : Nat → Bool} {held : Bool} {r : Reach}
theorem bd64 {x : Int} (h : (Lit.int .i64 x).wf = true) : -9223372036854775808 ≤ x ∧ x ≤ 9223372036854775807 := by
  have := bounds_i64 h
  omega
set_option maxRecDepth 100000 in
/-- A pair that comes in. -/
theorem open_pair {v : Value} {d : DataW H} {p : List MemPlace} (hv : Value.okWide Tryd.prog w r b0 31 v) (h : DataW.Trod enc Tryd.prog w base sp held 31 v d p) :
    ∃ (s : ByteArray) (x y : Int) (t : ByteArray), v = .agg #[.string s, .int .i64 x, .int .i64 y, .string t] ∧ (-9223372036854775808 ≤ x ∧ x ≤ 9223372036854775807) ∧ (-9223372036854775808 ≤ y ∧ y ≤ 9223372036854775807) := by
  obtain ⟨c0, c1, c2, c3, y0, y1, y2, y3, m, rfl, _, _, t0, t1, t2, t3⟩ := Joins.open_agg4 Tryd.underlying31 (by kernel_rfl) (by kernel_rfl) hv h
  obtain ⟨s, e0, _, _⟩ := DataW.trod_string Tryd.underlying9 t0
  obtain ⟨x, e1, _, w1⟩ := DataW.trod_int Tryd.underlying3 t1
  obtain ⟨y, e2, _, w2⟩ := DataW.trod_int Tryd.underlying3 t2
  obtain ⟨t, e3, _, _⟩ := DataW.trod_string Tryd.underlying9 t3
  simp only [List.cons.injEq, and_true] at e0 e1 e2 e3
  subst e0 e1 e2 e3
  exact ⟨s, x, y, t, rfl, bd64 w1, bd64 w2⟩
end
end Go.Proofs.YtkfddpbmclbdhaaDoor.PA
