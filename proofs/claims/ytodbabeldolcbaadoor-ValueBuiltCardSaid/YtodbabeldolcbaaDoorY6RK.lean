/- For the rows of this seat: what the listed tables give (GT), and worlds for the witnesses. Conditions: none. -/
import Derived.Test.YtodbabeldolcbaaDoorRows
import Derived.Test.YtodbabeldolcbaaDoorY6GT
import Derived.Test.YtodbabeldolcbaaDoorY6EQuote
import Derived.ProofKit
import Derived.LaidMore
import Derived.Stop.LaidErr
import Derived.Lib.LaidTab
import Derived.Lib.SmallJoins
import Derived.OpenShut
import Derived.Shelf.Vars
namespace Go.Proofs.YtodbabeldolcbaaDoor.PA
open Go.ChangeShapes Go.WideShapes Go.ChangeAt Go.RowKit
theorem own : ownKnob Tryd.prog.godebug = none := by kernel_rfl
theorem laidOut : laidOutB Tryd.prog = true := by kernel_rfl
theorem gDigType : (Tryd.prog.globals[(0 : Nat)]?).map (·.type) = some 86 := by kernel_rfl
theorem gPowType : (Tryd.prog.globals[(5 : Nat)]?).map (·.type) = some 141 := by kernel_rfl
theorem cellsDig : Tryd.prog.cellsOf 86 = 16 := by kernel_rfl
theorem cellsPow : Tryd.prog.cellsOf 141 = 20 := by kernel_rfl
theorem cellsByte : Tryd.prog.cellsOf 5 = 1 := by kernel_rfl
theorem cellsU64 : Tryd.prog.cellsOf 121 = 1 := by kernel_rfl
def IsRow (k : IntKind) (w : World) (a : Option Addr) (len cap : Nat) (zs : List Int) : Prop :=
  (a = none ∧ len = 0 ∧ cap = 0 ∧ zs = []) ∨
  ∃ x, a = some x ∧ len ≤ cap ∧ cap ≤ maxLen ∧ zs.length = cap ∧ (∀ i, i < zs.length → w.cell? (x.add i) = some (.int k (zs.getD i 0))) ∧ ∀ n ∈ zs, (Lit.int k n).wf = true
theorem gSynType : (Tryd.prog.globals[(3 : Nat)]?).map (·.type) = some 56 := by kernel_rfl
theorem gRngType : (Tryd.prog.globals[(4 : Nat)]?).map (·.type) = some 56 := by kernel_rfl
theorem starErr : "*" ++ "errors.errorString" = "*errors.errorString" := by decide
theorem rowErr (u : TypeId) (h : Tryd.prog.typeName? 3 u = some "*errors.errorString") : u = 137 :=
  typeName_ptr_named (nm := "errors.errorString") (by rw [starErr]; kernel_rfl) (by kernel_rfl) (by decide) u (by rw [starErr]; exact h)
theorem cellsErr : Tryd.prog.cellsOf 139 = 1 := by kernel_rfl
theorem cellsStr : Tryd.prog.cellsOf 9 = 1 := by kernel_rfl
theorem maxCell (W : World) (hsh : W.ShapedOpen Tryd.prog) : ∃ m, W.cell? ⟨2, 0, none⟩ = some (.int .i64 m) :=
  cell_of_shapedOpen_int (zero := #[.int .i64 0]) (t := 3) hsh (of_decide_eq_true (by kernel_rfl)) (by kernel_rfl) rfl (by kernel_rfl) (by kernel_rfl) Tryd.underlying3
theorem table1 {W : World} (h : laidMetH Tryd.prog [("math/bits.deBruijn32tab", Rows.laid_math_bits_deBruijn32tab), ("math/bits.deBruijn64tab", Rows.laid_math_bits_deBruijn64tab), ("internal/strconv.uint64pow10", Rows.laid_internal_strconv_uint64pow10), ("strconv.ErrRange", Rows.laid_strconv_ErrRange), ("strconv.ErrSyntax", Rows.laid_strconv_ErrSyntax), ("kaudit/value.digits", Rows.laid_kaudit_value_digits)] W) (hsh : W.ShapedOpen Tryd.prog) : GT 1 W := by
  have h0 : laidMet Tryd.prog [("math/bits.deBruijn32tab", Rows.laid_math_bits_deBruijn32tab), ("math/bits.deBruijn64tab", Rows.laid_math_bits_deBruijn64tab), ("internal/strconv.uint64pow10", Rows.laid_internal_strconv_uint64pow10), ("strconv.ErrRange", Rows.laid_strconv_ErrRange), ("strconv.ErrSyntax", Rows.laid_strconv_ErrSyntax), ("kaudit/value.digits", Rows.laid_kaudit_value_digits)] W := h
  have h2 := h0.tail.tail
  obtain ⟨a0, s0, hv0, -, -, -⟩ := laid_sentinel h2.tail gRng gRngType Tryd.underlying56 rowErr Tryd.underlying137 Tryd.underlying139 rfl rfl Tryd.underlying9 cellsErr cellsStr
  obtain ⟨a1, s1, hv1, -, -, -⟩ := laid_sentinel h2.tail.tail gSyn gSynType Tryd.underlying56 rowErr Tryd.underlying137 Tryd.underlying139 rfl rfl Tryd.underlying9 cellsErr cellsStr
  exact ⟨Lib.tabIs_of_head gDig gDigType Tryd.underlying86 Tryd.underlying5 cellsByte cellsDig h2.tail.tail.tail,
    fun _ => Lib.tabIs_of_head gPow gPowType Tryd.underlying141 Tryd.underlying121 cellsU64 cellsPow h2, fun h => by omega,
    fun _ => maxCell W hsh, fun _ => ⟨_, _, hv1⟩, fun _ => ⟨_, _, hv0⟩⟩
noncomputable def laidWorld1 (os : Os) : World := World.doorLaid Tryd.prog 84 os
section
variable {H : Type} {enc : TypeId × Value → H} {w : World} {base b0 : Nat} {sp : Nat → Bool} {held : Bool} {r : Reach}
end
end Go.Proofs.YtodbabeldolcbaaDoor.PA
