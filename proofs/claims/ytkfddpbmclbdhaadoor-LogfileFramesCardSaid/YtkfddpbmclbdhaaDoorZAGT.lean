/- What the program's laid tables hold ('GT w'), and that a call that writes only memory of its own leaves it so. Conditions: none. -/
import Derived.Test.YtkfddpbmclbdhaaDoorProg
import Derived.WalkSmall
import Derived.Below
import Derived.KernelRfl
import Derived.Lib.LaidTab
namespace Go.Proofs.YtkfddpbmclbdhaaDoor.PA
open Go.RowKit
def digs : List Int := [48, 49, 50, 51, 52, 53, 54, 55, 56, 57, 97, 98, 99, 100, 101, 102]
def pows : List Int := [1, 10, 100, 1000, 10000, 100000, 1000000, 10000000, 100000000, 1000000000, 10000000000, 100000000000, 1000000000000, 10000000000000, 100000000000000, 1000000000000000, 10000000000000000, 100000000000000000, 1000000000000000000, 10000000000000000000]
def kindsT : List (List UInt8 × Int × Bool) := [([85, 83, 69, 82], 1005, true), ([68, 65, 69, 77, 79, 78], 1200, true), ([83, 89, 83, 67, 65, 76, 76], 1300, false), ([80, 65, 84, 72], 1302, false), ([67, 79, 78, 70, 73, 71], 1305, true), ([83, 79, 67, 75, 65, 68, 68, 82], 1306, false), ([67, 87, 68], 1307, false), ([69, 88, 69, 67, 86, 69], 1309, false), ([69, 79, 69], 1320, false), ([76, 79, 83, 83], 1331, true)]
def kindCells : List Value := kindsT.flatMap fun k => [.string ⟨k.1.toArray⟩, .int .i64 k.2.1, .bool k.2.2]
structure GT (n : Nat) (w : World) : Prop where
  dig : Lib.TabIs Tryd.prog w "kaudit/value.digits" .u8 digs
  pow : 1 ≤ n → Lib.TabIs Tryd.prog w "internal/strconv.uint64pow10" .u64 pows
  kind : 2 ≤ n → w.var? Tryd.prog "kaudit/record.kinds" = some kindCells.toArray
theorem gDig : Tryd.prog.globalNamed "kaudit/value.digits" = some 0 := by kernel_rfl
theorem gKind : Tryd.prog.globalNamed "kaudit/record.kinds" = some 1 := by kernel_rfl
theorem gPow : Tryd.prog.globalNamed "internal/strconv.uint64pow10" = some 2 := by kernel_rfl
theorem var_lt {w : World} {name : String} {g : Nat} {cs : Array Value} (hv : w.var? Tryd.prog name = some cs) (hg : Tryd.prog.globalNamed name = some g) : g < w.heap.size := by
  unfold World.var? at hv
  rw [hg] at hv
  simp only [Option.bind_some] at hv
  rcases Nat.lt_or_ge g w.heap.size with h | h
  · exact h
  · rw [Array.getElem?_eq_none h] at hv
    cases hv
theorem GT.below {m n : Nat} {w w' : World} (hmn : m ≤ n) (h : GT n w) (hb : Below w.heap.size w w') : GT m w' :=
  ⟨var?_below hb gDig (var_lt h.dig gDig) h.dig,
   fun hm => var?_below hb gPow (var_lt (h.pow (by omega)) gPow) (h.pow (by omega)),
   fun hm => var?_below hb gKind (var_lt (h.kind (by omega)) gKind) (h.kind (by omega))
   ⟩
theorem GT.digLt {n : Nat} {w : World} (h : GT n w) : 0 < w.heap.size := var_lt h.dig gDig
theorem GT.mono {m n : Nat} {w : World} (hmn : m ≤ n) (h : GT n w) : GT m w := GT.below hmn h (Below.refl _ _)
theorem GT.digCell {n : Nat} {w : World} (h : GT n w) (i : Nat) (hi : i < 16) : w.cell? ⟨0, i, none⟩ = some (.int .u8 (digs.getD i 0)) := h.dig.cell gDig i hi
end Go.Proofs.YtkfddpbmclbdhaaDoor.PA
