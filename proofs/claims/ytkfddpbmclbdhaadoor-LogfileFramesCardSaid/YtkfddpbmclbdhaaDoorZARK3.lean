/- A text cut by trim.py (ours): of a printed text, or of one of ours, only what this claim needs; conditions: each lemma names its own. -/
import Derived.Test.YtkfddpbmclbdhaaDoorZARK
import Derived.Lay
import Derived.Test.YtkfddpbmclbdhaaDoorZAEForm
section
namespace Go.Proofs.YtkfddpbmclbdhaaDoor.PA
open Go.ChangeShapes Go.WideShapes Go.ChangeAt Go.RowKit Go.Proofs.YtkfddpbmclbdhaaDoorW.PrintWords
section
variable {H : Type} {enc : TypeId × Value → H} {w : World} {base b0 : Nat} {sp : Nat → Bool} {held : Bool} {r : Reach}
theorem list3 {α : Type} {cs : List α} (h : cs.length = 3) : ∃ a b c, cs = [a, b, c] := by
 match cs, h with
 | [a, b, c], _ => exact ⟨a, b, c, rfl⟩
end
def kindRow (k : List UInt8 × Int × Bool) : List Value := [.string (strOf k.1), .int .i64 k.2.1, .bool k.2.2]
def kindData (k : List UInt8 × Int × Bool) : DataW Unit := .agg [.lit (.string k.1), .lit (.int .i64 k.2.1), .lit (.bool k.2.2)]
theorem kindsD : (Rows.laid_kaudit_record_kinds : DataW Unit) = .agg (kindsT.map kindData) := rfl
section
variable {enc : TypeId × Value → Unit} {w : World} {base : Nat} {sp : Nat → Bool} {held : Bool}
set_option maxRecDepth 100000 in
theorem kind_cell {fuel : Nat} {cs : List Value} {k : List UInt8 × Int × Bool} {p : List MemPlace} (h : DataW.trod enc Tryd.prog w base sp held fuel 118 cs = some (kindData k, p)) : cs = kindRow k := by
 obtain ⟨xs, n, _, hx, hl, hlen, hf⟩ := DataW.trod_struct Tryd.underlying118 h
 have c118 : Tryd.prog.cellsOf 118 = 3 := by kernel_rfl
 have c9 : Tryd.prog.cellsOf 9 = 1 := by kernel_rfl
 have c3 : Tryd.prog.cellsOf 3 = 1 := by kernel_rfl
 have c4 : Tryd.prog.cellsOf 4 = 1 := by kernel_rfl
 rw [c118] at hl
 obtain ⟨v0, v1, v2, rfl⟩ := list3 hl
 obtain ⟨y0, y1, y2, rfl⟩ := list3 hlen
 have h0 : DataW.trod enc Tryd.prog w base sp held n 9 (([v0, v1, v2].drop 0).take (Tryd.prog.cellsOf 9)) = some y0 := hf 0 _ rfl
 have h1 : DataW.trod enc Tryd.prog w base sp held n 3 (([v0, v1, v2].drop 1).take (Tryd.prog.cellsOf 3)) = some y1 := hf 1 _ rfl
 have h2 : DataW.trod enc Tryd.prog w base sp held n 4 (([v0, v1, v2].drop 2).take (Tryd.prog.cellsOf 4)) = some y2 := hf 2 _ rfl
 simp only [c9, c3, c4, List.drop, List.take] at h0 h1 h2
 obtain ⟨s, e0, r0, _⟩ := DataW.trod_string Tryd.underlying9 h0
 obtain ⟨x, e1, r1, _⟩ := DataW.trod_int Tryd.underlying3 h1
 obtain ⟨b, e2, r2⟩ := DataW.trod_bool Tryd.underlying4 h2
 simp only [r0, r1, r2, kindData, List.map_cons, List.map_nil, Prod.mk.injEq, DataW.agg.injEq, List.cons.injEq, DataW.lit.injEq, Lit.string.injEq, Lit.int.injEq, Lit.bool.injEq, true_and, and_true] at hx
 obtain ⟨⟨hs, hi, hb⟩, _⟩ := hx
 simp only [List.cons.injEq, and_true] at e0 e1 e2
 subst e0 e1 e2
 rw [kindRow, hi, hb, hs]
 rfl
theorem blocks3 {a b : List Value} (ha : a.length = 30) (hb : b.length = 30) (h : ∀ i, i < 10 → (a.drop (i * 3)).take 3 = (b.drop (i * 3)).take 3) : a = b := by
 apply List.ext_getElem?
 intro j
 by_cases hj : j < 30
 ·have key : ∀ l : List Value, l[j]? = ((l.drop (j / 3 * 3)).take 3)[j % 3]? := by
   intro l
   rw [List.getElem?_take, if_pos (by omega), List.getElem?_drop]
   congr 1
   omega
  rw [key a, key b, h (j / 3) (by omega)]
 ·rw [List.getElem?_eq_none (by omega), List.getElem?_eq_none (by omega)]
theorem kindCells_at (i : Nat) (hi : i < 10) : (kindCells.drop (i * 3)).take 3 = kindRow (Zbk i) := by
 match i, hi with
 | 0, _ | 1, _ | 2, _ | 3, _ | 4, _ | 5, _ | 6, _ | 7, _ | 8, _ | 9, _ => rfl
 | n + 10, h => omega
theorem kinds_cells {fuel : Nat} {cs : List Value} {p : List MemPlace} (h : DataW.trod enc Tryd.prog w base sp held fuel 119 cs = some (Rows.laid_kaudit_record_kinds, p)) : cs = kindCells := by
 obtain ⟨xs, m, _, hx, hl, hlen, hf⟩ := DataW.trod_array Tryd.underlying119 h
 have c119 : Tryd.prog.cellsOf 119 = 30 := by kernel_rfl
 have c118 : Tryd.prog.cellsOf 118 = 3 := by kernel_rfl
 rw [c119] at hl
 rw [c118] at hf
 rw [kindsD] at hx
 simp only [Prod.mk.injEq, DataW.agg.injEq] at hx
 refine blocks3 hl rfl fun i hi => ?_
 have h1 := hf i hi
 have h2 : (xs.map (·.1))[i]? = some (kindData (Zbk i)) := by
  rw [← hx.1, List.getElem?_map, List.getElem?_eq_getElem (show i < kindsT.length from hi), kind_get hi]
  rfl
 rw [List.getElem?_map, Option.map_eq_some_iff] at h2
 obtain ⟨⟨d, q⟩, h3, h4⟩ := h2
 simp only at h4
 subst h4
 rw [h3] at h1
 rw [kind_cell h1, kindCells_at i hi]
end
theorem kinds_of_head {W : World} {rest : List (String × DataW Unit)} (h : laidMet Tryd.prog (("kaudit/record.kinds", Rows.laid_kaudit_record_kinds) :: rest) W) : W.var? Tryd.prog "kaudit/record.kinds" = some kindCells.toArray := by
 obtain ⟨ps, ⟨g', t', cs, fuel, p, q, hg', ht', hvar, hd, _, _⟩, _⟩ := h
 obtain rfl := Option.some.inj (gKind.symm.trans hg')
 obtain rfl := Option.some.inj (gKindType.symm.trans ht')
 rw [hvar, ← kinds_cells hd]
theorem table2 {W : World} (h : laidMetH Tryd.prog [("math/bits.deBruijn32tab", Rows.laid_math_bits_deBruijn32tab), ("math/bits.deBruijn64tab", Rows.laid_math_bits_deBruijn64tab), ("internal/strconv.uint64pow10", Rows.laid_internal_strconv_uint64pow10), ("kaudit/value.digits", Rows.laid_kaudit_value_digits), ("kaudit/record.kinds", Rows.laid_kaudit_record_kinds)] W) : GT 2 W := by
 have h0 : laidMet Tryd.prog [("math/bits.deBruijn32tab", Rows.laid_math_bits_deBruijn32tab), ("math/bits.deBruijn64tab", Rows.laid_math_bits_deBruijn64tab), ("internal/strconv.uint64pow10", Rows.laid_internal_strconv_uint64pow10), ("kaudit/value.digits", Rows.laid_kaudit_value_digits), ("kaudit/record.kinds", Rows.laid_kaudit_record_kinds)] W := h
 have h2 := h0.tail.tail
 exact ⟨Lib.tabIs_of_head gDig gDigType Tryd.underlying98 Tryd.underlying5 cellsByte cellsDig h2.tail,
  fun _ => Lib.tabIs_of_head gPow gPowType Tryd.underlying190 Tryd.underlying78 cellsU64 cellsPow h2, fun _ => kinds_of_head h2.tail.tail⟩
end Go.Proofs.YtkfddpbmclbdhaaDoor.PA
end
/- A key that comes in. Conditions: each lemma names its own. -/
section
namespace Go.Proofs.YtkfddpbmclbdhaaDoor.PA
open Go.ChangeShapes Go.WideShapes Go.ChangeAt Go.RowKit Go.Proofs.YtkfddpbmclbdhaaDoorW.PrintWords
section
variable {H : Type} {enc : TypeId × Value → H} {w : World} {base b0 : Nat} {sp : Nat → Bool} {held : Bool} {r : Reach}
set_option maxRecDepth 100000 in
theorem open_key {v : Value} {d : DataW H} {p : List MemPlace} (hv : Value.okWide Tryd.prog w r b0 80 v) (h : DataW.Trod enc Tryd.prog w base sp held 80 v d p) :
  ∃ (x y : Int), v = .agg #[.int .u64 x, .int .u64 y] := by
 obtain ⟨c0, c1, y0, y1, m, rfl, _, _, t0, t1⟩ := Joins.open_agg2 Tryd.underlying80 (by kernel_rfl) (by kernel_rfl) hv h
 obtain ⟨x, e0, _, _⟩ := DataW.trod_int Tryd.underlying78 t0
 obtain ⟨y, e1, _, _⟩ := DataW.trod_int Tryd.underlying78 t1
 simp only [List.cons.injEq, and_true] at e0 e1
 subst e0 e1
 exact ⟨x, y, rfl⟩
end
end Go.Proofs.YtkfddpbmclbdhaaDoor.PA
end
