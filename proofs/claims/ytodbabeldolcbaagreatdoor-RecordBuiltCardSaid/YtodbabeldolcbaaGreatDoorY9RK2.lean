/- For the rows of this seat: what the listed tables give (GT), and worlds for the witnesses. Conditions: none. -/
import Derived.Test.YtodbabeldolcbaaGreatDoorRows
import Derived.ProofKit
import Derived.LaidMore
import Derived.Stop.LaidErr
import Derived.OpenShut
import Derived.Shelf.Vars
import Derived.Lay
import Derived.Test.YtodbabeldolcbaaGreatDoorY9EForm
section
namespace Go.Proofs.YtodbabeldolcbaaGreatDoor.PA
open Go.ChangeShapes Go.WideShapes Go.ChangeAt Go.RowKit
theorem own : ownKnob Tryz.prog.godebug = none := by kernel_rfl
theorem laidOut : laidOutB Tryz.prog = true := by kernel_rfl
theorem gDigType : (Tryz.prog.globals[(1 : Nat)]?).map (·.type) = some 172 := by kernel_rfl
theorem gPowType : (Tryz.prog.globals[(2 : Nat)]?).map (·.type) = some 201 := by kernel_rfl
theorem gKindType : (Tryz.prog.globals[(0 : Nat)]?).map (·.type) = some 171 := by kernel_rfl
theorem cellsDig : Tryz.prog.cellsOf 172 = 16 := by kernel_rfl
theorem cellsPow : Tryz.prog.cellsOf 201 = 20 := by kernel_rfl
theorem cellsByte : Tryz.prog.cellsOf 5 = 1 := by kernel_rfl
theorem cellsU64 : Tryz.prog.cellsOf 79 = 1 := by kernel_rfl
def IsRow (k : IntKind) (w : World) (a : Option Addr) (len cap : Nat) (zs : List Int) : Prop :=
 (a = none ∧ len = 0 ∧ cap = 0 ∧ zs = []) ∨
 ∃ x, a = some x ∧ len ≤ cap ∧ cap ≤ maxLen ∧ zs.length = cap ∧ (∀ i, i < zs.length → w.cell? (x.add i) = some (.int k (zs.getD i 0))) ∧ ∀ n ∈ zs, (Lit.int k n).wf = true
theorem gSynType : (Tryz.prog.globals[(4 : Nat)]?).map (·.type) = some 106 := by kernel_rfl
theorem gRngType : (Tryz.prog.globals[(5 : Nat)]?).map (·.type) = some 106 := by kernel_rfl
theorem starErr : "*" ++ "errors.errorString" = "*errors.errorString" := by decide
theorem rowErr (u : TypeId) (h : Tryz.prog.typeName? 3 u = some "*errors.errorString") : u = 218 :=
 typeName_ptr_named (nm := "errors.errorString") (by rw [starErr]; kernel_rfl) (by kernel_rfl) (by decide) u (by rw [starErr]; exact h)
theorem cellsErr : Tryz.prog.cellsOf 220 = 1 := by kernel_rfl
theorem cellsStr : Tryz.prog.cellsOf 9 = 1 := by kernel_rfl
theorem maxCell (W : World) (hsh : W.ShapedOpen Tryz.prog) : ∃ m, W.cell? ⟨3, 0, none⟩ = some (.int .i64 m) :=
 cell_of_shapedOpen_int (zero := #[.int .i64 0]) (t := 3) hsh (of_decide_eq_true (by kernel_rfl)) (by kernel_rfl) rfl (by kernel_rfl) (by kernel_rfl) Tryz.underlying3
section
variable {H : Type} {enc : TypeId × Value → H} {w : World} {base b0 : Nat} {sp : Nat → Bool} {held : Bool} {r : Reach}
end
end Go.Proofs.YtodbabeldolcbaaGreatDoor.PA
end
/- A text cut by trim.py (ours): of a printed text, or of one of ours, only what this claim needs; conditions: each lemma names its own. -/
section
namespace Go.Proofs.YtodbabeldolcbaaGreatDoor.PA
open Go.ChangeShapes Go.WideShapes Go.ChangeAt Go.RowKit Go.Proofs.YtodbabeldolcbaaGreatDoorW.PrintWords
section
variable {H : Type} {enc : TypeId × Value → H} {w : World} {base b0 : Nat} {sp : Nat → Bool} {held : Bool} {r : Reach}
theorem list3 {α : Type} {cs : List α} (h : cs.length = 3) : ∃ a b c, cs = [a, b, c] := by
 match cs, h with
 | [a, b, c], _ => exact ⟨a, b, c, rfl⟩
end
def kindRow (k : List UInt8 × Int × Bool) : List Value := [.string (Zci k.1), .int .i64 k.2.1, .bool k.2.2]
def kindData (k : List UInt8 × Int × Bool) : DataW Unit := .agg [.lit (.string k.1), .lit (.int .i64 k.2.1), .lit (.bool k.2.2)]
theorem kindsD : (Rows.laid_kaudit_record_kinds : DataW Unit) = .agg (Zba.map kindData) := rfl
section
variable {enc : TypeId × Value → Unit} {w : World} {base : Nat} {sp : Nat → Bool} {held : Bool}
set_option maxRecDepth 100000 in
theorem kind_cell {fuel : Nat} {cs : List Value} {k : List UInt8 × Int × Bool} {p : List MemPlace} (h : DataW.trod enc Tryz.prog w base sp held fuel 147 cs = some (kindData k, p)) : cs = kindRow k := by
 obtain ⟨xs, n, _, hx, hl, hlen, hf⟩ := DataW.trod_struct Tryz.underlying147 h
 have c118 : Tryz.prog.cellsOf 147 = 3 := by kernel_rfl
 have c9 : Tryz.prog.cellsOf 9 = 1 := by kernel_rfl
 have c3 : Tryz.prog.cellsOf 3 = 1 := by kernel_rfl
 have c4 : Tryz.prog.cellsOf 4 = 1 := by kernel_rfl
 rw [c118] at hl
 obtain ⟨v0, v1, v2, rfl⟩ := list3 hl
 obtain ⟨y0, y1, y2, rfl⟩ := list3 hlen
 have h0 : DataW.trod enc Tryz.prog w base sp held n 9 (([v0, v1, v2].drop 0).take (Tryz.prog.cellsOf 9)) = some y0 := hf 0 _ rfl
 have h1 : DataW.trod enc Tryz.prog w base sp held n 3 (([v0, v1, v2].drop 1).take (Tryz.prog.cellsOf 3)) = some y1 := hf 1 _ rfl
 have h2 : DataW.trod enc Tryz.prog w base sp held n 4 (([v0, v1, v2].drop 2).take (Tryz.prog.cellsOf 4)) = some y2 := hf 2 _ rfl
 simp only [c9, c3, c4, List.drop, List.take] at h0 h1 h2
 obtain ⟨s, e0, r0, _⟩ := DataW.trod_string Tryz.underlying9 h0
 obtain ⟨x, e1, r1, _⟩ := DataW.trod_int Tryz.underlying3 h1
 obtain ⟨b, e2, r2⟩ := DataW.trod_bool Tryz.underlying4 h2
 simp only [r0, r1, r2, kindData, List.map_cons, List.map_nil, Prod.mk.injEq, DataW.agg.injEq, List.cons.injEq, DataW.lit.injEq, Lit.string.injEq, Lit.int.injEq, Lit.bool.injEq, true_and, and_true] at hx
 obtain ⟨⟨hs, hi, hb⟩, _⟩ := hx
 simp only [List.cons.injEq, and_true] at e0 e1 e2
 subst e0 e1 e2
 rw [kindRow, hi, hb, hs]
 rfl
theorem blocks3 {a b : List Value} (ha : a.length = 30) (hb : b.length = 30) (h : ∀ i, i < 10 → (a.drop (i * 3)).take 3 = (b.drop (i * 3)).take 3) : a = b := by
 apply List.ext_getElem?
 intro j
 by_cases hj : j < 30
 ·have key : ∀ l : List Value, l[j]? = ((l.drop (j / 3 * 3)).take 3)[j % 3]? := by
   intro l
   rw [List.getElem?_take, if_pos (by omega), List.getElem?_drop]
   congr 1
   omega
  rw [key a, key b, h (j / 3) (by omega)]
 ·rw [List.getElem?_eq_none (by omega), List.getElem?_eq_none (by omega)]
theorem kindCells_at (i : Nat) (hi : i < 10) : (kindCells.drop (i * 3)).take 3 = kindRow (Zbb i) := by
 match i, hi with
 | 0, _ | 1, _ | 2, _ | 3, _ | 4, _ | 5, _ | 6, _ | 7, _ | 8, _ | 9, _ => rfl
 | n + 10, h => omega
theorem kinds_cells {fuel : Nat} {cs : List Value} {p : List MemPlace} (h : DataW.trod enc Tryz.prog w base sp held fuel 171 cs = some (Rows.laid_kaudit_record_kinds, p)) : cs = kindCells := by
 obtain ⟨xs, m, _, hx, hl, hlen, hf⟩ := DataW.trod_array Tryz.underlying171 h
 have c119 : Tryz.prog.cellsOf 171 = 30 := by kernel_rfl
 have c118 : Tryz.prog.cellsOf 147 = 3 := by kernel_rfl
 rw [c119] at hl
 rw [c118] at hf
 rw [kindsD] at hx
 simp only [Prod.mk.injEq, DataW.agg.injEq] at hx
 refine blocks3 hl rfl fun i hi => ?_
 have h1 := hf i hi
 have h2 : (xs.map (·.1))[i]? = some (kindData (Zbb i)) := by
  rw [← hx.1, List.getElem?_map, List.getElem?_eq_getElem (show i < Zba.length from hi), kind_get hi]
  rfl
 rw [List.getElem?_map, Option.map_eq_some_iff] at h2
 obtain ⟨⟨d, q⟩, h3, h4⟩ := h2
 simp only at h4
 subst h4
 rw [h3] at h1
 rw [kind_cell h1, kindCells_at i hi]
end
theorem kinds_of_head {W : World} {rest : List (String × DataW Unit)} (h : laidMet Tryz.prog (("kaudit/record.kinds", Rows.laid_kaudit_record_kinds) :: rest) W) : W.var? Tryz.prog "kaudit/record.kinds" = some kindCells.toArray := by
 obtain ⟨ps, ⟨g', t', cs, fuel, p, q, hg', ht', hvar, hd, _, _⟩, _⟩ := h
 obtain rfl := Option.some.inj (gKind.symm.trans hg')
 obtain rfl := Option.some.inj (gKindType.symm.trans ht')
 rw [hvar, ← kinds_cells hd]
noncomputable def laidWorld2 (os : Os) : World := World.laidAll Tryz.prog os Rows.recordBuiltRow.laid
theorem table2 {W : World} (h : laidMetH Tryz.prog [("math/bits.deBruijn32tab", Rows.laid_math_bits_deBruijn32tab), ("math/bits.deBruijn64tab", Rows.laid_math_bits_deBruijn64tab), ("internal/strconv.uint64pow10", Rows.laid_internal_strconv_uint64pow10), ("unicode/utf8.acceptRanges", Rows.laid_unicode_utf8_acceptRanges), ("strconv.ErrRange", Rows.laid_strconv_ErrRange), ("strconv.ErrSyntax", Rows.laid_strconv_ErrSyntax), ("kaudit/value.digits", Rows.laid_kaudit_value_digits), ("kaudit/record.kinds", Rows.laid_kaudit_record_kinds), ("unicode/utf8.first", Rows.laid_unicode_utf8_first)] W) (hsh : W.ShapedOpen Tryz.prog) : GT 2 W := by
 have h0 : laidMet Tryz.prog [("math/bits.deBruijn32tab", Rows.laid_math_bits_deBruijn32tab), ("math/bits.deBruijn64tab", Rows.laid_math_bits_deBruijn64tab), ("internal/strconv.uint64pow10", Rows.laid_internal_strconv_uint64pow10), ("unicode/utf8.acceptRanges", Rows.laid_unicode_utf8_acceptRanges), ("strconv.ErrRange", Rows.laid_strconv_ErrRange), ("strconv.ErrSyntax", Rows.laid_strconv_ErrSyntax), ("kaudit/value.digits", Rows.laid_kaudit_value_digits), ("kaudit/record.kinds", Rows.laid_kaudit_record_kinds), ("unicode/utf8.first", Rows.laid_unicode_utf8_first)] W := h
 have h2 := h0.tail.tail
 have h4 := h2.tail.tail
 have h5 := h4.tail
 have h6 := h5.tail
 obtain ⟨a0, s0, hv0, -, -, -⟩ := laid_sentinel h4 gRng gRngType Tryz.underlying106 rowErr Tryz.underlying218 Tryz.underlying220 rfl rfl Tryz.underlying9 cellsErr cellsStr
 obtain ⟨a1, s1, hv1, -, -, -⟩ := laid_sentinel h5 gSyn gSynType Tryz.underlying106 rowErr Tryz.underlying218 Tryz.underlying220 rfl rfl Tryz.underlying9 cellsErr cellsStr
 exact ⟨Lib.tabIs_of_head gDig gDigType Tryz.underlying172 Tryz.underlying5 cellsByte cellsDig h6,
  fun _ => Lib.tabIs_of_head gPow gPowType Tryz.underlying201 Tryz.underlying79 cellsU64 cellsPow h2, fun _ => kinds_of_head h6.tail,
  fun _ => maxCell W hsh, fun _ => ⟨_, _, hv1⟩, fun _ => ⟨_, _, hv0⟩⟩
end Go.Proofs.YtodbabeldolcbaaGreatDoor.PA
end
