/- For the rows of this seat: what the listed tables give (GT), and worlds for the witnesses. Conditions: none. -/
import Derived.Test.YtkfddpbmclbdhaaDoorRows
import Derived.Test.YtkfddpbmclbdhaaDoorZ9GT
import Derived.Test.YtkfddpbmclbdhaaDoorZ9EQuote
import Derived.ProofKit
import Derived.LaidMore
import Derived.Stop.LaidErr
import Derived.Lib.LaidTab
import Derived.Lib.SmallJoins
import Derived.OpenShut
import Derived.Shelf.Vars
import Derived.Lay
import Derived.Test.YtkfddpbmclbdhaaDoorZ9EForm
section
namespace Go.Proofs.YtkfddpbmclbdhaaDoor.PA
open Go.ChangeShapes Go.WideShapes Go.ChangeAt Go.RowKit
theorem own : ownKnob Tryd.prog.godebug = none := by kernel_rfl
theorem laidOut : laidOutB Tryd.prog = true := by kernel_rfl
theorem gDigType : (Tryd.prog.globals[(0 : Nat)]?).map (·.type) = some 98 := by kernel_rfl
theorem gPowType : (Tryd.prog.globals[(2 : Nat)]?).map (·.type) = some 190 := by kernel_rfl
theorem gKindType : (Tryd.prog.globals[(1 : Nat)]?).map (·.type) = some 119 := by kernel_rfl
theorem cellsDig : Tryd.prog.cellsOf 98 = 16 := by kernel_rfl
theorem cellsPow : Tryd.prog.cellsOf 190 = 20 := by kernel_rfl
theorem cellsByte : Tryd.prog.cellsOf 5 = 1 := by kernel_rfl
theorem cellsU64 : Tryd.prog.cellsOf 78 = 1 := by kernel_rfl
def IsRow (k : IntKind) (w : World) (a : Option Addr) (len cap : Nat) (zs : List Int) : Prop :=
  (a = none ∧ len = 0 ∧ cap = 0 ∧ zs = []) ∨
  ∃ x, a = some x ∧ len ≤ cap ∧ cap ≤ maxLen ∧ zs.length = cap ∧ (∀ i, i < zs.length → w.cell? (x.add i) = some (.int k (zs.getD i 0))) ∧ ∀ n ∈ zs, (Lit.int k n).wf = true
noncomputable def laidWorld2 (os : Os) : World := World.doorLaid Tryd.prog 36 os
section
variable {H : Type} {enc : TypeId × Value → H} {w : World} {base b0 : Nat} {sp : Nat → Bool} {held : Bool} {r : Reach}
theorem bd64 {x : Int} (h : (Lit.int .i64 x).wf = true) : -9223372036854775808 ≤ x ∧ x ≤ 9223372036854775807 := by
  have := bounds_i64 h
  omega
end
end Go.Proofs.YtkfddpbmclbdhaaDoor.PA
end
/- A text cut by trim.py (ours): of a printed text, or of one of ours, only what this claim needs; conditions: each lemma names its own. -/
section
namespace Go.Proofs.YtkfddpbmclbdhaaDoor.PA
open Go.ChangeShapes Go.WideShapes Go.ChangeAt Go.RowKit Go.Proofs.YtkfddpbmclbdhaaDoorW.PrintWords
section
variable {H : Type} {enc : TypeId × Value → H} {w : World} {base b0 : Nat} {sp : Nat → Bool} {held : Bool} {r : Reach}
theorem list4 {α : Type} {cs : List α} (h : cs.length = 4) : ∃ a b c d, cs = [a, b, c, d] := by
  match cs, h with
  | [a, b, c, d], _ => exact ⟨a, b, c, d, rfl⟩
theorem list3 {α : Type} {cs : List α} (h : cs.length = 3) : ∃ a b c, cs = [a, b, c] := by
  match cs, h with
  | [a, b, c], _ => exact ⟨a, b, c, rfl⟩
set_option maxRecDepth 100000 in
theorem pair_cells {fuel : Nat} {cs : List Value} {y : DataW H × List MemPlace} (h : DataW.trod enc Tryd.prog w base sp held fuel 31 cs = some y) :
    ∃ (s : ByteArray) (x z : Int) (t : ByteArray), cs = [.string s, .int .i64 x, .int .i64 z, .string t] ∧ (-9223372036854775808 ≤ z ∧ z ≤ 9223372036854775807) := by
  obtain ⟨y0, y1, y2, y3, n, _, hl, h0, h1, h2, h3⟩ := Joins.trod_struct4 Tryd.underlying31 h
  have c31 : Tryd.prog.cellsOf 31 = 4 := by kernel_rfl
  have c9 : Tryd.prog.cellsOf 9 = 1 := by kernel_rfl
  have c3 : Tryd.prog.cellsOf 3 = 1 := by kernel_rfl
  rw [c31] at hl
  obtain ⟨v0, v1, v2, v3, rfl⟩ := list4 hl
  simp only [c9, c3, List.drop, List.take] at h0 h1 h2 h3
  obtain ⟨s, e0, _, _⟩ := DataW.trod_string Tryd.underlying9 h0
  obtain ⟨x, e1, _, w1⟩ := DataW.trod_int Tryd.underlying3 h1
  obtain ⟨z, e2, _, w2⟩ := DataW.trod_int Tryd.underlying3 h2
  obtain ⟨t, e3, _, _⟩ := DataW.trod_string Tryd.underlying9 h3
  simp only [List.cons.injEq, and_true] at e0 e1 e2 e3
  subst e0 e1 e2 e3
  exact ⟨s, x, z, t, rfl, bd64 w2⟩
theorem open_pairs {fuel : Nat} {A : Option Addr} {len cap : Nat} {y : DataW H × List MemPlace} (h : DataW.trod enc Tryd.prog w base sp held fuel 41 [.slice A len cap] = some y) :
    ∃ l : List S31, len = l.length ∧ l.length ≤ cap ∧ Kd.C k31 w A l.length l ∧ numsOK l = true := by
  have c31 : Tryd.prog.cellsOf 31 = 4 := by kernel_rfl
  rcases DataW.trod_slice Tryd.underlying41 h with ⟨hcs, _⟩ | ⟨a, len', cap', elems, rest, n, _, hcs, _, _, hle, hmx, hlen, hel, _, _⟩
  · simp at hcs
    obtain ⟨rfl, rfl, rfl⟩ := hcs
    exact ⟨[], rfl, Nat.le_refl _, Kd.C_nil _ _, rfl⟩
  · simp at hcs
    obtain ⟨rfl, rfl, rfl⟩ := hcs
    rw [c31] at hel
    have each : ∀ i, i < len → ∃ p : S31, (∀ j u, [Value.string p.f0, .int .i64 p.f1, .int .i64 p.f2, .string p.f3][j]? = some u → w.cell? (a.add (i * 4 + j)) = some u) ∧ (-9223372036854775808 ≤ p.f2 ∧ p.f2 ≤ 9223372036854775807) := by
      intro i hi
      have h1 := hel i hi
      rw [List.getElem?_eq_getElem (by omega), Option.bind_eq_some_iff] at h1
      obtain ⟨cs, hcs, hy⟩ := h1
      obtain ⟨s, x, z, t, rfl, hb⟩ := pair_cells hy
      refine ⟨⟨s, x, z, t⟩, fun j u hu => ?_, hb⟩
      have hs := (World.cells?_some hcs).2.2
      have hj : j < 4 := by
        rcases Nat.lt_or_ge j 4 with h | h
        · exact h
        · rw [List.getElem?_eq_none (by simpa using h)] at hu; cases hu
      have := hs j hj
      rw [show (a.add (i * 4)).add j = a.add (i * 4 + j) from Addr.add_add a (i * 4) j] at this
      rw [this]
      simpa using hu
    let l : List S31 := (List.range len).map fun i => if hi : i < len then Classical.choose (each i hi) else z31
    have hl : l.length = len := by simp [l]
    have hg : ∀ i, (hi : i < len) → l[i]? = some (Classical.choose (each i hi)) := by
      intro i hi
      simp [l, hi]
    refine ⟨l, hl.symm, by omega, ⟨rfl, by unfold maxLen at hmx; omega, fun _ => ⟨a, rfl, fun j p hp => ?_⟩⟩, ?_⟩
    · have hj : j < len := by
        rcases Nat.lt_or_ge j l.length with h | h
        · omega
        · rw [List.getElem?_eq_none h] at hp; cases hp
      rw [hg j hj] at hp
      obtain rfl := Option.some.inj hp
      exact ⟨_, rfl, k31_mk w _, (Classical.choose_spec (each j hj)).1⟩
    · unfold numsOK
      rw [List.all_eq_true]
      intro p hp
      obtain ⟨j, hj⟩ := List.getElem?_of_mem hp
      have hj' : j < len := by
        rcases Nat.lt_or_ge j l.length with h | h
        · omega
        · rw [List.getElem?_eq_none h] at hj; cases hj
      rw [hg j hj'] at hj
      obtain rfl := Option.some.inj hj
      have := (Classical.choose_spec (each j hj')).2
      rw [decide_eq_true this.1, decide_eq_true this.2]
      rfl
set_option maxRecDepth 100000 in
/-- A record that comes in. -/
theorem open_record {v : Value} {d : DataW H} {p : List MemPlace} (hv : Value.okWide Tryd.prog w r b0 43 v) (h : DataW.Trod enc Tryd.prog w base sp held 43 v d p) :
    ∃ (t tm sr : Int) (A : Option Addr) (cap : Nat) (l : List S31), v = .agg #[.int .i64 t, .int .i64 tm, .int .i64 sr, .slice A l.length cap] ∧ l.length ≤ cap ∧ Kd.C k31 w A l.length l ∧ numsOK l = true := by
  obtain ⟨c0, c1, c2, c3, y0, y1, y2, y3, m, rfl, _, _, t0, t1, t2, t3⟩ := Joins.open_agg4 Tryd.underlying43 (by kernel_rfl) (by kernel_rfl) hv h
  obtain ⟨t, e0, _, _⟩ := DataW.trod_int Tryd.underlying3 t0
  obtain ⟨tm, e1, _, _⟩ := DataW.trod_int Tryd.underlying3 t1
  obtain ⟨sr, e2, _, _⟩ := DataW.trod_int Tryd.underlying3 t2
  obtain ⟨A, len, cap, e3⟩ := Joins.slice_form Tryd.underlying41 t3
  simp only [List.cons.injEq, and_true] at e0 e1 e2 e3
  subst e0 e1 e2 e3
  obtain ⟨l, rfl, hc, hC, hn⟩ := open_pairs t3
  exact ⟨t, tm, sr, A, cap, l, rfl, hc, hC, hn⟩
end
/-- The cells of one kind. -/
def kindRow (k : List UInt8 × Int × Bool) : List Value := [.string (strOf k.1), .int .i64 k.2.1, .bool k.2.2]
def kindData (k : List UInt8 × Int × Bool) : DataW Unit := .agg [.lit (.string k.1), .lit (.int .i64 k.2.1), .lit (.bool k.2.2)]
theorem kindsD : (Rows.laid_kaudit_record_kinds : DataW Unit) = .agg (kindsT.map kindData) := rfl
section
variable {enc : TypeId × Value → Unit} {w : World} {base : Nat} {sp : Nat → Bool} {held : Bool}
set_option maxRecDepth 100000 in
theorem kind_cell {fuel : Nat} {cs : List Value} {k : List UInt8 × Int × Bool} {p : List MemPlace} (h : DataW.trod enc Tryd.prog w base sp held fuel 118 cs = some (kindData k, p)) : cs = kindRow k := by
  obtain ⟨xs, n, _, hx, hl, hlen, hf⟩ := DataW.trod_struct Tryd.underlying118 h
  have c118 : Tryd.prog.cellsOf 118 = 3 := by kernel_rfl
  have c9 : Tryd.prog.cellsOf 9 = 1 := by kernel_rfl
  have c3 : Tryd.prog.cellsOf 3 = 1 := by kernel_rfl
  have c4 : Tryd.prog.cellsOf 4 = 1 := by kernel_rfl
  rw [c118] at hl
  obtain ⟨v0, v1, v2, rfl⟩ := list3 hl
  obtain ⟨y0, y1, y2, rfl⟩ := list3 hlen
  have h0 : DataW.trod enc Tryd.prog w base sp held n 9 (([v0, v1, v2].drop 0).take (Tryd.prog.cellsOf 9)) = some y0 := hf 0 _ rfl
  have h1 : DataW.trod enc Tryd.prog w base sp held n 3 (([v0, v1, v2].drop 1).take (Tryd.prog.cellsOf 3)) = some y1 := hf 1 _ rfl
  have h2 : DataW.trod enc Tryd.prog w base sp held n 4 (([v0, v1, v2].drop 2).take (Tryd.prog.cellsOf 4)) = some y2 := hf 2 _ rfl
  simp only [c9, c3, c4, List.drop, List.take] at h0 h1 h2
  obtain ⟨s, e0, r0, _⟩ := DataW.trod_string Tryd.underlying9 h0
  obtain ⟨x, e1, r1, _⟩ := DataW.trod_int Tryd.underlying3 h1
  obtain ⟨b, e2, r2⟩ := DataW.trod_bool Tryd.underlying4 h2
  simp only [r0, r1, r2, kindData, List.map_cons, List.map_nil, Prod.mk.injEq, DataW.agg.injEq, List.cons.injEq, DataW.lit.injEq, Lit.string.injEq, Lit.int.injEq, Lit.bool.injEq, true_and, and_true] at hx
  obtain ⟨⟨hs, hi, hb⟩, _⟩ := hx
  simp only [List.cons.injEq, and_true] at e0 e1 e2
  subst e0 e1 e2
  rw [kindRow, hi, hb, hs]
  rfl
theorem blocks3 {a b : List Value} (ha : a.length = 30) (hb : b.length = 30) (h : ∀ i, i < 10 → (a.drop (i * 3)).take 3 = (b.drop (i * 3)).take 3) : a = b := by
  apply List.ext_getElem?
  intro j
  by_cases hj : j < 30
  · have key : ∀ l : List Value, l[j]? = ((l.drop (j / 3 * 3)).take 3)[j % 3]? := by
      intro l
      rw [List.getElem?_take, if_pos (by omega), List.getElem?_drop]
      congr 1
      omega
    rw [key a, key b, h (j / 3) (by omega)]
  · rw [List.getElem?_eq_none (by omega), List.getElem?_eq_none (by omega)]
theorem kindCells_at (i : Nat) (hi : i < 10) : (kindCells.drop (i * 3)).take 3 = kindRow (kindAt i) := by
  match i, hi with
  | 0, _ | 1, _ | 2, _ | 3, _ | 4, _ | 5, _ | 6, _ | 7, _ | 8, _ | 9, _ => rfl
  | n + 10, h => omega
theorem kinds_cells {fuel : Nat} {cs : List Value} {p : List MemPlace} (h : DataW.trod enc Tryd.prog w base sp held fuel 119 cs = some (Rows.laid_kaudit_record_kinds, p)) : cs = kindCells := by
  obtain ⟨xs, m, _, hx, hl, hlen, hf⟩ := DataW.trod_array Tryd.underlying119 h
  have c119 : Tryd.prog.cellsOf 119 = 30 := by kernel_rfl
  have c118 : Tryd.prog.cellsOf 118 = 3 := by kernel_rfl
  rw [c119] at hl
  rw [c118] at hf
  rw [kindsD] at hx
  simp only [Prod.mk.injEq, DataW.agg.injEq] at hx
  refine blocks3 hl rfl fun i hi => ?_
  have h1 := hf i hi
  have h2 : (xs.map (·.1))[i]? = some (kindData (kindAt i)) := by
    rw [← hx.1, List.getElem?_map, List.getElem?_eq_getElem (show i < kindsT.length from hi), kind_get hi]
    rfl
  rw [List.getElem?_map, Option.map_eq_some_iff] at h2
  obtain ⟨⟨d, q⟩, h3, h4⟩ := h2
  simp only at h4
  subst h4
  rw [h3] at h1
  rw [kind_cell h1, kindCells_at i hi]
end
theorem kinds_of_head {W : World} {rest : List (String × DataW Unit)} (h : laidMet Tryd.prog (("kaudit/record.kinds", Rows.laid_kaudit_record_kinds) :: rest) W) : W.var? Tryd.prog "kaudit/record.kinds" = some kindCells.toArray := by
  obtain ⟨ps, ⟨g', t', cs, fuel, p, q, hg', ht', hvar, hd, _, _⟩, _⟩ := h
  obtain rfl := Option.some.inj (gKind.symm.trans hg')
  obtain rfl := Option.some.inj (gKindType.symm.trans ht')
  rw [hvar, ← kinds_cells hd]
theorem table2 {W : World} (h : laidMetH Tryd.prog [("math/bits.deBruijn32tab", Rows.laid_math_bits_deBruijn32tab), ("math/bits.deBruijn64tab", Rows.laid_math_bits_deBruijn64tab), ("internal/strconv.uint64pow10", Rows.laid_internal_strconv_uint64pow10), ("kaudit/value.digits", Rows.laid_kaudit_value_digits), ("kaudit/record.kinds", Rows.laid_kaudit_record_kinds)] W) : GT 2 W := by
  have h0 : laidMet Tryd.prog [("math/bits.deBruijn32tab", Rows.laid_math_bits_deBruijn32tab), ("math/bits.deBruijn64tab", Rows.laid_math_bits_deBruijn64tab), ("internal/strconv.uint64pow10", Rows.laid_internal_strconv_uint64pow10), ("kaudit/value.digits", Rows.laid_kaudit_value_digits), ("kaudit/record.kinds", Rows.laid_kaudit_record_kinds)] W := h
  have h2 := h0.tail.tail
  exact ⟨Lib.tabIs_of_head gDig gDigType Tryd.underlying98 Tryd.underlying5 cellsByte cellsDig h2.tail,
    fun _ => Lib.tabIs_of_head gPow gPowType Tryd.underlying190 Tryd.underlying78 cellsU64 cellsPow h2, fun _ => kinds_of_head h2.tail.tail⟩
end Go.Proofs.YtkfddpbmclbdhaaDoor.PA
end
