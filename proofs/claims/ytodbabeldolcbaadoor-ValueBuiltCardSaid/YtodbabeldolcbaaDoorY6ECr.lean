/- The row that '[]byte(s)' makes (it bears the mark of a conversion behind its last cell, so it is no row of the kit's): made, read, written, made a string again. Conditions: each lemma names its own. -/
import Derived.Test.YtodbabeldolcbaaDoorY6WWords
import Derived.Test.YtodbabeldolcbaaDoorY6WLast
import Derived.Test.YtodbabeldolcbaaDoorY6WMore
import Derived.Laws.IdiomStrings
import Derived.Lib.ConvBytes
namespace Go.Proofs.YtodbabeldolcbaaDoor.PA
open Go.RowKit Go.Proofs.YtodbabeldolcbaaDoorW.PrintWords Go.Proofs.YtodbabeldolcbaaDoorW.PrintLast Go.Proofs.YtodbabeldolcbaaDoorW.PrintMore
set_option linter.unusedVariables false
/-- The bytes of a string, as numbers. -/
def strNums (s : ByteArray) : List Int := s.data.toList.map fun b => (b.toNat : Int)
theorem strNums_length (s : ByteArray) : (strNums s).length = s.size := by rw [strNums, List.length_map]; rfl
/-- A row of bytes that a conversion has made: its mark lies behind its last cell. -/
def CR (e : Nat) (W : World) (base : Nat) (v : Value) (xs : List Int) : Prop :=
  ∃ g cap cur fz, v = .slice (some ⟨g, 0, none⟩) xs.length cap ∧ base ≤ g ∧ W.heap[g]? = some (.cells cur e fz) ∧ cur.size ≤ fz.1 ∧ xs.length ≤ cur.size ∧ cur.toList.take xs.length = nums .u8 xs
section
variable {e base : Nat} {W w1 : World} {v : Value} {xs : List Int}
theorem CR_lower {base' : Nat} (h : CR e W base v xs) (hb : base' ≤ base) : CR e W base' v xs := by
  obtain ⟨g, cap, cur, fz, h1, h2, h3⟩ := h
  exact ⟨g, cap, cur, fz, h1, by omega, h3⟩
theorem CR_slice (h : CR e W base v xs) : ∃ A c, v = .slice A xs.length c := by
  obtain ⟨g, cap, cur, fz, h1, _⟩ := h
  exact ⟨_, _, h1⟩
theorem CR_same (h : CR e W base v xs) (hk : ∀ g : Nat, (∃ cur fz, W.heap[g]? = some (Obj.cells cur e fz)) → w1.heap[g]? = W.heap[g]?) : CR e w1 base v xs := by
  obtain ⟨g, cap, cur, fz, h1, h2, h3, h4⟩ := h
  exact ⟨g, cap, cur, fz, h1, h2, (hk g ⟨cur, fz, h3⟩).trans h3, h4⟩
theorem CR_form (h : CR e W base v xs) : ∃ g cap, v = .slice (some ⟨g, 0, none⟩) xs.length cap ∧ base ≤ g ∧ g < W.heap.size ∧ ∃ cells fz, W.heap[g]? = some (.cells cells e fz) := by
  obtain ⟨g, cap, cur, fz, h1, h2, h3, _⟩ := h
  exact ⟨g, cap, h1, h2, (Array.getElem?_eq_some_iff.1 h3).1, cur, fz, h3⟩
theorem CR_ne {g t : Nat} {cs : Array Value} {fr : Nat × Nat} (h : CR e W base v xs) (hb : W.heap[g]? = some (.cells cs t fr)) (ht : e ≠ t) : some g ≠ v.ownBlock := by
  obtain ⟨g', cap, cur, fz, rfl, _, h3, _⟩ := h
  intro hq
  have : g = g' := by simpa [Value.ownBlock] using hq
  subst this
  rw [hb] at h3
  injection h3 with h3
  injection h3 with _ h3
  exact ht h3.symm
theorem CR_cell {g cap : Nat} (h : CR e W base (.slice (some ⟨g, 0, none⟩) xs.length cap) xs) (i : Int) (h0 : 0 ≤ i) (hi : i < (xs.length : Int)) : W.cell? ⟨g, i.toNat, none⟩ = some (.int .u8 (rd xs i)) ∧ W.frozen? ⟨g, i.toNat, none⟩ = false := by
  obtain ⟨g', cap', cur, fz, h1, _, h3, h4, h5, h6⟩ := h
  have e1 : g = g' ∧ cap = cap' := by simpa using h1
  obtain ⟨rfl, rfl⟩ := e1
  obtain ⟨m, rfl⟩ := Int.eq_ofNat_of_zero_le h0
  have hm : m < xs.length := by omega
  have hc : cur.toList[m]? = some (.int .u8 (xs.getD m 0)) := by
    have e2 : (cur.toList.take xs.length)[m]? = (nums .u8 xs)[m]? := by rw [h6]
    rw [List.getElem?_take, if_pos hm] at e2
    rw [e2]
    simp [nums, List.getElem?_eq_getElem hm, List.getD_eq_getElem?_getD]
  constructor
  · simp only [World.cell?, h3, Int.toNat_natCast, rd]
    simpa using hc
  · unfold World.frozen?
    rw [h3]
    obtain ⟨lo, hi'⟩ := fz
    simp only [Int.toNat_natCast]
    simp at h4
    simp
    intro hle
    omega
theorem CR_put {g cap : Nat} (h : CR e W base (.slice (some ⟨g, 0, none⟩) xs.length cap) xs) (i : Int) (x : Int) (h0 : 0 ≤ i) (hi : i < (xs.length : Int)) :
    CR e (W.setCell ⟨g, i.toNat, none⟩ (.int .u8 x)) base (.slice (some ⟨g, 0, none⟩) xs.length cap) (xs.set i.toNat x) ∧ W.grownBy (W.setCell ⟨g, i.toNat, none⟩ (.int .u8 x)) (some g) := by
  obtain ⟨g', cap', cur, fz, h1, h2, h3, h4, h5, h6⟩ := h
  have e1 : g = g' ∧ cap = cap' := by simpa using h1
  obtain ⟨rfl, rfl⟩ := e1
  obtain ⟨m, rfl⟩ := Int.eq_ofNat_of_zero_le h0
  have hm : m < xs.length := by omega
  have hlt := (Array.getElem?_eq_some_iff.1 h3).1
  constructor
  · refine ⟨g, cap, cur.setIfInBounds m (.int .u8 x), fz, by rw [List.length_set], h2, ?_, by simpa using h4, by simpa using h5, ?_⟩
    · simp only [World.setCell, Int.toNat_natCast]
      have hg := (Array.getElem?_eq_some_iff.1 h3).2
      simp [Array.getElem?_modify, h3]
    · rw [List.length_set]
      simp only [Array.toList_setIfInBounds, Int.toNat_natCast]
      rw [List.take_set, h6]
      simp [nums, List.map_set]
  · exact ⟨rfl, rfl, rfl, by simp [World.setCell], fun k hk hne => Below.heap_setCell W ⟨g, _, none⟩ _ k (fun e => hne (by rw [e]))⟩
end
section
variable {P : Program}
theorem CR_string {e base : Nat} {w : World} {src dst : TypeId} {v : Value} {xs : List Int} (hs : P.underlying src = some (.slice e)) (he : P.underlying e = some (.int .u8)) (hd : P.underlying dst = some .string)
    (h : CR e w base v xs) : (convert src dst v).run P w = .ok (.string (strOfNums xs)) w := by
  obtain ⟨g, cap, cur, fz, rfl, h2, h3, h4, h5, h6⟩ := h
  have h7 : CR e w base (.slice (some ⟨g, 0, none⟩) xs.length cap) xs := ⟨g, cap, cur, fz, rfl, h2, h3, h4, h5, h6⟩
  refine run_convert_bytes_arg w src e hs he g 0 xs.length cap xs rfl (fun i hi => ?_) dst hd
  have := (CR_cell h7 (i : Int) (by omega) (by omega)).1
  simpa [rd] using this
variable {ops : Array Oper} {rest : List Oper} {o : Oper} {a : Act} {Q : Exit → Act → World → Prop} {W : World}
theorem CR_conv (e : Nat) (hgd : o.guard = none) {N : Tmp} (_hd : o.dst = some N) (src dst : TypeId) (x : Operand) (ho : o.op = .convert src dst x) (s : ByteArray) (hx : a.eval x = .string s)
    (hs : P.underlying src = some .string) (hd : P.underlying dst = some (.slice e)) (he : P.underlying e = some (.int .u8))
    (h : ∀ v1 w1, CR e w1 W.heap.size v1 (strNums s) → Below W.heap.size W w1 → wpList P ops Q rest (a.put o.dst v1) w1) : wpList P ops Q (o :: rest) a W := by
  have hr := run_bytes_of_string (P := P) W src dst e s hs hd he
  have hb := below_alloc (below_drew1 (Below.refl W.heap.size W)) (.cells (bytesRow s (grownCap W s.size 0 e)) e ((bytesRow s (grownCap W s.size 0 e)).size, (bytesRow s (grownCap W s.size 0 e)).size + 1))
  have hz : s.data.toList.length = s.size := by rw [Array.length_toList]; rfl
  refine Kd.event_run hgd (w1 := W.drew.alloc (.cells (bytesRow s (grownCap W s.size 0 e)) e ((bytesRow s (grownCap W s.size 0 e)).size, (bytesRow s (grownCap W s.size 0 e)).size + 1))) (v := .slice (some ⟨W.heap.size, 0, none⟩) s.size (grownCap W s.size 0 e)) (by simp [execOp, ho, hx, hr]) (h _ _ ⟨W.heap.size, grownCap W s.size 0 e, bytesRow s (grownCap W s.size 0 e), ((bytesRow s (grownCap W s.size 0 e)).size, (bytesRow s (grownCap W s.size 0 e)).size + 1), by rw [strNums_length], Nat.le_refl _, blk_new W.drew _, Nat.le_refl _, ?_, ?_⟩ hb)
  · rw [strNums_length]
    unfold bytesRow
    rw [Array.size_append, Array.size_map]
    exact Nat.le_add_right _ _
  · rw [strNums_length]
    unfold bytesRow
    rw [Array.toList_append, Array.toList_map, List.take_append_of_le_length (by rw [List.length_map, hz]; exact Nat.le_refl _), List.take_of_length_le (by rw [List.length_map, hz]; exact Nat.le_refl _)]
    unfold nums strNums
    rw [List.map_map]
    rfl
end
end Go.Proofs.YtodbabeldolcbaaDoor.PA
