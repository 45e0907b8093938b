/- What a call leaves alone but for one block (Off). Conditions: each lemma names its own. -/
import Derived.Test.YtkfddpbmclbdhaaDoorZAPAx0
namespace Go.Proofs.YtkfddpbmclbdhaaDoor.PA
open Go.RowKit Go.Proofs.YtkfddpbmclbdhaaDoorW.PrintWords Go.Proofs.YtkfddpbmclbdhaaDoorW.PrintLast Go.Proofs.YtkfddpbmclbdhaaDoorW.PrintMore
def Off (g : Nat) (w w' : World) : Prop := (∀ B a, B ≤ g → Below B a w → Below B a w') ∧ (∀ k o, k ≠ g → w.heap[k]? = some o → w'.heap[k]? = some o) ∧ w.heap.size ≤ w'.heap.size
theorem Off.refl (g : Nat) (w : World) : Off g w w := ⟨fun _ _ _ h => h, fun _ _ _ h => h, Nat.le_refl _⟩
theorem Off.trans {g : Nat} {a b c : World} (h : Off g a b) (k : Off g b c) : Off g a c := ⟨fun B x hB hx => k.1 B x hB (h.1 B x hB hx), fun j o hj ho => k.2.1 j o hj (h.2.1 j o hj ho), Nat.le_trans h.2.2 k.2.2⟩
theorem Off.of_below {g : Nat} {w w' : World} (hg : g < w.heap.size) (h : Below w.heap.size w w') : Off g w w' :=
 ⟨fun B a hB hx => hx.trans (h.mono (by omega)), fun k o _ ho => Zah ho h, h.size⟩
theorem Off.set {g : Nat} {w0 w : World} (h : Off g w0 w) (i : Nat) (v : Value) : Off g w0 (w.setCell ⟨g, i, none⟩ v) :=
 ⟨fun B a hB hx => (h.1 B a hB hx).setCell hB v, fun k o hk ho => (Below.heap_setCell w ⟨g, i, none⟩ v k hk).trans (h.2.1 k o hk ho), by have := h.2.2; simpa [World.setCell] using this⟩
end Go.Proofs.YtkfddpbmclbdhaaDoor.PA
