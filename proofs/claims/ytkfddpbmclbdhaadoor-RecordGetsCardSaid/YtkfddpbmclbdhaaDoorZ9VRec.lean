/- The functions of the reference of layer 3 compute what record.Check and record.Format compute; the law RecordChecks in plain Lean. Conditions: the numbers of the pairs are of type int. -/
import Derived.Test.YtkfddpbmclbdhaaDoorZ9EForm
import Derived.Test.YtkfddpbmclbdhaaDoorZ9VPair
import Derived.Test.YtkfddpbmclbdhaaDoorZ9PAx0
import Derived.Test.YtkfddpbmclbdhaaDoorZ9PAx11
import Derived.Test.YtkfddpbmclbdhaaDoorZ9PAx12
import Derived.Test.YtkfddpbmclbdhaaDoorZ9PAx13
import Derived.Test.YtkfddpbmclbdhaaDoorZ9PAx14
import Derived.Test.YtkfddpbmclbdhaaDoorZ9PAx18
namespace Go.Proofs.YtkfddpbmclbdhaaDoor.PA
set_option linter.unusedSimpArgs false
set_option linter.unusedVariables false
open Go.RowKit Go.Proofs.YtkfddpbmclbdhaaDoorW.PrintWords Go.Proofs.YtkfddpbmclbdhaaDoorW.PrintLast Go.Proofs.YtkfddpbmclbdhaaDoorW.PrintMore Go.Proofs.YtkfddpbmclbdhaaDoor.M0
/-! ### the law -/
theorem awake03_run : kauditlaw03_awake.f = some true := by decide +kernel
def lightL (l : List S31) : Bool := decide (l.length ≤ 40) && l.all fun p => decide (p.f0.size ≤ 40) && decide (p.f3.size ≤ 700)
theorem light_loop (t tm sr : Int) (l : List S31) (hb : l.length ≤ 100) : ∀ (m i F : Nat), i + m = l.length → m < F → kauditlaw03_light.l0 F (i : Int) t tm sr l = some ((l.drop i).all fun p => decide (p.f0.size ≤ 40) && decide (p.f3.size ≤ 700)) := by
  intro m
  induction m with
  | zero =>
    intro i F hi hF
    obtain rfl : i = l.length := by omega
    obtain ⟨F, rfl⟩ : ∃ G, F = G + 1 := ⟨F - 1, by omega⟩
    unfold kauditlaw03_light.l0
    rw [if_neg (by omega), List.drop_length]
    rfl
  | succ m ih =>
    intro i F hi hF
    obtain ⟨F, rfl⟩ : ∃ G, F = G + 1 := ⟨F - 1, by omega⟩
    have hlt : i < l.length := by omega
    have hw : wrap64 ((i : Int) + 1) = ((i + 1 : Nat) : Int) := by rw [wrap64_id (by omega) (by omega)]; omega
    have hr := rd_get (l := l) hlt
    unfold kauditlaw03_light.l0
    rw [if_pos (by omega), if_pos (by omega), hw, ih (i + 1) F (by omega) (by omega), List.drop_eq_getElem_cons hlt, List.all_cons, hr]
    by_cases h1 : l[i].f0.size ≤ 40
    · rw [if_neg (by omega), decide_eq_true h1, Bool.true_and]
      by_cases h2 : l[i].f3.size ≤ 700
      · rw [if_neg (by omega), decide_eq_true h2, Bool.true_and]
      · rw [if_pos (by omega), decide_eq_false h2, Bool.false_and]
    · rw [if_pos (by omega), decide_eq_false h1, Bool.false_and, Bool.false_and]
theorem light_run (t tm sr : Int) (l : List S31) (k : Nat) (hk : 101 ≤ k) : kauditlaw03_light.f k t tm sr l = some (lightL l) := by
  unfold kauditlaw03_light.f lightL
  by_cases h : l.length ≤ 40
  · rw [if_neg (by omega), decide_eq_true h, Bool.true_and]
    exact light_loop t tm sr l (by omega) l.length 0 k (by omega) (by omega)
  · rw [if_pos (by omega), decide_eq_false h, Bool.false_and]
end Go.Proofs.YtkfddpbmclbdhaaDoor.PA
