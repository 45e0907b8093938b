/- The functions of the reference of layer 3 compute what record.Check and record.Format compute; the law RecordChecks in plain Lean. Conditions: the numbers of the pairs are of type int. -/
import Derived.Test.YtkfddpbmclbdhaaDoorZ7EForm
import Derived.Test.YtkfddpbmclbdhaaDoorZ7VPair
import Derived.Test.YtkfddpbmclbdhaaDoorZ7PAx14
namespace Go.Proofs.YtkfddpbmclbdhaaDoor.PA
set_option linter.unusedSimpArgs false
set_option linter.unusedVariables false
open Go.RowKit Go.Proofs.YtkfddpbmclbdhaaDoorW.PrintWords Go.Proofs.YtkfddpbmclbdhaaDoorW.PrintLast Go.Proofs.YtkfddpbmclbdhaaDoorW.PrintMore Go.Proofs.YtkfddpbmclbdhaaDoor.M0
/-! ### the table -/
def resF (t : Int) (l : List (List UInt8 × Int × Bool)) : ByteArray × Int × Bool × Bool :=
  match l.find? (fun k => k.2.1 == t) with
  | some k => (strOf k.1, k.2.1, k.2.2, true)
  | none => (⟨#[]⟩, 0, false, false)
def kindsS : List S123 := kindsT.map fun k => ⟨strOf k.1, k.2.1, k.2.2⟩
theorem kinds_run : kauditref03_kinds.f = some kindsS := rfl
theorem kindsS_at (i : Nat) (hi : i < 10) : rd_T123 kindsS (i : Int) = ⟨strOf (kindAt i).1, (kindAt i).2.1, (kindAt i).2.2⟩ := by
  match i, hi with
  | 0, _ | 1, _ | 2, _ | 3, _ | 4, _ | 5, _ | 6, _ | 7, _ | 8, _ | 9, _ => rfl
  | n + 10, h => omega
theorem find_from (t : Int) (m : Nat) : ∀ d i : Nat, i + d = 10 → kauditref03_find.l0 (d + 1 + m) t kindsS (i : Int) = some (resF t (kindsT.drop i)) := by
  intro d
  induction d with
  | zero =>
    intro i hi
    obtain rfl : i = 10 := by omega
    rw [show 0 + 1 + m = m + 1 by omega]
    unfold kauditref03_find.l0
    rw [if_neg (by decide)]
    rfl
  | succ d ih =>
    intro i hi
    have h := ih (i + 1) (by omega)
    have hlen : ((kindsS.length : Nat) : Int) = 10 := rfl
    have hw : wrap64 ((i : Int) + 1) = ((i + 1 : Nat) : Int) := by rw [wrap64_id (by omega) (by omega)]; omega
    have hd : kindsT.drop i = kindAt i :: kindsT.drop (i + 1) := by
      rw [List.drop_eq_getElem_cons (show i < kindsT.length by show i < 10; omega), kind_get (by omega)]
    rw [show d + 1 + 1 + m = (d + 1 + m) + 1 by omega]
    unfold kauditref03_find.l0
    rw [hlen, if_pos (by omega), if_pos (by omega), kindsS_at i (by omega), hw, h, hd]
    unfold resF
    rw [List.find?_cons]
    by_cases hq : (kindAt i).2.1 = t
    · rw [if_pos hq, beq_iff_eq.mpr hq]
    · rw [if_neg hq, beq_eq_false_iff_ne.mpr hq]
theorem ref_find_run (k : Nat) (hk : 11 ≤ k) (t : Int) : kauditref03_find.f k t = some (resF t kindsT) := by
  unfold kauditref03_find.f
  rw [kinds_run, Option.bind_some]
  have := find_from t (k - 11) 10 0 (by omega)
  rw [show 10 + 1 + (k - 11) = k by omega] at this
  exact this
theorem resF_name (t : Int) : (resF t kindsT).1 = nameK t := by
  unfold resF nameK kindF
  cases kindsT.find? (fun k => k.2.1 == t) <;> rfl
/-! ### the law -/
theorem awake03_run : kauditlaw03_awake.f = some true := by decide +kernel
end Go.Proofs.YtkfddpbmclbdhaaDoor.PA
