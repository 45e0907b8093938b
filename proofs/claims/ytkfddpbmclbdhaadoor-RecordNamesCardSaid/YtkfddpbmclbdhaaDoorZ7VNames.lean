/- The law RecordNames in plain Lean: the four functions of the table agree with the reference. Conditions: none. -/
import Derived.Test.YtkfddpbmclbdhaaDoorZ7VRec
import Derived.Test.YtkfddpbmclbdhaaDoorZ7ETypes
import Derived.Test.YtkfddpbmclbdhaaDoorZ7PAx17
namespace Go.Proofs.YtkfddpbmclbdhaaDoor.PA
set_option linter.unusedSimpArgs false
set_option linter.unusedVariables false
open Go.RowKit Go.Proofs.YtkfddpbmclbdhaaDoorW.PrintWords Go.Proofs.YtkfddpbmclbdhaaDoorW.PrintLast Go.Proofs.YtkfddpbmclbdhaaDoorW.PrintMore Go.Proofs.YtkfddpbmclbdhaaDoor.M0
theorem resF_single (t : Int) : (resF t kindsT).2.2.1 = (kindF fun k => k.2.1 == t).2.2 := by
  unfold resF kindF
  cases kindsT.find? (fun k => k.2.1 == t) <;> rfl
theorem types_run : kauditref03_Types.f 1000 = some typesL := by decide +kernel
theorem name_run (k : Nat) (hk : 11 ≤ k) (t : Int) : kauditref03_Name.f k t = some (nameK t) := by
  unfold kauditref03_Name.f
  rw [ref_find_run k hk, Option.bind_some, resF_name]
theorem single_run (k : Nat) (hk : 11 ≤ k) (t : Int) : kauditref03_Single.f k t = some (kindF fun k => k.2.1 == t).2.2 := by
  unfold kauditref03_Single.f
  rw [ref_find_run k hk, Option.bind_some, resF_single]
theorem number_from (x : ByteArray) (m : Nat) : ∀ d i : Nat, i + d = 10 → kauditref03_Number.l0 (d + 1 + m) x kindsS (i : Int) = some (((kindsT.drop i).find? fun k => decide (strOf k.1 = x)).getD ([], 0, false)).2.1 := by
  intro d
  induction d with
  | zero =>
    intro i hi
    obtain rfl : i = 10 := by omega
    rw [show 0 + 1 + m = m + 1 by omega]
    unfold kauditref03_Number.l0
    rw [if_neg (by decide)]
    rfl
  | succ d ih =>
    intro i hi
    have h := ih (i + 1) (by omega)
    have hlen : ((kindsS.length : Nat) : Int) = 10 := rfl
    have hw : wrap64 ((i : Int) + 1) = ((i + 1 : Nat) : Int) := by rw [wrap64_id (by omega) (by omega)]; omega
    have hd : kindsT.drop i = kindAt i :: kindsT.drop (i + 1) := by
      rw [List.drop_eq_getElem_cons (show i < kindsT.length by show i < 10; omega), kind_get (by omega)]
    rw [show d + 1 + 1 + m = (d + 1 + m) + 1 by omega]
    unfold kauditref03_Number.l0
    rw [hlen, if_pos (by omega), if_pos (by omega), kindsS_at i (by omega), hw, h, hd, List.find?_cons]
    have hs := str_beq (strOf (kindAt i).1) x
    by_cases hq : strOf (kindAt i).1 = x
    · rw [if_pos (by rw [hq]), decide_eq_true hq]
      rfl
    · rw [decide_eq_false hq] at hs
      rw [if_neg (by simpa using hs), decide_eq_false hq]
theorem number_run (k : Nat) (hk : 11 ≤ k) (x : ByteArray) : kauditref03_Number.f k x = record_Number.f x := by
  unfold kauditref03_Number.f record_Number.f kindF
  rw [kinds_run, Option.bind_some]
  have := number_from x (k - 11) 10 0 (by omega)
  rw [show 10 + 1 + (k - 11) = k by omega] at this
  exact this
theorem types_at (i : Nat) (hi : i < 10) : rd typesL (i : Int) = (kindAt i).2.1 ∧ record_Number.f (nameK (kindAt i).2.1) = some (kindAt i).2.1 := by
  match i, hi with
  | 0, _ | 1, _ | 2, _ | 3, _ | 4, _ | 5, _ | 6, _ | 7, _ | 8, _ | 9, _ => exact ⟨rfl, by decide +kernel⟩
  | n + 10, h => omega
theorem names_from (a : Int) (b : ByteArray) (m : Nat) : ∀ d i : Nat, i + d = 10 → kauditlaw03_RecordNames.l0 (d + 12 + m) a b typesL typesL (i : Int) = some true := by
  intro d
  induction d with
  | zero =>
    intro i hi
    obtain rfl : i = 10 := by omega
    rw [show 0 + 12 + m = (11 + m) + 1 by omega]
    unfold kauditlaw03_RecordNames.l0
    rw [if_neg (by decide), name_run (11 + m) (by omega), name_run (11 + m) (by omega), single_run (11 + m) (by omega), number_run (11 + m) (by omega), awake03_run]
    unfold record_Name.f record_Single.f record_Number.f
    simp only [Option.bind_some, nameK, if_true, beq_self_eq_true]
  | succ d ih =>
    intro i hi
    have h := ih (i + 1) (by omega)
    have hlen : ((typesL.length : Nat) : Int) = 10 := rfl
    have hw : wrap64 ((i : Int) + 1) = ((i + 1 : Nat) : Int) := by rw [wrap64_id (by omega) (by omega)]; omega
    obtain ⟨h1, h2⟩ := types_at i (by omega)
    rw [show d + 1 + 12 + m = (d + 12 + m) + 1 by omega]
    unfold kauditlaw03_RecordNames.l0
    rw [hlen, if_pos (by omega), if_pos (by omega), if_pos (by omega), if_pos rfl, h1, name_run _ (by omega), single_run _ (by omega), hw, h]
    have e1 : record_Name.f (kindAt i).2.1 = some (nameK (kindAt i).2.1) := rfl
    have e2 : record_Single.f (kindAt i).2.1 = some (kindF fun k => k.2.1 == (kindAt i).2.1).2.2 := rfl
    rw [e1, e2]
    simp only [Option.bind_some, h2, if_true, bne_self_eq_false, Bool.false_eq_true, if_false]
theorem pure_RecordNames (a : Int) (b : ByteArray) (ha : (Lit.int .i64 a).wf = true) (hb : b.size ≤ 140737488351232) : ∃ k, kauditlaw03_RecordNames.f k a b = some true := by
  refine ⟨1000, ?_⟩
  have e : record_Types.f = some typesL := rfl
  unfold kauditlaw03_RecordNames.f
  rw [e, types_run, Option.bind_some, Option.bind_some, if_pos rfl]
  exact names_from a b 978 10 0 (by omega)
end Go.Proofs.YtkfddpbmclbdhaaDoor.PA
