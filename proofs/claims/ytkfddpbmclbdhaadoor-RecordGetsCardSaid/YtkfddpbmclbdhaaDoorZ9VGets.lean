/- The law RecordGets in plain Lean: both Gets find the first pair of a name. Conditions: the numbers of the record's pairs are of type int. -/
import Derived.Test.YtkfddpbmclbdhaaDoorZ9VRec
import Derived.Test.YtkfddpbmclbdhaaDoorZ9VSame
import Derived.Test.YtkfddpbmclbdhaaDoorZ9VMake
import Derived.Test.YtkfddpbmclbdhaaDoorZ9PAx0
import Derived.Test.YtkfddpbmclbdhaaDoorZ9PAx10
import Derived.Test.YtkfddpbmclbdhaaDoorZ9PAx16
import Derived.Test.YtkfddpbmclbdhaaDoorZ9PAx17
namespace Go.Proofs.YtkfddpbmclbdhaaDoor.PA
set_option linter.unusedSimpArgs false
set_option linter.unusedVariables false
open Go.RowKit Go.Proofs.YtkfddpbmclbdhaaDoorW.PrintWords Go.Proofs.YtkfddpbmclbdhaaDoorW.PrintLast Go.Proofs.YtkfddpbmclbdhaaDoorW.PrintMore Go.Proofs.YtkfddpbmclbdhaaDoor.M0
/-- The first pair of a name, and whether there is one. -/
def getW (x : ByteArray) : List S31 → ByteArray × Int × Int × ByteArray × Bool
  | [] => (⟨#[]⟩, 0, 0, ⟨#[]⟩, false)
  | p :: l => if p.f0.toList = x.toList then (p.f0, p.f1, p.f2, p.f3, true) else getW x l
theorem rd_drop (l : List S31) (i : Nat) (h : i < l.length) : l.drop i = rd_T31 l (i : Int) :: l.drop (i + 1) := by
  unfold rd_T31
  rw [List.drop_eq_getElem_cons h, List.getD_eq_getElem?_getD, Int.toNat_natCast, List.getElem?_eq_getElem h]
  rfl
theorem get_loop (x : ByteArray) (l : List S31) (hl : l.length ≤ 1000) : ∀ (d i k : Nat), i + d = l.length → d < k → record_Get.l0 k x l (l.length : Int) (i : Int) = some (getW x (l.drop i)) := by
  intro d
  induction d with
  | zero =>
    intro i k hi hk
    obtain ⟨k, rfl⟩ : ∃ m, k = m + 1 := ⟨k - 1, by omega⟩
    rw [record_Get.l0, if_neg (by omega), List.drop_eq_nil_of_le (by omega)]
    rfl
  | succ d ih =>
    intro i k hi hk
    obtain ⟨k, rfl⟩ : ∃ m, k = m + 1 := ⟨k - 1, by omega⟩
    have hw : wrap64 ((i : Int) + 1) = ((i + 1 : Nat) : Int) := by rw [wrap64_id (by omega) (by omega)]; omega
    rw [record_Get.l0, if_pos (by omega), if_pos (by omega), if_pos (by omega), rd_drop l i (by omega), getW]
    by_cases h : (rd_T31 l (i : Int)).f0.toList = x.toList
    · rw [if_pos h, if_pos h]
    · rw [if_neg h, if_neg h, hw]
      exact ih (i + 1) k (by omega) (by omega)
theorem get3_loop (x : ByteArray) (t tm sr : Int) (l : List S31) (hl : l.length ≤ 1000) : ∀ (d i k : Nat), i + d = l.length → d < k → kauditref03_Get.l0 k x (i : Int) t tm sr l = some (getW x (l.drop i)) := by
  intro d
  induction d with
  | zero =>
    intro i k hi hk
    obtain ⟨k, rfl⟩ : ∃ m, k = m + 1 := ⟨k - 1, by omega⟩
    rw [kauditref03_Get.l0, if_neg (by omega), List.drop_eq_nil_of_le (by omega)]
    rfl
  | succ d ih =>
    intro i k hi hk
    obtain ⟨k, rfl⟩ : ∃ m, k = m + 1 := ⟨k - 1, by omega⟩
    have hw : wrap64 ((i : Int) + 1) = ((i + 1 : Nat) : Int) := by rw [wrap64_id (by omega) (by omega)]; omega
    rw [kauditref03_Get.l0, if_pos (by omega), if_pos (by omega), rd_drop l i (by omega), getW]
    by_cases h : (rd_T31 l (i : Int)).f0.toList = x.toList
    · rw [if_pos h, if_pos h]
    · rw [if_neg h, if_neg h, hw]
      exact ih (i + 1) k (by omega) (by omega)
theorem get_run (k : Nat) (hk : 1000 < k) (x : ByteArray) (t tm sr : Int) (l : List S31) (hl : l.length ≤ 1000) : record_Get.f k t tm sr l x = some (getW x l) := get_loop x l hl l.length 0 k (by omega) (by omega)
theorem get3_run (k : Nat) (hk : 1000 < k) (x : ByteArray) (t tm sr : Int) (l : List S31) (hl : l.length ≤ 1000) : kauditref03_Get.f k t tm sr l x = some (getW x l) := get3_loop x t tm sr l hl l.length 0 k (by omega) (by omega)
theorem gets_loop (ns : List ByteArray) (hn : ns.length ≤ 100) (t tm sr t' tm' sr' : Int) (l l' : List S31) (hl : l.length ≤ 1000) (hl' : l'.length ≤ 1000) : ∀ (d i k : Nat), i + d = ns.length → d + 1002 < k →
    kauditlaw03_RecordGets.l0 k ns (i : Int) t tm sr l t' tm' sr' l' = some true := by
  intro d
  induction d with
  | zero =>
    intro i k hi hk
    obtain ⟨k, rfl⟩ : ∃ m, k = m + 1 := ⟨k - 1, by omega⟩
    rw [kauditlaw03_RecordGets.l0, if_neg (by omega), awake03_run]
    rfl
  | succ d ih =>
    intro i k hi hk
    obtain ⟨k, rfl⟩ : ∃ m, k = m + 1 := ⟨k - 1, by omega⟩
    have hw : wrap64 ((i : Int) + 1) = ((i + 1 : Nat) : Int) := by rw [wrap64_id (by omega) (by omega)]; omega
    rw [kauditlaw03_RecordGets.l0, if_pos (by omega), if_pos (by omega), get_run k (by omega) _ t tm sr l hl, get3_run k (by omega) _ t tm sr l hl, get_run k (by omega) _ t' tm' sr' l' hl', get3_run k (by omega) _ t' tm' sr' l' hl']
    simp only [Option.bind_some]
    rw [if_neg (by simp), if_neg (by simp), if_neg (by simp), if_neg (by simp), hw]
    exact ih (i + 1) k (by omega) (by omega)
theorem light_len {l : List S31} (h : lightL l = true) : l.length ≤ 40 := by
  unfold lightL at h
  rw [Bool.and_eq_true] at h
  exact of_decide_eq_true h.1
theorem gets_main (k : Nat) (hk : 1200 < k) (t tm sr : Int) (l : List S31) (x : ByteArray) (l2 : List Int) : kauditlaw03_RecordGets.f k t tm sr l x l2 = some true := by
  unfold kauditlaw03_RecordGets.f
  rw [light_run t tm sr l k (by omega), Option.bind_some]
  by_cases hL : lightL l = true
  · have hlen := light_len hL
    rw [if_pos hL]
    unfold kauditmake_New.f
    rw [Option.bind_some]
    obtain ⟨t2, tm2, sr2, ps, at1, h1, p1, p2, p3, p4, p5, p6, g1, g2⟩ := src_Record l2 0 k (by omega) (by omega) (by omega)
    rw [h1, Option.bind_some]
    exact gets_loop [x, (⟨#[97]⟩ : ByteArray), (⟨#[117, 105, 100]⟩ : ByteArray), (⟨#[120, 95, 49]⟩ : ByteArray)] (by simp) t tm sr t2 tm2 sr2 l ps (by omega) (by omega) 4 0 k (by simp) (by omega)
  · rw [if_neg hL, awake03_run]
    rfl
/-- The law RecordGets, plain. -/
theorem pure_RecordGets (t tm sr : Int) (l : List S31) (x : ByteArray) (l2 : List Int) (hn : numsOK l = true) (_ : x.size ≤ 140737488351232) (_ : l2.length ≤ maxLen) (_ : l2.length * 8 ≤ 140737488351232) (_ : ∀ x ∈ l2, (Lit.int .i64 x).wf = true) : ∃ k, kauditlaw03_RecordGets.f k t tm sr l x l2 = some true :=
  ⟨1201, gets_main 1201 (by omega) t tm sr l x l2⟩
end Go.Proofs.YtkfddpbmclbdhaaDoor.PA
