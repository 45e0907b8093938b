/- The law RecordLimits in plain Lean: a record with as many and as long pairs as permitted comes back from its line; one pair more is refused. Conditions: none. -/
import Derived.Test.YtodbabeldolcbaaDoorY7ERParse
import Derived.Test.YtodbabeldolcbaaDoorY7VRec
import Derived.Test.YtodbabeldolcbaaDoorY7VSame
import Derived.Test.YtodbabeldolcbaaDoorY7VCuts
import Derived.Test.YtodbabeldolcbaaDoorY7PAx0
import Derived.Test.YtodbabeldolcbaaDoorY7PAx16
namespace Go.Proofs.YtodbabeldolcbaaDoor.PA
set_option linter.unusedSimpArgs false
set_option linter.unusedVariables false
open Go.RowKit Go.Proofs.YtodbabeldolcbaaDoorW.PrintWords Go.Proofs.YtodbabeldolcbaaDoorW.PrintLast Go.Proofs.YtodbabeldolcbaaDoorW.PrintMore Go.Proofs.YtodbabeldolcbaaDoor.M0
/-- The name of pair i. -/
def nmI (i : Int) : ByteArray := (⟨#[97, 98, 99, 100, 101, 102, 103, 104, 105, 106, 107, 108, 109, 110, 111]⟩ : ByteArray) ++ (Go.Utf8.encode (wrap32 (wrap64 (97 + i))))
theorem enc_size : ∀ i : Fin 24, (Go.Utf8.encode (wrap32 (wrap64 (97 + ((i.val : Nat) : Int))))).size = 1 := by decide +kernel
theorem nm_name : ∀ i : Fin 24, nameL (L (nmI ((i.val : Nat) : Int))) = true := by decide +kernel
theorem nm_size : ∀ i : Fin 24, (nmI ((i.val : Nat) : Int)).size = 16 := by decide +kernel
theorem nm_differ : ∀ i j : Fin 24, j.val < i.val → nmI ((j.val : Nat) : Int) ≠ nmI ((i.val : Nat) : Int) := by
  have key : ∀ i j : Fin 24, j.val < i.val → L (nmI ((j.val : Nat) : Int)) ≠ L (nmI ((i.val : Nat) : Int)) := by decide +kernel
  intro i j h e
  exact key i j h (by rw [e])
def prI (t : ByteArray) (i : Nat) : S25 := ⟨nmI (i : Int), 2, 0, t⟩
def prsI (t : ByteArray) (m : Nat) : List S25 := (List.range m).map (prI t)
theorem prs_len (t : ByteArray) (m : Nat) : (prsI t m).length = m := by simp [prsI]
theorem prs_succ (t : ByteArray) (m : Nat) : prsI t (m + 1) = prsI t m ++ [prI t m] := by simp [prsI, List.range_succ]
theorem prs_pairs (t : ByteArray) (ht : t.size ≤ 640) (more : List S25) : ∀ d m : Nat, m + d = 24 → pairsI (prsI t m) (((List.range 24).drop m).map (prI t)) = 0 := by
  intro d
  induction d with
  | zero =>
    intro m hm
    rw [List.drop_eq_nil_of_le (by simp; omega), List.map_nil, pairsI]
  | succ d ih =>
    intro m hm
    have hl : m < (List.range 24).length := by simp; omega
    have hc : checkI (L (nmI (m : Int))) 2 0 (L t) = 0 := by
      unfold checkI
      rw [if_pos (nm_name ⟨m, by omega⟩), if_neg (by omega), if_neg (by rw [← size_L]; omega)]
    have hn : hasN (prsI t m) (nmI (m : Int)) = false := by
      unfold hasN prsI
      rw [List.any_eq_false]
      intro p hp
      obtain ⟨j, hj, rfl⟩ := List.mem_map.1 hp
      have hjm : j < m := List.mem_range.1 hj
      have := nm_differ ⟨m, by omega⟩ ⟨j, by omega⟩ hjm
      exact fun h => this (of_decide_eq_true h)
    rw [List.drop_eq_getElem_cons hl, List.getElem_range, List.map_cons, pairsI]
    show (if checkI (L (nmI (m : Int))) 2 0 (L t) = 0 then (if hasN (prsI t m) (nmI (m : Int)) then 33 else pairsI (prsI t m ++ [prI t m]) _) else _) = 0
    rw [if_pos hc, hn, if_neg (by decide), ← prs_succ]
    exact ih (m + 1) (by omega)
theorem lim_check (t : ByteArray) (ht : t.size ≤ 640) : checkR 1306 1099511627776 1073741824 (prsI t 24) = 0 := by
  unfold checkR
  rw [if_neg (by decide +kernel), if_neg (by omega), if_neg (by omega), if_neg (by omega), if_neg (by omega), if_neg (by rw [prs_len]; omega)]
  exact prs_pairs t ht [] 24 0 rfl
theorem lim_short (t : ByteArray) : shortN (prsI t 24) = true := by
  unfold shortN prsI
  rw [List.all_eq_true]
  intro p hp
  obtain ⟨j, hj, rfl⟩ := List.mem_map.1 hp
  have := nm_size ⟨j, List.mem_range.1 hj⟩
  exact decide_eq_true (Nat.le_trans (Nat.le_of_eq this) (show 16 ≤ 100000 by decide))
theorem lim_nums (t : ByteArray) : numsOK (prsI t 24) = true := by
  unfold numsOK prsI
  rw [List.all_eq_true]
  intro p hp
  obtain ⟨j, hj, rfl⟩ := List.mem_map.1 hp
  rfl
theorem lim_forms (t : ByteArray) (ht : t.size ≤ 640) : FormsR (1306, 1099511627776, 1073741824, prsI t 24) (formatR 1306 1099511627776 1073741824 (prsI t 24)).1 := by
  refine FormsR.of (lim_nums t) (Prod.ext rfl ?_)
  unfold formatR
  rw [if_pos (lim_check t ht)]
theorem lim_l1 (l : List Int) (hl : (strOfNums l).size ≤ 640) (b : Bool) : ∀ (d i k : Nat), i + d = 24 → d + 200 ≤ k → kauditlaw03_RecordLimits.l1 k b l (i : Int) 1306 1099511627776 1073741824 (prsI (strOfNums l) i) = some true := by
  intro d
  induction d with
  | zero =>
    intro i k hi hk
    obtain ⟨k, rfl⟩ : ∃ m, k = m + 1 := ⟨k - 1, by omega⟩
    obtain rfl : i = 24 := by omega
    rw [kauditlaw03_RecordLimits.l1, if_neg (by omega)]
    cases b with
    | true =>
      rw [if_pos rfl, if_pos (by rw [prs_len]; omega)]
      have hlen : (prsI (strOfNums l) 24 ++ [(⟨(⟨#[109, 111, 114, 101]⟩ : ByteArray), 3, 0, (⟨#[]⟩ : ByteArray)⟩ : S25)]).length = 25 := by rw [List.length_append, prs_len]; rfl
      have hc : checkR 1306 1099511627776 1073741824 (prsI (strOfNums l) 24 ++ [(⟨(⟨#[109, 111, 114, 101]⟩ : ByteArray), 3, 0, (⟨#[]⟩ : ByteArray)⟩ : S25)]) = 32 := by
        unfold checkR
        rw [if_neg (by decide +kernel), if_neg (by omega), if_neg (by omega), if_neg (by omega), if_neg (by omega), if_pos (by rw [hlen]; omega)]
      have hs : shortN (prsI (strOfNums l) 24 ++ [(⟨(⟨#[109, 111, 114, 101]⟩ : ByteArray), 3, 0, (⟨#[]⟩ : ByteArray)⟩ : S25)]) = true := by
        have h0 := lim_short (strOfNums l)
        unfold shortN at h0 ⊢
        rw [List.all_append, h0]
        rfl
      have hn : numsOK (prsI (strOfNums l) 24 ++ [(⟨(⟨#[109, 111, 114, 101]⟩ : ByteArray), 3, 0, (⟨#[]⟩ : ByteArray)⟩ : S25)]) = true := by
        have h0 := lim_nums (strOfNums l)
        unfold numsOK at h0 ⊢
        rw [List.all_append, h0]
        rfl
      unfold record_Format.f
      rw [if_pos (by rw [hs, hn]; rfl), Option.bind_some]
      have hf : formatR 1306 1099511627776 1073741824 (prsI (strOfNums l) 24 ++ [(⟨(⟨#[109, 111, 114, 101]⟩ : ByteArray), 3, 0, (⟨#[]⟩ : ByteArray)⟩ : S25)]) = (⟨#[]⟩, 32) := by
        unfold formatR
        rw [hc, if_neg (by omega)]
      rw [hf, if_pos rfl, if_pos (by simp), awake03_run]
      rfl
    | false =>
      rw [if_neg (by decide)]
      have hf := lim_forms (strOfNums l) hl
      have he : formatR 1306 1099511627776 1073741824 (prsI (strOfNums l) 24) = ((formatR 1306 1099511627776 1073741824 (prsI (strOfNums l) 24)).1, 0) := hf.format
      have hz := line_len hf
      unfold record_Format.f
      rw [if_pos (by rw [lim_short, lim_nums]; rfl), Option.bind_some]
      unfold record_Parse.f
      rw [if_pos (by omega), parseW_yes hf, Option.bind_some]
      rw [show (formatR 1306 1099511627776 1073741824 (prsI (strOfNums l) 24)).2 = 0 from by rw [he], if_pos rfl, if_pos rfl, if_pos (by omega), same_run _ _ _ _ _ _ _ _ (by rw [prs_len]; omega) k (by rw [prs_len]; omega), Option.bind_some, if_pos (by simp), awake03_run]
      rfl
  | succ d ih =>
    intro i k hi hk
    obtain ⟨k, rfl⟩ : ∃ m, k = m + 1 := ⟨k - 1, by omega⟩
    have hw : wrap64 ((i : Int) + 1) = ((i + 1 : Nat) : Int) := by rw [wrap64_id (by omega) (by omega)]; omega
    have hg := ih (i + 1) k (by omega) (by omega)
    rw [prs_succ] at hg
    rw [kauditlaw03_RecordLimits.l1, if_pos (by omega), if_pos (by rw [enc_size ⟨i, by omega⟩]; omega), if_pos (by rw [prs_len]; omega), hw]
    exact hg
theorem lim_l0 (x : Int) (b : Bool) : ∀ (d i : Nat) (l : List Int) (k : Nat), l.length = 640 → i + d = 640 → d + 300 ≤ k → kauditlaw03_RecordLimits.l0 k x b l (i : Int) = some true := by
  intro d
  induction d with
  | zero =>
    intro i l k hl hi hk
    obtain ⟨k, rfl⟩ : ∃ m, k = m + 1 := ⟨k - 1, by omega⟩
    rw [kauditlaw03_RecordLimits.l0, if_neg (by omega)]
    refine lim_l1 l ?_ b 24 0 k rfl (by omega)
    have : (strOfNums l).size = l.length := by
      show (strOfNums l).data.size = _
      simp [strOfNums]
    omega
  | succ d ih =>
    intro i l k hl hi hk
    obtain ⟨k, rfl⟩ : ∃ m, k = m + 1 := ⟨k - 1, by omega⟩
    have hw : wrap64 ((i : Int) + 1) = ((i + 1 : Nat) : Int) := by rw [wrap64_id (by omega) (by omega)]; omega
    rw [kauditlaw03_RecordLimits.l0, if_pos (by omega), if_pos (by omega), hw]
    exact ih (i + 1) _ k (by rw [List.length_set]; exact hl) (by omega) (by omega)
/-- The law RecordLimits, plain. -/
theorem pure_RecordLimits (x : Int) (b : Bool) (_ : (Lit.int .u8 x).wf = true) : ∃ k, kauditlaw03_RecordLimits.f k x b = some true := by
  refine ⟨1000, ?_⟩
  unfold kauditlaw03_RecordLimits.f
  rw [if_pos (by omega)]
  exact lim_l0 x b 640 0 _ 1000 List.length_replicate rfl (by omega)
end Go.Proofs.YtodbabeldolcbaaDoor.PA
