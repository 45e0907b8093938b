/- The reference's comparison of records; what the maker's Record gives. Conditions: each lemma names its own. -/
import Derived.Test.YtodbabeldolcbaaDoorY7VCuts
import Derived.Test.YtodbabeldolcbaaDoorY7PAx0
import Derived.Test.YtodbabeldolcbaaDoorY7PAx11
import Derived.Test.YtodbabeldolcbaaDoorY7PAx14
namespace Go.Proofs.YtodbabeldolcbaaDoor.PA
set_option linter.unusedSimpArgs false
set_option linter.unusedVariables false
open Go.RowKit Go.Proofs.YtodbabeldolcbaaDoorW.PrintWords Go.Proofs.YtodbabeldolcbaaDoorW.PrintLast Go.Proofs.YtodbabeldolcbaaDoorW.PrintMore Go.Proofs.YtodbabeldolcbaaDoor.M0
instance pairDec : DecidableEq S25 := fun p q =>
  if h : p.f0 = q.f0 ∧ p.f1 = q.f1 ∧ p.f2 = q.f2 ∧ p.f3 = q.f3 then isTrue (by cases p; cases q; simp only at h; rw [h.1, h.2.1, h.2.2.1, h.2.2.2])
  else isFalse (fun e => h (by subst e; exact ⟨rfl, rfl, rfl, rfl⟩))
theorem pair_ne (p q : S25) : (!(((p.f0).toList) == ((q.f0).toList)) || (!((p.f1) == (q.f1)) || (!((p.f2) == (q.f2)) || (!(((p.f3).toList) == ((q.f3).toList)))))) = !decide (p = q) := by
  rw [str_beq, str_beq]
  by_cases h : p = q
  · subst h; simp
  · rw [decide_eq_false h]
    have hn : ¬ (p.f0 = q.f0 ∧ p.f1 = q.f1 ∧ p.f2 = q.f2 ∧ p.f3 = q.f3) := fun ⟨e0, e1, e2, e3⟩ => h (by cases p; cases q; simp only at e0 e1 e2 e3; rw [e0, e1, e2, e3])
    by_cases e0 : p.f0 = q.f0
    · by_cases e1 : p.f1 = q.f1
      · by_cases e2 : p.f2 = q.f2
        · by_cases e3 : p.f3 = q.f3
          · exact absurd ⟨e0, e1, e2, e3⟩ hn
          · simp [e3]
        · simp [e2]
      · simp [e1]
    · simp [e0]
theorem same_loop (a b : List S25) (hlen : a.length = b.length) (hb : a.length ≤ 100000000) : ∀ (m i k : Nat), i + m = a.length → m < k → kauditref03_SamePairs.l0 k a b (i : Int) = some (decide (a.drop i = b.drop i)) := by
  intro m
  induction m with
  | zero =>
    intro i k hi hk
    obtain ⟨k, rfl⟩ : ∃ j, k = j + 1 := ⟨k - 1, by omega⟩
    rw [kauditref03_SamePairs.l0, if_neg (by omega), List.drop_of_length_le (by omega), List.drop_of_length_le (by omega)]
    rfl
  | succ m ih =>
    intro i k hi hk
    obtain ⟨k, rfl⟩ : ∃ j, k = j + 1 := ⟨k - 1, by omega⟩
    have ha : i < a.length := by omega
    have hb2 : i < b.length := by omega
    have hw : wrap64 ((i : Int) + 1) = ((i + 1 : Nat) : Int) := by rw [wrap64_id (by omega) (by omega)]; omega
    rw [kauditref03_SamePairs.l0, if_pos (by omega), if_pos (by omega), if_pos (by omega), pair_ne, hw, ih (i + 1) k (by omega) (by omega), rd_get ha, rd_get hb2, List.drop_eq_getElem_cons ha, List.drop_eq_getElem_cons hb2]
    by_cases h : a[i] = b[i]
    · rw [decide_eq_true h, if_neg (by simp)]
      congr 1
      apply decide_eq_decide.2
      rw [List.cons.injEq]
      exact ⟨fun x => ⟨h, x⟩, fun x => x.2⟩
    · rw [decide_eq_false h, if_pos (by simp)]
      congr 1
      exact (decide_eq_false (fun x => h (List.cons.inj x).1)).symm
theorem same_pairs (a b : List S25) (hb : a.length ≤ 100000000) (k : Nat) (hk : a.length < k) : kauditref03_SamePairs.f k a b = some (decide (a = b)) := by
  unfold kauditref03_SamePairs.f
  by_cases h : a.length = b.length
  · rw [if_pos (by omega)]
    have := same_loop a b h hb a.length 0 k (by omega) hk
    rw [List.drop_zero, List.drop_zero] at this
    exact this
  · rw [if_neg (by omega)]
    congr 1
    exact (decide_eq_false (fun e => h (by rw [e]))).symm
theorem same_run (t tm sr t' tm' sr' : Int) (a b : List S25) (hb : a.length ≤ 100000000) (k : Nat) (hk : a.length < k) : kauditref03_Same.f k t tm sr a t' tm' sr' b = some (decide (t = t' ∧ tm = tm' ∧ sr = sr' ∧ a = b)) := by
  unfold kauditref03_Same.f
  rw [same_pairs a b hb k hk, Option.bind_some]
  by_cases h1 : t = t'
  · rw [if_pos h1]
    by_cases h2 : tm = tm'
    · rw [if_pos h2]
      by_cases h3 : sr = sr'
      · rw [if_pos h3]
        congr 1
        exact decide_eq_decide.2 ⟨fun x => ⟨h1, h2, h3, x⟩, fun x => x.2.2.2⟩
      · rw [if_neg h3]
        congr 1
        exact (decide_eq_false (fun e => h3 e.2.2.1)).symm
    · rw [if_neg h2]
      congr 1
      exact (decide_eq_false (fun e => h2 e.2.1)).symm
  · rw [if_neg h1]
    congr 1
    exact (decide_eq_false (fun e => h1 e.1)).symm
/-! ### the maker's Record -/
def allOK (l : List S25) : Prop := ∀ p ∈ l, PairOK p.f0 p.f1 p.f2 p.f3
theorem allOK.snoc {l : List S25} {p : S25} (h : allOK l) (hp : PairOK p.f0 p.f1 p.f2 p.f3) : allOK (l ++ [p]) := fun q hq => by
  rcases List.mem_append.1 hq with hq | hq
  · exact h q hq
  · obtain rfl := List.mem_singleton.1 hq
    exact hp
theorem allOK.nums {l : List S25} (h : allOK l) : numsOK l = true := by
  unfold numsOK
  rw [List.all_eq_true]
  intro p hp
  have := (h p hp).num
  rw [decide_eq_true this.1, decide_eq_true this.2]
  rfl
end Go.Proofs.YtodbabeldolcbaaDoor.PA
