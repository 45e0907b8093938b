/- The reference's comparison of records; what the maker's Record gives. Conditions: each lemma names its own. -/
import Derived.Test.YtodbabeldolcbaaGreatDoorY9VCuts
import Derived.Test.YtodbabeldolcbaaGreatDoorY9PAx10
namespace Go.Proofs.YtodbabeldolcbaaGreatDoor.PA
set_option linter.unusedSimpArgs false
set_option linter.unusedVariables false
open Go.RowKit Go.Proofs.YtodbabeldolcbaaGreatDoorW.PrintWords Go.Proofs.YtodbabeldolcbaaGreatDoorW.PrintLast Go.Proofs.YtodbabeldolcbaaGreatDoorW.PrintMore Go.Proofs.YtodbabeldolcbaaGreatDoor.M0
instance pairDec : DecidableEq S88 := fun p q =>
 if h : p.f0 = q.f0 ∧ p.f1 = q.f1 ∧ p.f2 = q.f2 ∧ p.f3 = q.f3 then isTrue (by cases p; cases q; simp only at h; rw [h.1, h.2.1, h.2.2.1, h.2.2.2])
 else isFalse (fun e => h (by subst e; exact ⟨rfl, rfl, rfl, rfl⟩))
theorem pair_ne (p q : S88) : (!(((p.f0).toList) == ((q.f0).toList)) || (!((p.f1) == (q.f1)) || (!((p.f2) == (q.f2)) || (!(((p.f3).toList) == ((q.f3).toList)))))) = !decide (p = q) := by
 rw [Zbl, Zbl]
 by_cases h : p = q
 ·subst h; simp
 ·rw [decide_eq_false h]
  have hn : ¬ (p.f0 = q.f0 ∧ p.f1 = q.f1 ∧ p.f2 = q.f2 ∧ p.f3 = q.f3) := fun ⟨e0, e1, e2, e3⟩ => h (by cases p; cases q; simp only at e0 e1 e2 e3; rw [e0, e1, e2, e3])
  by_cases e0 : p.f0 = q.f0
  ·by_cases e1 : p.f1 = q.f1
   ·by_cases e2 : p.f2 = q.f2
    ·by_cases e3 : p.f3 = q.f3
     ·exact absurd ⟨e0, e1, e2, e3⟩ hn
     ·simp [e3]
    ·simp [e2]
   ·simp [e1]
  ·simp [e0]
theorem same_loop (a b : List S88) (hlen : a.length = b.length) (hb : a.length ≤ 100000000) : ∀ (m i k : Nat), i + m = a.length → m < k → kauditref03_SamePairs.l0 k a b (i : Int) = some (decide (a.drop i = b.drop i)) := by
 intro m
 induction m with
 | zero =>
  intro i k hi hk
  obtain ⟨k, rfl⟩ : ∃ j, k = j + 1 := ⟨k - 1, by omega⟩
  rw [kauditref03_SamePairs.l0, if_neg (by omega), List.drop_of_length_le (by omega), List.drop_of_length_le (by omega)]
  rfl
 | succ m ih =>
  intro i k hi hk
  obtain ⟨k, rfl⟩ : ∃ j, k = j + 1 := ⟨k - 1, by omega⟩
  have ha : i < a.length := by omega
  have hb2 : i < b.length := by omega
  have hw : wrap64 ((i : Int) + 1) = ((i + 1 : Nat) : Int) := by rw [wrap64_id (by omega) (by omega)]; omega
  rw [kauditref03_SamePairs.l0, if_pos (by omega), if_pos (by omega), if_pos (by omega), pair_ne, hw, ih (i + 1) k (by omega) (by omega), rd_get ha, rd_get hb2, List.drop_eq_getElem_cons ha, List.drop_eq_getElem_cons hb2]
  by_cases h : a[i] = b[i]
  ·rw [decide_eq_true h, if_neg (by simp)]
   congr 1
   apply decide_eq_decide.2
   rw [List.cons.injEq]
   exact ⟨fun x => ⟨h, x⟩, fun x => x.2⟩
  ·rw [decide_eq_false h, if_pos (by simp)]
   congr 1
   exact (decide_eq_false (fun x => h (List.cons.inj x).1)).symm
theorem same_pairs (a b : List S88) (hb : a.length ≤ 100000000) (k : Nat) (hk : a.length < k) : kauditref03_SamePairs.f k a b = some (decide (a = b)) := by
 unfold kauditref03_SamePairs.f
 by_cases h : a.length = b.length
 ·rw [if_pos (by omega)]
  have := same_loop a b h hb a.length 0 k (by omega) hk
  rw [List.drop_zero, List.drop_zero] at this
  exact this
 ·rw [if_neg (by omega)]
  congr 1
  exact (decide_eq_false (fun e => h (by rw [e]))).symm
theorem same_run (t tm sr t' tm' sr' : Int) (a b : List S88) (hb : a.length ≤ 100000000) (k : Nat) (hk : a.length < k) : kauditref03_Same.f k t tm sr a t' tm' sr' b = some (decide (t = t' ∧ tm = tm' ∧ sr = sr' ∧ a = b)) := by
 unfold kauditref03_Same.f
 rw [same_pairs a b hb k hk, Option.bind_some]
 by_cases h1 : t = t'
 ·rw [if_pos h1]
  by_cases h2 : tm = tm'
  ·rw [if_pos h2]
   by_cases h3 : sr = sr'
   ·rw [if_pos h3]
    congr 1
    exact decide_eq_decide.2 ⟨fun x => ⟨h1, h2, h3, x⟩, fun x => x.2.2.2⟩
   ·rw [if_neg h3]
    congr 1
    exact (decide_eq_false (fun e => h3 e.2.2.1)).symm
  ·rw [if_neg h2]
   congr 1
   exact (decide_eq_false (fun e => h2 e.2.1)).symm
 ·rw [if_neg h1]
  congr 1
  exact (decide_eq_false (fun e => h1 e.1)).symm
def allOK (l : List S88) : Prop := ∀ p ∈ l, PairOK p.f0 p.f1 p.f2 p.f3
theorem allOK.snoc {l : List S88} {p : S88} (h : allOK l) (hp : PairOK p.f0 p.f1 p.f2 p.f3) : allOK (l ++ [p]) := fun q hq => by
 rcases List.mem_append.1 hq with hq | hq
 ·exact h q hq
 ·obtain rfl := List.mem_singleton.1 hq
  exact hp
theorem allOK.short {l : List S88} (h : allOK l) : shortN l = true := by
 unfold shortN
 rw [List.all_eq_true]
 intro p hp
 have := (h p hp).name
 exact decide_eq_true (by omega)
theorem allOK.nums {l : List S88} (h : allOK l) : Zce l = true := by
 unfold Zce
 rw [List.all_eq_true]
 intro p hp
 have := (h p hp).num
 rw [decide_eq_true this.1, decide_eq_true this.2]
 rfl
theorem src_Record_l0 (l : List Int) : ∀ (d k : Nat) (at_ t tm sr : Int) (ps : List S88), d + 10 < k → 0 ≤ at_ → at_ ≤ 1152921504606846700 - 20 * d → ps.length + d ≤ 100 → allOK ps →
  ∃ t2 tm2 ps2 at2, kauditmake_Src_Record.l0 k (d : Int) l at_ t tm sr ps = some (t2, tm2, sr, ps2, at2) ∧ allOK ps2 ∧ ps2.length ≤ ps.length + d ∧ (tm2 = tm ∨ (-1 ≤ tm2 ∧ tm2 ≤ 1)) ∧ at_ ≤ at2 ∧ at2 ≤ at_ + 20 * d + 3 := by
 intro d
 induction d with
 | zero =>
  intro k at_ t tm sr ps hk h0 h1 hl hp
  obtain ⟨k, rfl⟩ : ∃ m, k = m + 1 := ⟨k - 1, by omega⟩
  obtain ⟨x, hx, _, _⟩ := src_N l at_ 20 ⟨h0, by omega⟩ (by omega) (by omega)
  rw [kauditmake_Src_Record.l0, if_neg (by omega), hx]
  simp only [Option.bind_some]
  by_cases h19 : x = 19
  ·rw [if_pos h19]
   obtain ⟨y, hy, _, _⟩ := src_Range l (at_ + 1) 1299 1303 ⟨by omega, by omega⟩ (by omega) (by omega) (by omega)
   obtain ⟨z, hz, z0, z1⟩ := src_Range l (at_ + 1 + 1) (-1) 1 ⟨by omega, by omega⟩ (by omega) (by omega) (by omega)
   rw [hy]
   simp only [Option.bind_some]
   rw [hz]
   simp only [Option.bind_some]
   exact ⟨_, _, _, _, rfl, hp, by omega, .inr ⟨z0, z1⟩, by omega, by omega⟩
  ·rw [if_neg h19]
   exact ⟨_, _, _, _, rfl, hp, by omega, .inl rfl, by omega, by omega⟩
 | succ d ih =>
  intro k at_ t tm sr ps hk h0 h1 hl hp
  obtain ⟨k, rfl⟩ : ∃ m, k = m + 1 := ⟨k - 1, by omega⟩
  obtain ⟨n, a1, a2, tx, at2, hq, hpk, q1, q2⟩ := src_Pair l at_ k h0 (by omega) (by omega)
  have hw : wrap64 (((d + 1 : Nat) : Int) - 1) = (d : Int) := by rw [wrap64_id (by omega) (by omega)]; omega
  rw [kauditmake_Src_Record.l0, if_pos (by omega), hq]
  simp only [Option.bind_some]
  rw [if_pos (by omega), hw]
  obtain ⟨t2, tm2, ps2, at3, he, g1, g2, g3, g4, g5⟩ := ih k at2 t tm sr (ps ++ [⟨n, a1, a2, tx⟩]) (by omega) (by omega) (by omega) (by rw [List.length_append, List.length_singleton]; omega) (hp.snoc hpk)
  rw [List.length_append, List.length_singleton] at g2
  exact ⟨t2, tm2, ps2, at3, he, g1, by omega, g3, by omega, by omega⟩
theorem src_Record (l : List Int) (at_ : Int) (k : Nat) (h0 : 0 ≤ at_) (h1 : at_ ≤ 1152921504606846000) (hk : 20 < k) :
  ∃ t tm sr ps at2, kauditmake_Src_Record.f k l at_ = some (t, tm, sr, ps, at2) ∧ allOK ps ∧ ps.length ≤ 3 ∧ -1 ≤ tm ∧ tm ≤ 1099511627776 ∧ 0 ≤ sr ∧ sr ≤ 1073741824 ∧ at_ ≤ at2 ∧ at2 ≤ at_ + 100 := by
 obtain ⟨t, ht, _⟩ := src_Pick l at_ [1005, 1200, 1300, 1302, 1305, 1306, 1307, 1309, 1320, 1331] ⟨h0, by omega⟩ (by simp) (by simp)
 obtain ⟨tm, htm, mtm⟩ := src_Pick l (at_ + 1) [0, 5, 999, 1000, 12345, 1099511627776] ⟨by omega, by omega⟩ (by simp) (by simp)
 obtain ⟨sr, hsr, msr⟩ := src_Pick l (at_ + 1 + 1) [0, 1, 7, 1073741824] ⟨by omega, by omega⟩ (by simp) (by simp)
 obtain ⟨n, hn, n0, n1⟩ := src_N l (at_ + 1 + 1 + 1) 4 ⟨by omega, by omega⟩ (by omega) (by omega)
 have btm : 0 ≤ tm ∧ tm ≤ 1099511627776 := by
  simp only [List.mem_cons, List.not_mem_nil, or_false] at mtm
  omega
 have bsr : 0 ≤ sr ∧ sr ≤ 1073741824 := by
  simp only [List.mem_cons, List.not_mem_nil, or_false] at msr
  omega
 obtain ⟨m, rfl⟩ := Int.eq_ofNat_of_zero_le n0
 obtain ⟨t2, tm2, ps2, at2, he, g1, g2, g3, g4, g5⟩ := src_Record_l0 l m k (at_ + 1 + 1 + 1 + 1) t tm sr [] (by omega) (by omega) (by omega) (by simp only [List.length_nil]; omega) (fun p hp => by cases hp)
 rw [List.length_nil] at g2
 unfold kauditmake_Src_Record.f
 rw [ht]
 simp only [Option.bind_some]
 rw [htm]
 simp only [Option.bind_some]
 rw [hsr]
 simp only [Option.bind_some]
 rw [hn]
 simp only [Option.bind_some]
 exact ⟨_, _, _, _, _, he, g1, by omega, by omega, by omega, bsr.1, bsr.2, by omega, by omega⟩
end Go.Proofs.YtodbabeldolcbaaGreatDoor.PA
