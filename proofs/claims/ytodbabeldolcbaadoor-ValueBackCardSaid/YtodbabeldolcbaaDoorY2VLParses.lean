/- The laws ValueParses and ValueBack in plain Lean. Conditions: the number of the pair is of type int. -/
import Derived.Test.YtodbabeldolcbaaDoorY2EVParse
import Derived.Test.YtodbabeldolcbaaDoorY2ERefP
import Derived.Test.YtodbabeldolcbaaDoorY2VMake
import Derived.Test.YtodbabeldolcbaaDoorY2PAx0
import Derived.Test.YtodbabeldolcbaaDoorY2PAx3
import Derived.Test.YtodbabeldolcbaaDoorY2PAx4
import Derived.Test.YtodbabeldolcbaaDoorY2PAx8
namespace Go.Proofs.YtodbabeldolcbaaDoor.PA
set_option linter.unusedSimpArgs false
set_option linter.unusedVariables false
open Go.RowKit Go.Proofs.YtodbabeldolcbaaDoorW.PrintWords Go.Proofs.YtodbabeldolcbaaDoorW.PrintLast Go.Proofs.YtodbabeldolcbaaDoorW.PrintMore Go.Proofs.YtodbabeldolcbaaDoor.M0
theorem vparse_tup (x : ByteArray) (hx : x.size ≤ 100000) : value_Parse.f x = some (tupV x) := by
  unfold value_Parse.f tupV
  rw [if_pos hx]
theorem tup_forms {p : S25} {s : ByteArray} (h : Forms p s) : tupV s = (p.f0, p.f1, p.f2, p.f3, 0) := by
  unfold tupV
  rw [parseV_yes h]
/-! ### ValueBack -/
theorem back_bytes (k : Nat) (l : List S25) (i : Int) (s : ByteArray) (hp : Pr (L s)) (hs : s.size ≤ 100000) : ∀ (d j K : Nat), j + d = s.size → d + k < K → ∃ K', k ≤ K' ∧ kauditlaw02_ValueBack.l1 K l i s (j : Int) = kauditlaw02_ValueBack.l0 K' l (wrap64 (i + 1)) := by
  intro d
  induction d with
  | zero =>
    intro j K hj hK
    obtain ⟨K, rfl⟩ : ∃ m, K = m + 1 := ⟨K - 1, by omega⟩
    exact ⟨K, by omega, by rw [kauditlaw02_ValueBack.l1, if_neg (by omega)]⟩
  | succ d ih =>
    intro j K hj hK
    obtain ⟨K, rfl⟩ : ∃ m, K = m + 1 := ⟨K - 1, by omega⟩
    have hlt : j < (L s).length := by rw [← size_L]; omega
    have hb := hp _ (List.getElem_mem hlt)
    have hbt := bt_L s j hlt
    have hw : wrap64 ((j : Int) + 1) = ((j + 1 : Nat) : Int) := by rw [wrap64_id (by omega) (by omega)]; omega
    obtain ⟨K', h1, h2⟩ := ih (j + 1) K (by omega) (by omega)
    refine ⟨K', h1, ?_⟩
    rw [kauditlaw02_ValueBack.l1, if_pos (by omega), if_pos (by omega), hbt, if_neg (by omega), if_neg (by omega), hw, h2]
theorem back_step (k : Nat) (l : List S25) (i : Nat) (hi : i < l.length) (hl : l.length ≤ 10) (hz : (rd_T25 l (i : Int)).f0.size ≤ 1000) (hn : numP (rd_T25 l (i : Int))) (K : Nat) (hK : k + 5000 < K) :
    ∃ K', k ≤ K' ∧ kauditlaw02_ValueBack.l0 K l (i : Int) = kauditlaw02_ValueBack.l0 K' l ((i + 1 : Nat) : Int) := by
  obtain ⟨K, rfl⟩ : ∃ m, K = m + 2 := ⟨K - 2, by omega⟩
  have hw : wrap64 ((i : Int) + 1) = ((i + 1 : Nat) : Int) := by rw [wrap64_id (by omega) (by omega)]; omega
  obtain ⟨p, hp⟩ : ∃ p, p = rd_T25 l (i : Int) := ⟨_, rfl⟩
  rw [kauditlaw02_ValueBack.l0, if_pos (by omega), if_pos (by omega), ← hp]
  rw [← hp] at hz hn
  rw [value_Format_run p.f0 p.f1 p.f2 p.f3 (by omega) hn.1 hn.2 _ (by omega), Option.bind_some, value_Check_run p.f0 p.f1 p.f2 p.f3 (by omega) _ (by omega)]
  by_cases he : (formatF p.f0 p.f1 p.f2 p.f3).2 = 0
  · rw [if_pos he]
    have hf : Forms p (formatF p.f0 p.f1 p.f2 p.f3).1 := Forms.of hn (Prod.ext rfl he)
    obtain ⟨s, hs⟩ : ∃ s, s = (formatF p.f0 p.f1 p.f2 p.f3).1 := ⟨_, rfl⟩
    rw [← hs] at hf ⊢
    have hsz : s.size ≤ 1400 := by rw [size_L, hf.2.2]; exact formL_len hf.2.1 hn.1 hn.2
    rw [vparse_tup s (by omega), tup_forms hf]
    simp only [Option.bind_some]
    rw [if_pos trivial, kauditlaw02_ValueBack.j2, if_neg (by simp)]
    obtain ⟨K', h1, h2⟩ := back_bytes k l (i : Int) s (by rw [hf.2.2]; exact formL_pr hf.2.1) (by omega) s.size 0 K (by omega) (by omega)
    exact ⟨K', h1, by rw [← hw]; exact h2⟩
  · rw [if_neg he, Option.bind_some]
    have hc : (formatF p.f0 p.f1 p.f2 p.f3).2 = checkI (L p.f0) p.f1 p.f2 (L p.f3) := by
      unfold formatF at he ⊢
      split
      · rename_i h; rw [if_pos h] at he; exact absurd rfl he
      · rfl
    rw [if_pos hc.symm, hw]
    exact ⟨K + 1, by omega, rfl⟩
/-- The law ValueBack, plain. -/
theorem pure_ValueBack (n : ByteArray) (a1 a2 : Int) (t : ByteArray) (l : List Int) (h0 : -9223372036854775808 ≤ a2) (h1 : a2 ≤ 9223372036854775807) (_ : l.length ≤ maxLen) (_ : l.length * 8 ≤ 140737488351232) (_ : ∀ x ∈ l, (Lit.int .i64 x).wf = true) :
    ∃ k, kauditlaw02_ValueBack.f k n a1 a2 t l = some true := by
  obtain ⟨M, hM⟩ : ∃ M : Nat, 19999 ≤ M := ⟨_, Nat.le_refl _⟩
  refine ⟨M + 1, ?_⟩
  have key : ∀ b : Bool, (b = false → n.size ≤ 100) → kauditlaw02_ValueBack.j0 (M + 1) l b n a1 a2 t = some true := by
    intro b hb
    rw [kauditlaw02_ValueBack.j0]
    cases b with
    | true => rw [if_pos rfl, awake02]; rfl
    | false =>
      rw [if_neg (by simp)]
      unfold kauditmake_New.f
      simp only [Option.bind_some]
      obtain ⟨n2, k2, m2, t2, at2, h2, p2, _, _⟩ := src_Pair l 0 M (by omega) (by omega) (by omega)
      rw [h2]
      simp only [Option.bind_some]
      have hz := hb rfl
      obtain ⟨K1, g1, e1⟩ := back_step 10000 [⟨n, a1, a2, t⟩, ⟨n2, k2, m2, t2⟩] 0 (by simp) (by simp) (show n.size ≤ 1000 by omega) ⟨h0, h1⟩ M (by omega)
      obtain ⟨K2, g2, e2⟩ := back_step 1 [⟨n, a1, a2, t⟩, ⟨n2, k2, m2, t2⟩] 1 (by simp) (by simp) (show n2.size ≤ 1000 by have := p2.name; omega) p2.num K1 (by omega)
      obtain ⟨K2, rfl⟩ : ∃ m, K2 = m + 1 := ⟨K2 - 1, by omega⟩
      refine Eq.trans e1 (Eq.trans e2 ?_)
      rw [kauditlaw02_ValueBack.l0, if_neg (by simp), awake02]
      rfl
  unfold kauditlaw02_ValueBack.f
  by_cases h : (t.size : Int) > 640
  · rw [if_pos h]
    exact key true (fun e => by cases e)
  · rw [if_neg h]
    refine key _ (fun e => ?_)
    have := of_decide_eq_false e
    omega
end Go.Proofs.YtodbabeldolcbaaDoor.PA
