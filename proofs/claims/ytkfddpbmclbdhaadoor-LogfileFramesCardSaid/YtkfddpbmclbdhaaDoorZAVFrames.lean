/- LogfileFrames in plain Lean: what its printed form computes is true. Conditions: each lemma names its own. -/
import Derived.Test.YtkfddpbmclbdhaaDoorZAVDig
import Derived.Test.YtkfddpbmclbdhaaDoorZAPAxkauditlaw25LogfileFrames
namespace Go.Proofs.YtkfddpbmclbdhaaDoor.PA
set_option linter.unusedSimpArgs false
set_option linter.unusedVariables false
open Go.RowKit Go.Proofs.YtkfddpbmclbdhaaDoorW.PrintWords Go.Proofs.YtkfddpbmclbdhaaDoorW.PrintLast Go.Proofs.YtkfddpbmclbdhaaDoorW.PrintMore Go.Proofs.YtkfddpbmclbdhaaDoor.M0
set_option maxRecDepth 100000 in
theorem begun_100 : kauditlaw25_begun.f 100 = some true := by kernel_rfl
theorem begun_run (k : Nat) (hk : 100 ≤ k) : kauditlaw25_begun.f k = some true := at_rounds (g := fun k => kauditlaw25_begun.f k) (fun k => kauditlaw25_begun.mono k) hk begun_100
theorem same_self (l : List Int) : kauditref24_SameBytes.f l l = some true := by
 unfold kauditref24_SameBytes.f
 rw [beq_self_eq_true]
theorem frame_some (k0 k1 b : Int) (l : List Int) (k : Nat) (hk : 200001 < k) : ∃ r, logfile_Frame.f k k0 k1 b l = some r := by
 obtain ⟨k, rfl⟩ : ∃ m, k = m + 1 := ⟨k - 1, by omega⟩
 have hj : ∀ c : Bool, (c = false → l.length ≤ 100000) → ∃ r, logfile_Frame.j0 (k + 1) b l (l.length : Int) c k0 k1 = some r := by
  intro c hc
  rw [logfile_Frame.j0]
  cases c with
  | true => exact ⟨_, if_pos rfl⟩
  | false =>
   have h5 := hc rfl
   rw [if_neg (by decide), (chain_run k0 k1 b l (hc rfl) k (by omega)).1]
   simp only [Option.bind_some]
   rw [if_pos (by simp only [List.length_cons, List.length_nil]; omega), put_run _ k (by omega), Option.bind_some, if_pos (by rw [List.length_append, show ∀ d, (putL d).length = 8 from fun _ => rfl]; simp only [List.length_cons, List.length_nil]; omega)]
   exact ⟨_, rfl⟩
 unfold logfile_Frame.f
 by_cases h1 : (l.length : Int) < 1
 ·rw [if_pos h1]
  exact hj true (fun h => by cases h)
 ·rw [if_neg h1]
  exact hj _ (fun h => by have := of_decide_eq_false h; omega)
theorem num_some (k : Nat) (hk : 2 < k) (l : List Int) (hl : l.length < 100) (n : Int) (h0 : 0 ≤ n) (h1 : n ≤ 1000) : ∃ r : List Int, fresh_AppendNumber.f k l n = some r ∧ r.length ≤ 102 := by
 obtain ⟨k, rfl⟩ : ∃ m, k = m + 1 + 1 := ⟨k - 2, by omega⟩
 unfold fresh_AppendNumber.f
 rw [fresh_AppendNumber.l0]
 by_cases h : n ≥ 128
 ·rw [if_pos h, if_pos (by omega), fresh_AppendNumber.l0, if_neg (by omega), if_pos (by rw [List.length_append]; simp only [List.length_cons, List.length_nil]; omega)]
  exact ⟨_, rfl, by simp only [List.length_append, List.length_cons, List.length_nil]; omega⟩
 ·rw [if_neg h, if_pos (by omega)]
  exact ⟨_, rfl, by simp only [List.length_append, List.length_cons, List.length_nil]; omega⟩
theorem head_some (k0 k1 n b : Int) (k : Nat) (hk : 200003 < k) : ∃ r, logfile_Head.f k k0 k1 n b = some r := by
 obtain ⟨k, rfl⟩ : ∃ m, k = m + 1 := ⟨k - 1, by omega⟩
 have hj : ∀ c : Bool, (c = false → 0 ≤ n ∧ n ≤ 1000) → ∃ r, logfile_Head.j0 (k + 1) n b c k0 k1 = some r := by
  intro c hc
  rw [logfile_Head.j0]
  cases c with
  | true => exact ⟨_, if_pos rfl⟩
  | false =>
   have hn := hc rfl
   obtain ⟨r, hr, hr2⟩ := num_some k (by omega) [107, 97, 117, 100, 105, 116] (by decide) n hn.1 hn.2
   rw [if_neg (by decide), hr, Option.bind_some, put_run b k (by omega), Option.bind_some, if_pos (by rw [show (putL b).length = 8 from rfl]; omega)]
   obtain ⟨f, hf⟩ := frame_some k0 k1 b (r ++ putL b) k (by omega)
   rw [hf]
   exact ⟨_, rfl⟩
 unfold logfile_Head.f
 by_cases h1 : n < 1
 ·rw [if_pos h1]
  exact hj true (fun h => by cases h)
 ·rw [if_neg h1]
  exact hj _ (fun h => by have := of_decide_eq_false h; omega)
theorem frames_l1 (k0 k1 b : Int) (ns : List Int) (hn : ns.length ≤ 100) : ∀ (d i k : Nat), i + d = ns.length → 200100 + d < k → kauditlaw25_LogfileFrames.l1 k b ns (ns.length : Int) (i : Int) k0 k1 = some true := by
 intro d
 induction d with
 | zero =>
  intro i k hi hk
  obtain ⟨k, rfl⟩ : ∃ m, k = m + 1 := ⟨k - 1, by omega⟩
  rw [kauditlaw25_LogfileFrames.l1, if_neg (by omega), begun_run k (by omega)]
  rfl
 | succ d ih =>
  intro i k hi hk
  obtain ⟨k, rfl⟩ : ∃ m, k = m + 1 := ⟨k - 1, by omega⟩
  have hw : wrap64 ((i : Int) + 1) = ((i + 1 : Nat) : Int) := by rw [Zbg (by omega) (by omega)]; omega
  obtain ⟨r, hr⟩ := head_some k0 k1 (rd ns (i : Int)) b k (by omega)
  rw [kauditlaw25_LogfileFrames.l1, if_pos (by omega), if_pos (by omega), if_pos (by omega), ← head_same _ _ _ _ k (by omega), hr]
  simp only [Option.bind_some, if_true, same_self, hw]
  exact ih (i + 1) k (by omega) (by omega)
theorem frames_l0 (k0 k1 b m lg : Int) (ps : List (List Int)) (hn : ps.length ≤ 100) : ∀ (d i k : Nat), i + d = ps.length → 200200 + d < k → kauditlaw25_LogfileFrames.l0 k b m lg ps (ps.length : Int) (i : Int) k0 k1 = some true := by
 intro d
 induction d with
 | zero =>
  intro i k hi hk
  obtain ⟨k, rfl⟩ : ∃ m, k = m + 1 := ⟨k - 1, by omega⟩
  rw [kauditlaw25_LogfileFrames.l0, if_neg (by omega), Option.bind_some]
  exact frames_l1 k0 k1 b _ (by simp) 4 0 k (by simp) (by omega)
 | succ d ih =>
  intro i k hi hk
  obtain ⟨k, rfl⟩ : ∃ m, k = m + 1 := ⟨k - 1, by omega⟩
  have hw : wrap64 ((i : Int) + 1) = ((i + 1 : Nat) : Int) := by rw [Zbg (by omega) (by omega)]; omega
  obtain ⟨r, hr⟩ := frame_some k0 k1 b (rd_L11 ps (i : Int)) k (by omega)
  rw [kauditlaw25_LogfileFrames.l0, if_pos (by omega), if_pos (by omega), if_pos (by omega), ← frame_same _ _ _ _ k (by omega), hr]
  simp only [Option.bind_some, if_true, same_self, hw]
  exact ih (i + 1) k (by omega) (by omega)
theorem pure_LogfileFrames (k0 k1 b : Int) (p : List Int) (m lg : Int) (hb : (Lit.int .u64 b).wf = true) (hm : p.length ≤ maxLen) (hs : p.length * 1 ≤ 140737488351232) (hw : ∀ z ∈ p, (Lit.int .u8 z).wf = true) (hm' : (Lit.int .i64 m).wf = true) (hl : (Lit.int .u16 lg).wf = true) : ∃ k, kauditlaw25_LogfileFrames.f k k0 k1 b p m lg = some true := by
 have hl2 : 0 ≤ lg ∧ lg < 65536 := by
  simp [Lit.wf, IntKind.min, IntKind.max, IntKind.signed, IntKind.bits] at hl
  omega
 obtain ⟨h0, h1⟩ := hl2
 have ht : Int.tmod (wrap64 lg) 5 = lg % 5 := by rw [Zbg (by omega) (by omega), Int.tmod_eq_emod_of_nonneg h0]
 have hw : wrap64 (16382 + lg % 5) = 16382 + lg % 5 := Zbg (by omega) (by omega)
 refine ⟨300000, ?_⟩
 unfold kauditlaw25_LogfileFrames.f
 rw [ht, hw, if_pos (by omega), if_pos (by omega), Option.bind_some]
 exact frames_l0 k0 k1 b m lg _ (by simp) 3 0 300000 (by simp) (by omega)
end Go.Proofs.YtkfddpbmclbdhaaDoor.PA
