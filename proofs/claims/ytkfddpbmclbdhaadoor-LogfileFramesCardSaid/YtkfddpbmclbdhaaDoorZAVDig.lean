/- The digests of the program and of the reference agree; so do the bytes of numbers and digests, frames and heads. Plain lemmas; conditions: each lemma names its own. -/
import Derived.Test.YtkfddpbmclbdhaaDoorZAM0
import Derived.Test.YtkfddpbmclbdhaaDoorZAPAxkauditref25Head
namespace Go.Proofs.YtkfddpbmclbdhaaDoor.PA
set_option linter.unusedSimpArgs false
set_option linter.unusedVariables false
open Go.RowKit Go.Proofs.YtkfddpbmclbdhaaDoorW.PrintWords Go.Proofs.YtkfddpbmclbdhaaDoorW.PrintLast Go.Proofs.YtkfddpbmclbdhaaDoorW.PrintMore Go.Proofs.YtkfddpbmclbdhaaDoor.M0
theorem or_comm (k : IntKind) (x y : Int) : Go.bits .or k x y = Go.bits .or k y x := by
 unfold Go.bits
 simp only [BitVec.or_comm]
theorem turn_at (x : Int) : kauditref23_turn.f x 13 = some (rot x 13) ∧ kauditref23_turn.f x 16 = some (rot x 16) ∧ kauditref23_turn.f x 17 = some (rot x 17) ∧ kauditref23_turn.f x 21 = some (rot x 21) ∧ kauditref23_turn.f x 32 = some (rot x 32) := by
 have h : ∀ n : Int, 0 ≤ n → n ≤ 64 → kauditref23_turn.f x n = some (rot x n) := by
  intro n h0 h1
  unfold kauditref23_turn.f rot
  rw [if_pos h0, Zbg (by omega) (by omega), if_pos (by omega)]
 exact ⟨h 13 (by decide) (by decide), h 16 (by decide) (by decide), h 17 (by decide) (by decide), h 21 (by decide) (by decide), h 32 (by decide) (by decide)⟩
theorem words_run : ∀ (n k : Nat) (a b c d : Int), n < k → n ≤ 8 → kauditref23_words_rounds.l0 k (n : Int) a b c d = some (rnds n (a, b, c, d)) := by
 intro n
 induction n with
 | zero =>
  intro k a b c d hk _
  obtain ⟨k, rfl⟩ : ∃ m, k = m + 1 := ⟨k - 1, by omega⟩
  rw [kauditref23_words_rounds.l0, if_neg (by omega)]
  rfl
 | succ n ih =>
  intro k a b c d hk h8
  obtain ⟨k, rfl⟩ : ∃ m, k = m + 1 := ⟨k - 1, by omega⟩
  have hw : wrap64 (((n + 1 : Nat) : Int) - 1) = (n : Int) := by rw [Zbg (by omega) (by omega)]; omega
  rw [kauditref23_words_rounds.l0, if_pos (by omega), hw, (turn_at b).1, Option.bind_some, (turn_at (IntKind.u64.wrap (a + b))).2.2.2.2, Option.bind_some, (turn_at d).2.1, Option.bind_some, (turn_at _).2.2.2.1, Option.bind_some, (turn_at _).2.2.1, Option.bind_some, (turn_at _).2.2.2.2, Option.bind_some, ih k _ _ _ _ (by omega) (by omega)]
  rfl
theorem words_two (k : Nat) (hk : 8 < k) (a b c d : Int) : kauditref23_words_rounds.f k a b c d 2 = some (rnds 2 (a, b, c, d)) := words_run 2 k a b c d (by omega) (by omega)
theorem words_four (k : Nat) (hk : 8 < k) (a b c d : Int) : kauditref23_words_rounds.f k a b c d 4 = some (rnds 4 (a, b, c, d)) := words_run 4 k a b c d (by omega) (by omega)
theorem take_run (k : Nat) (hk : 8 < k) (s : Int × Int × Int × Int) (x : Int) : kauditref23_words_take.f k s.1 s.2.1 s.2.2.1 s.2.2.2 x = some (tk s x) := by
 unfold kauditref23_words_take.f
 rw [words_two k hk, Option.bind_some]
 rfl
theorem wdA_snoc (c : Int) : ∀ (l : List Int) (i : Nat) (x : Int), wdA i x (l ++ [c]) = Go.bits .or .u64 (wdA i x l) (shl .u64 (IntKind.u64.wrap c) (8 * ((i + l.length : Nat) : Int)))
 | [], i, x => rfl
 | a :: l, i, x => by
  rw [List.cons_append, wdA, wdA_snoc c l (i + 1), wdA, List.length_cons, show i + 1 + l.length = i + (l.length + 1) by omega]
theorem take_snoc' (l : List Int) (p j : Nat) (h : p + j < l.length) : (l.drop p).take (j + 1) = (l.drop p).take j ++ [l[p + j]] := by
 rw [List.take_succ_eq_append_getElem (by rw [List.length_drop]; omega), List.getElem_drop]
theorem sum_loop (l : List Int) (hl : l.length ≤ 1000000000) : ∀ (d i N k : Nat) (s : Int × Int × Int × Int), i + d = l.length → d + 20 < k → d ≤ N →
  kauditref23_Sum.l0 k l (wd ((l.drop (8 * (i / 8))).take (i % 8))) l (l.length : Int) (i : Int) s.1 s.2.1 s.2.2.1 s.2.2.2 = some (sipEnd (l.length : Int) (absorb N s (l.drop (8 * (i / 8))))) := by
 intro d
 induction d with
 | zero =>
  intro i N k s hi hk hN
  obtain ⟨k, rfl⟩ : ∃ m, k = m + 1 := ⟨k - 1, by omega⟩
  obtain ⟨r, hr⟩ : ∃ r, r = l.drop (8 * (i / 8)) := ⟨_, rfl⟩
  have hrl : r.length = i % 8 := by rw [hr, List.length_drop]; omega
  rw [← hr, absorb_end N s r (by omega), List.take_of_length_le (by omega)]
  have hw : IntKind.u64.wrap ((l.length : Int) * 72057594037927936) = ((l.length : Int) % 256) * 72057594037927936 := by
   show ((l.length : Int) * 72057594037927936) % (2 ^ 64 : Int) = _
   omega
  rw [kauditref23_Sum.l0, if_neg (by omega), take_run k (by omega), Option.bind_some, words_four k (by omega), Option.bind_some]
  unfold sipEnd
  simp only [hw, or_comm .u64 (((l.length : Int) % 256) * 72057594037927936) (wd r)]
 | succ d ih =>
  intro i N k s hi hk hN
  obtain ⟨k, rfl⟩ : ∃ m, k = m + 1 := ⟨k - 1, by omega⟩
  have hti : Int.tmod (i : Int) 8 = ((i % 8 : Nat) : Int) := by rw [Int.tmod_eq_emod_of_nonneg (by omega)]; omega
  have hw1 : wrap64 (8 * ((i % 8 : Nat) : Int)) = 8 * ((i % 8 : Nat) : Int) := Zbg (by omega) (by omega)
  have hw : wrap64 ((i : Int) + 1) = ((i + 1 : Nat) : Int) := by rw [Zbg (by omega) (by omega)]; omega
  have hlt : i < l.length := by omega
  have hrd : rd l (i : Int) = l[i] := by
   unfold rd
   rw [Int.toNat_natCast, List.getD_eq_getElem?_getD, List.getElem?_eq_getElem hlt]
   rfl
  have hx : Go.bits .or .u64 (wd ((l.drop (8 * (i / 8))).take (i % 8))) (shl .u64 (IntKind.u64.wrap (rd l (i : Int))) (8 * ((i % 8 : Nat) : Int))) = wd ((l.drop (8 * (i / 8))).take (i % 8 + 1)) := by
   rw [take_snoc' l (8 * (i / 8)) (i % 8) (by omega)]
   unfold wd
   rw [wdA_snoc, hrd]
   have e1 : ((l.drop (8 * (i / 8))).take (i % 8)).length = i % 8 := by rw [List.length_take, List.length_drop]; omega
   have e2 : l[8 * (i / 8) + i % 8]'(by omega) = l[i] := by congr 1; omega
   rw [e1, e2, Nat.zero_add]
  rw [kauditref23_Sum.l0, if_pos (by omega), if_pos (by omega), if_pos (by omega), hti, hw1, if_pos (by omega), hx, hw]
  by_cases h7 : i % 8 = 7
  ·rw [if_pos (by omega), take_run k (by omega), Option.bind_some]
   obtain ⟨N, rfl⟩ : ∃ m, N = m + 1 := ⟨N - 1, by omega⟩
   have h8 : 8 ≤ (l.drop (8 * (i / 8))).length := by rw [List.length_drop]; omega
   have hg := ih (i + 1) N k (tk s (wd ((l.drop (8 * (i / 8))).take (i % 8 + 1)))) (by omega) (by omega) (by omega)
   rw [show (i + 1) % 8 = 0 by omega, List.take_zero] at hg
   have e3 : 8 * ((i + 1) / 8) = 8 * (i / 8) + 8 := by omega
   rw [e3, ← List.drop_drop] at hg
   rw [absorb, if_pos h8]
   rw [show i % 8 + 1 = 8 by omega] at hg ⊢
   exact hg
  ·rw [if_neg (by omega)]
   have hg := ih (i + 1) N k s (by omega) (by omega) (by omega)
   rw [show (i + 1) % 8 = i % 8 + 1 by omega, show (i + 1) / 8 = i / 8 by omega] at hg
   exact hg
theorem sum_run (k0 k1 : Int) (l : List Int) (hl : l.length ≤ 1000000000) (k : Nat) (hk : l.length + 20 < k) : kauditref23_Sum.f k k0 k1 l = some (sip k0 k1 l) := by
 unfold kauditref23_Sum.f
 exact sum_loop l hl l.length 0 l.length k (sip0 k0 k1) (by omega) (by omega) (by omega)
theorem digest_run (k0 k1 : Int) (l : List Int) (hl : l.length ≤ 1000000000) : digest_Sum.f k0 k1 l = some (sip k0 k1 l) := by
 unfold digest_Sum.f
 rw [if_pos hl]
def putL (d : Int) : List Int := [shr .u64 d 56 % 256, shr .u64 d 48 % 256, shr .u64 d 40 % 256, shr .u64 d 32 % 256, shr .u64 d 24 % 256, shr .u64 d 16 % 256, shr .u64 d 8 % 256, shr .u64 d 0 % 256]
theorem put_run (d : Int) (k : Nat) (hk : 12 ≤ k) : digest_Put.f k d = some (putL d) := at_rounds (g := fun k => digest_Put.f k d) (fun k => digest_Put.mono d k) hk (by kernel_rfl)
theorem put23_run (d : Int) (k : Nat) (hk : 12 ≤ k) : kauditref23_Put.f k d = some (putL d) := at_rounds (g := fun k => kauditref23_Put.f k d) (fun k => kauditref23_Put.mono d k) hk (by kernel_rfl)
theorem chain_run (k0 k1 b : Int) (l : List Int) (hl : l.length ≤ 100000) (k : Nat) (hk : 200000 < k) : digest_Chain.f k k0 k1 b l = some (sip k0 k1 (putL b ++ l)) ∧ kauditref23_Chain.f k k0 k1 b l = some (sip k0 k1 (putL b ++ l)) := by
 have h8 : (putL b).length = 8 := rfl
 have hs : (putL b ++ l).length ≤ 1000000 := by rw [List.length_append, h8]; omega
 constructor
 ·unfold digest_Chain.f
  rw [put_run b k (by omega), Option.bind_some, if_pos (by rw [h8]; omega), digest_run k0 k1 _ (by omega), Option.bind_some]
 ·unfold kauditref23_Chain.f
  rw [put23_run b k (by omega), Option.bind_some, if_pos (by rw [h8]; omega), sum_run k0 k1 _ (by omega) k (by rw [List.length_append, h8]; omega), Option.bind_some]
theorem or128 : ∀ m : Fin 256, Go.bits .or .u8 ((m.val : Nat) : Int) 128 = ((m.val % 128 + 128 : Nat) : Int) := by decide +kernel
theorem num_step (n : Int) (h0 : 0 ≤ n) (h1 : n ≤ 9223372036854775807) : Go.bits .or .u8 (n % 256) 128 = ((Int.tmod n 128) + 128) % 256 ∧ n / 128 = wrap64 (Int.tdiv n 128) := by
 obtain ⟨m, rfl⟩ := Int.eq_ofNat_of_zero_le h0
 constructor
 ·have h : Go.bits .or .u8 ((m % 256 : Nat) : Int) 128 = ((m % 256 % 128 + 128 : Nat) : Int) := or128 ⟨m % 256, by omega⟩
  rw [show ((m : Int) % 256) = ((m % 256 : Nat) : Int) by omega, h, Int.tmod_eq_emod_of_nonneg (by omega)]
  omega
 ·rw [Int.tdiv_eq_ediv_of_nonneg (by omega), Zbg (by omega) (by omega)]
theorem num_same : ∀ (k : Nat) (l : List Int) (n : Int), 0 ≤ n → n ≤ 9223372036854775807 → fresh_AppendNumber.f k l n = kauditref25_Put.f k l n := by
 intro k
 unfold fresh_AppendNumber.f kauditref25_Put.f
 induction k with
 | zero => intro l n _ _; rfl
 | succ k ih =>
  intro l n h0 h1
  obtain ⟨e1, e2⟩ := num_step n h0 h1
  rw [fresh_AppendNumber.l0, kauditref25_Put.l0, e1, e2, ih _ _ (by rw [← e2]; omega) (by rw [← e2]; omega)]
theorem frame_same (k0 k1 b : Int) (l : List Int) (k : Nat) (hk : 200001 < k) : logfile_Frame.f k k0 k1 b l = kauditref25_Frame.f k k0 k1 b l := by
 obtain ⟨k, rfl⟩ : ∃ m, k = m + 1 := ⟨k - 1, by omega⟩
 have hj : ∀ c : Bool, (c = false → l.length ≤ 100000) → logfile_Frame.j0 (k + 1) b l (l.length : Int) c k0 k1 = kauditref25_Frame.j0 (k + 1) b l (l.length : Int) c k0 k1 := by
  intro c hc
  rw [logfile_Frame.j0, kauditref25_Frame.j0]
  cases c with
  | true => rw [if_pos rfl, if_pos rfl]
  | false =>
   rw [if_neg (by decide), if_neg (by decide), (chain_run k0 k1 b l (hc rfl) k (by omega)).1, (chain_run k0 k1 b l (hc rfl) k (by omega)).2]
   simp only [Option.bind_some]
   rw [put_run _ k (by omega), put23_run _ k (by omega)]
 unfold logfile_Frame.f kauditref25_Frame.f
 by_cases h1 : (l.length : Int) < 1
 ·rw [if_pos h1, if_pos h1, hj true (fun h => by cases h)]
 ·rw [if_neg h1, if_neg h1, hj _ (fun h => by have := of_decide_eq_false h; omega)]
theorem head_same (k0 k1 n b : Int) (k : Nat) (hk : 200003 < k) : logfile_Head.f k k0 k1 n b = kauditref25_Head.f k k0 k1 n b := by
 obtain ⟨k, rfl⟩ : ∃ m, k = m + 1 := ⟨k - 1, by omega⟩
 have hj : ∀ c : Bool, (c = false → 0 ≤ n ∧ n ≤ 1000) → logfile_Head.j0 (k + 1) n b c k0 k1 = kauditref25_Head.j0 (k + 1) n b c k0 k1 := by
  intro c hc
  rw [logfile_Head.j0, kauditref25_Head.j0]
  cases c with
  | true => rw [if_pos rfl, if_pos rfl]
  | false =>
   have hn := hc rfl
   rw [if_neg (by decide), if_neg (by decide), num_same k _ n hn.1 (by omega), put_run b k (by omega), put23_run b k (by omega)]
   simp only [frame_same _ _ _ _ k (by omega)]
 unfold logfile_Head.f kauditref25_Head.f
 by_cases h1 : n < 1
 ·rw [if_pos h1, if_pos h1, hj true (fun h => by cases h)]
 ·rw [if_neg h1, if_neg h1, hj _ (fun h => by have := of_decide_eq_false h; omega)]
end Go.Proofs.YtkfddpbmclbdhaaDoor.PA
