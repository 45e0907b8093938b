/- Check and Format of pairs: the program and the reference compute the same; the law ValuePairs in plain Lean. Conditions: sizes below 100000 where a lemma says so. -/
import Derived.Test.YtkfddpbmclbdhaaDoorZAVUnq
import Derived.Test.YtkfddpbmclbdhaaDoorZAPAxkauditlaw02ValuePairs
namespace Go.Proofs.YtkfddpbmclbdhaaDoor.PA
set_option linter.unusedSimpArgs false
set_option linter.unusedVariables false
open Go.RowKit Go.Proofs.YtkfddpbmclbdhaaDoorW.PrintWords Go.Proofs.YtkfddpbmclbdhaaDoorW.PrintLast Go.Proofs.YtkfddpbmclbdhaaDoorW.PrintMore Go.Proofs.YtkfddpbmclbdhaaDoor.M0
def chOK (first : Bool) (b : Nat) : Bool := (decide (97 ≤ b) && decide (b ≤ 122)) || (!first && (b == 95 || (decide (48 ≤ b) && decide (b ≤ 57))))
def okL : Bool → List UInt8 → Bool
 | _, [] => true
 | f, b :: r => chOK f b.toNat && okL false r
def nameL (l : List UInt8) : Bool := okL true l && (!l.isEmpty && decide (l.length ≤ 16))
theorem name_step (b : Nat) (i : Int) (hi : 0 ≤ i) (X : Option Bool) : (if (b : Int) ≥ 97 then (if (b : Int) ≤ 122 then X else (if i = 0 then (some false) else (if (b : Int) = 95 then X else (if (b : Int) < 48 then (some false) else (if (b : Int) > 57 then (some false) else X))))) else (if i = 0 then (some false) else (if (b : Int) = 95 then X else (if (b : Int) < 48 then (some false) else (if (b : Int) > 57 then (some false) else X))))) = if chOK (decide (i = 0)) b then X else some false := by
 unfold chOK
 by_cases h1 : 97 ≤ b
 ·rw [if_pos (by omega)]
  by_cases h2 : b ≤ 122
  ·rw [if_pos (by omega)]; simp [h1, h2]
  ·rw [if_neg (by omega)]
   by_cases h3 : i = 0
   ·rw [if_pos h3]; simp [h2, h3]
   ·rw [if_neg h3, if_neg (by omega), if_neg (by omega), if_pos (by omega)]
    simp [h2, h3, show ¬ b = 95 by omega, show ¬ b ≤ 57 by omega]
 ·rw [if_neg (by omega)]
  by_cases h3 : i = 0
  ·rw [if_pos h3]; simp [h1, h3]
  ·rw [if_neg h3]
   by_cases h4 : b = 95
   ·rw [if_pos (by omega)]; simp [h3, h4]
   ·rw [if_neg (by omega)]
    by_cases h5 : b < 48
    ·rw [if_pos (by omega)]; simp [h1, h3, h4, show ¬ 48 ≤ b by omega]
    ·rw [if_neg (by omega)]
     by_cases h6 : 57 < b
     ·rw [if_pos (by omega)]; simp [h1, h3, h4, show ¬ b ≤ 57 by omega]
     ·rw [if_neg (by omega)]; simp [h3, show 48 ≤ b by omega, show b ≤ 57 by omega]
theorem value_name_run (s : ByteArray) (hs : s.size ≤ 100000) (k : Nat) (hk : s.size < k) : value_name.f k s = some (nameL (L s)) := by
 have fin : value_name.l0 1 s (s.size : Int) (s.size : Int) = some (!(L s).isEmpty && decide ((L s).length ≤ 16)) := by
  rw [value_name.l0, if_neg (by omega)]
  rw [size_L]
  rcases hl : L s with _ | ⟨b, l⟩
  ·rw [if_pos (by rw [toList_L, hl])]; rfl
  ·rw [if_neg (by rw [toList_L, hl]; simp)]
   simp only [List.length_cons, List.isEmpty_cons, Bool.not_false, Bool.true_and]
   congr 1
   apply decide_eq_decide.2
   omega
 have key : ∀ d k (i : Nat), i ≤ s.size → s.size - i = d → d < k → value_name.l0 k s (s.size : Int) (i : Int) = some (okL (decide (i = 0)) ((L s).drop i) && (!(L s).isEmpty && decide ((L s).length ≤ 16))) := by
  intro d
  induction d with
  | zero =>
   intro k i hi hd hk
   obtain ⟨k, rfl⟩ : ∃ m, k = m + 1 := ⟨k - 1, by omega⟩
   obtain rfl : i = s.size := by omega
   rw [value_name.l0] at fin ⊢
   rw [if_neg (by omega)] at fin ⊢
   rw [fin, List.drop_of_length_le (by rw [size_L]; exact Nat.le_refl _)]
   rfl
  | succ d ih =>
   intro k i hi hd hk
   obtain ⟨k, rfl⟩ : ∃ m, k = m + 1 := ⟨k - 1, by omega⟩
   obtain ⟨b, r, hb⟩ := drop_some s i (by omega)
   obtain ⟨_, hb1, hr⟩ := bt_drop s i b r hb
   have hih := ih k (i + 1) (by omega) (by omega) (by omega)
   have hw : wrap64 ((i : Int) + 1) = ((i + 1 : Nat) : Int) := by rw [Zbg (by omega) (by omega)]; omega
   rw [value_name.l0, if_pos (by omega), if_pos (by omega), if_pos (by omega), hb1, hw, hih, name_step _ _ (by omega), hb, okL, hr]
   have e : decide ((i : Int) = 0) = decide (i = 0) := decide_eq_decide.2 (by omega)
   rw [e, show decide (i + 1 = 0) = false from decide_eq_false (by omega)]
   cases chOK (decide (i = 0)) b.toNat <;> simp
 have := key s.size k 0 (by omega) (by omega) hk
 simpa [value_name.f, nameL] using this
def checkI (name : List UInt8) (kind num : Int) (text : List UInt8) : Int :=
 if nameL name then (if kind < 1 ∨ kind > 3 ∨ (kind ≠ 1 ∧ num ≠ 0) ∨ (kind ≠ 2 ∧ text ≠ []) then 23 else if text.length > 640 then 20 else 0) else 22
theorem value_Check_j0 (k : Nat) (b : Bool) (x1 : ByteArray) (x2 x3 : Int) (x4 : ByteArray) : value_Check.j0 (k + 1) b x1 x2 x3 x4 = some (if b then 23 else if (L x4).length > 640 then 20 else 0) := by
 rw [value_Check.j0, size_L]
 cases b
 ·simp only [Bool.false_eq_true, if_false]
  by_cases h : (L x4).length > 640
  ·rw [if_pos (by omega), if_pos h]
  ·rw [if_neg (by omega), if_neg h]
 ·simp
theorem check_tree (nm : Bool) (a1 a2 : Int) (t : List UInt8) : (if nm = true then (if a1 < 1 then some (if true = true then (23 : Int) else if t.length > 640 then 20 else 0) else (if a1 > 3 then some (if true = true then 23 else if t.length > 640 then 20 else 0) else (if a1 = 1 then (if a1 = 2 then some (if false = true then 23 else if t.length > 640 then 20 else 0) else some (if (t != ([] : List UInt8)) = true then 23 else if t.length > 640 then 20 else 0)) else (if a2 = 0 then (if a1 = 2 then some (if false = true then 23 else if t.length > 640 then 20 else 0) else some (if (t != ([] : List UInt8)) = true then 23 else if t.length > 640 then 20 else 0)) else some (if true = true then 23 else if t.length > 640 then 20 else 0))))) else some 22) =
  some (if nm then (if a1 < 1 ∨ a1 > 3 ∨ (a1 ≠ 1 ∧ a2 ≠ 0) ∨ (a1 ≠ 2 ∧ t ≠ []) then 23 else if t.length > 640 then 20 else 0) else 22) := by
 cases nm
 ·simp
 ·simp only [if_true, if_false, Bool.false_eq_true]
  by_cases h1 : a1 < 1
  ·simp [h1]
  ·by_cases h3 : a1 > 3
   ·simp [h1, h3]
   ·by_cases e1 : a1 = 1
    ·subst e1
     by_cases ht : t = [] <;> simp [ht]
    ·by_cases e2 : a1 = 2
     ·subst e2
      by_cases h2 : a2 = 0 <;> simp [h2]
     ·by_cases h2 : a2 = 0
      ·by_cases ht : t = [] <;> simp [h1, h3, e1, e2, h2, ht]
      ·simp [h1, h3, e1, e2, h2]
theorem value_Check_run (n : ByteArray) (a1 a2 : Int) (t : ByteArray) (hn : n.size ≤ 100000) (k : Nat) (hk : n.size + 1 < k) : value_Check.f k n a1 a2 t = some (checkI (L n) a1 a2 (L t)) := by
 obtain ⟨k, rfl⟩ : ∃ m, k = m + 1 := ⟨k - 1, by omega⟩
 unfold value_Check.f
 rw [value_name_run n hn (k + 1) (by omega)]
 simp only [Option.bind_some, value_Check_j0, toList_L]
 exact check_tree _ _ _ _
theorem itoa_ge (n : Int) (h : 0 ≤ n) : Lib.itoa n = Lib.decDigits n.toNat := by unfold Lib.itoa; rw [if_neg (by omega)]
theorem itoa_lt (n : Int) (h : n < 0) : Lib.itoa n = 45 :: Lib.decDigits n.natAbs := by unfold Lib.itoa; rw [if_pos h]
theorem dec_size (n : Nat) (h : n ≤ 9223372036854775808) : (Lib.decDigits n).length ≤ 20 := by
 rw [Lib.decDigits_length]
 have : ∀ d n : Nat, n < 10 ^ d → 1 ≤ d → Lib.nDigits n ≤ d := by
  intro d
  induction d with
  | zero => intro n _ h; omega
  | succ d ih =>
   intro n hn _
   rw [Lib.nDigits]
   by_cases h10 : n < 10
   ·rw [dif_pos h10]; omega
   ·rw [dif_neg h10]
    have hd : 1 ≤ d := by
     rcases d with _ | d
     ·simp at hn; omega
     ·omega
    have := ih (n / 10) (by rw [Nat.pow_succ] at hn; omega) hd
    omega
 exact this 20 n (by omega) (by omega)
theorem mk_size (l : List UInt8) : (⟨l.toArray⟩ : ByteArray).size = l.length := by rw [size_L, L_mk]
theorem itoa_size (n : Int) (h0 : -9223372036854775808 ≤ n) (h1 : n ≤ 9223372036854775807) : (Lib.itoa n).length ≤ 21 := by
 by_cases hn : 0 ≤ n
 ·rw [itoa_ge n hn]; have := dec_size n.toNat (by omega); omega
 ·rw [itoa_lt n (by omega), List.length_cons]; have := dec_size n.natAbs (by omega); omega
def valueL (kind num : Int) (text : List UInt8) : List UInt8 := if kind = 1 then Lib.itoa num else if kind = 2 then quoteL text else [40, 110, 117, 108, 108, 41]
def formL (name : List UInt8) (kind num : Int) (text : List UInt8) : List UInt8 := name ++ 61 :: valueL kind num text
def formatF (n : ByteArray) (a1 a2 : Int) (t : ByteArray) : ByteArray × Int :=
 if checkI (L n) a1 a2 (L t) = 0 then (⟨(formL (L n) a1 a2 (L t)).toArray⟩, 0) else (⟨#[]⟩, checkI (L n) a1 a2 (L t))
theorem checkI_ok {n t : List UInt8} {a1 a2 : Int} (h : checkI n a1 a2 t = 0) : nameL n = true ∧ 1 ≤ a1 ∧ a1 ≤ 3 ∧ (a1 = 1 ∨ a2 = 0) ∧ (a1 = 2 ∨ t = []) ∧ t.length ≤ 640 := by
 unfold checkI at h
 by_cases hn : nameL n = true
 ·rw [if_pos hn] at h
  split at h
  ·cases h
  ·rename_i hk
   split at h
   ·cases h
   ·refine ⟨hn, by omega, by omega, ?_, ?_, by omega⟩
    ·by_cases e : a1 = 1
     ·exact .inl e
     ·by_cases e2 : a2 = 0
      ·exact .inr e2
      ·exact absurd (.inr (.inr (.inl ⟨e, e2⟩))) hk
    ·by_cases e : a1 = 2
     ·exact .inl e
     ·by_cases e2 : t = []
      ·exact .inr e2
      ·exact absurd (.inr (.inr (.inr ⟨e, e2⟩))) hk
 ·rw [if_neg hn] at h; cases h
theorem quoteL_length (l : List UInt8) : (quoteL l).length ≤ 2 * l.length + 2 := by
 unfold quoteL; split
 ·simp; omega
 ·simp [hexL_length]
theorem quote_run (t : ByteArray) (h : t.size ≤ 640) : ∃ q, value_Quote.f t = some (q, 0) ∧ L q = quoteL (L t) := by
 obtain ⟨q, e, hq, hc⟩ := quote_some t
 rcases hc with ⟨h1, _, _⟩ | ⟨_, rfl, h2⟩
 ·omega
 ·exact ⟨q, hq, h2⟩
theorem value_Format_run (n : ByteArray) (a1 a2 : Int) (t : ByteArray) (hn : n.size ≤ 100000) (h0 : -9223372036854775808 ≤ a2) (h1 : a2 ≤ 9223372036854775807) (k : Nat) (hk : n.size + 1 < k) :
  value_Format.f k n a1 a2 t = some (formatF n a1 a2 t) := by
 unfold value_Format.f formatF
 rw [value_Check_run n a1 a2 t hn k hk]
 simp only [Option.bind_some]
 by_cases hc : checkI (L n) a1 a2 (L t) = 0
 ·rw [if_pos hc, if_pos hc]
  obtain ⟨_, _, _, _, _, h640⟩ := checkI_ok hc
  rw [← size_L] at h640
  unfold formL valueL
  have z0 : (n ++ (⟨#[61]⟩ : ByteArray)).size = n.size + 1 := by rw [ByteArray.size_append]; rfl
  by_cases e1 : a1 = 1
  ·rw [if_pos e1, if_pos e1, strconv_Itoa.f, if_pos ⟨h0, h1⟩]
   have zi : (⟨(Lib.itoa a2).toArray⟩ : ByteArray).size ≤ 21 := by rw [mk_size]; exact itoa_size a2 h0 h1
   simp only [Option.bind_some]
   rw [if_pos (by omega), if_pos (by rw [z0]; omega)]
   congr 2
   apply ext_L
   rw [L_append, L_append, L_mk, L_mk, List.append_assoc]; rfl
  ·rw [if_neg e1, if_neg e1]
   by_cases e2 : a1 = 2
   ·rw [if_pos e2, if_pos e2]
    obtain ⟨q, hq, hl⟩ := quote_run t h640
    rw [hq]
    have zq : q.size ≤ 2 * t.size + 2 := by rw [size_L q, hl, size_L t]; exact quoteL_length _
    simp only [Option.bind_some]
    rw [if_pos (by omega), if_pos (by rw [z0]; omega)]
    congr 2
    apply ext_L
    rw [L_append, L_append, L_mk, hl, List.append_assoc]; rfl
   ·rw [if_neg e2, if_neg e2, if_pos (by omega), if_pos (by rw [z0]; omega)]
    congr 2
    apply ext_L
    rw [L_append, L_append, L_mk, List.append_assoc]; rfl
 ·rw [if_neg hc, if_neg hc]
end Go.Proofs.YtkfddpbmclbdhaaDoor.PA
