/- The law ValueLimits in plain Lean: texts of the greatest length are written and read, longer ones refused. Conditions: none. -/
import Derived.Test.YtkfddpbmclbdhaaDoorVUnq
import Derived.Test.YtkfddpbmclbdhaaDoorPAx6
namespace Go.Proofs.YtkfddpbmclbdhaaDoor.PA
set_option linter.unusedSimpArgs false
set_option linter.unusedVariables false
open Go.RowKit Go.Proofs.YtkfddpbmclbdhaaDoorW.PrintWords Go.Proofs.YtkfddpbmclbdhaaDoorW.PrintLast Go.Proofs.YtkfddpbmclbdhaaDoorW.PrintMore Go.Proofs.YtkfddpbmclbdhaaDoor.M0

/-- What stands behind the loop that fills the text. -/
def limEnd (k : Nat) (x5 : List Int) : Option Bool := (value_Quote.f (strOfNums x5)).bind fun bt147 => (if (x5.length : Int) > 640 then (if bt147.2 = 20 then (if bt147.1.toList = ([] : List UInt8) then ((kauditlaw02_awake.f).bind fun t149 => (some t149)) else (some false)) else (some false)) else ((value_Unquote.f k bt147.1).bind fun bt150 => (if bt147.2 = 0 then (if bt150.2 = 0 then (if bt150.1.toList = (strOfNums x5).toList then (if (bt147.1.size : Int) = (wrap64 ((x5.length : Int) + 2)) then ((kauditlaw02_awake.f).bind fun t152 => (some t152)) else (if (bt147.1.size : Int) = (wrap64 ((wrap64 (2 * (x5.length : Int))) + 1)) then ((kauditlaw02_awake.f).bind fun t153 => (some t153)) else (some false))) else (some false)) else (some false)) else (some false))))
theorem lim_end (k : Nat) (x5 : List Int) (h : x5.length ≤ 700) (hk : 2000 < k) : limEnd k x5 = some true := by
  unfold limEnd
  have hz : (strOfNums x5).size = x5.length := strOfNums_size x5
  obtain ⟨q, e, hq, hc⟩ := quote_some (strOfNums x5)
  rw [hq, awake02]
  simp only [Option.bind_some]
  rcases hc with ⟨h1, rfl, rfl⟩ | ⟨h1, rfl, h2⟩
  · rw [if_pos (by omega), if_pos rfl, if_pos (by rw [toList_L]; rfl)]
  · rw [if_neg (by omega)]
    have hQ : Quotes (strOfNums x5) q := hq
    have hql : q.size ≤ 1500 := by
      rw [size_L, h2]; unfold quoteL; split
      · simp; rw [← size_L]; omega
      · simp [hexL_length]; rw [← size_L]; omega
    rcases value_Unquote_right q (by omega) k (by omega) with ⟨t, ht, hr⟩ | ⟨hn, _⟩
    · rw [hr, ht.inj hQ]
      simp only [Option.bind_some, if_true]
      have w1 : wrap64 ((x5.length : Int) + 2) = (x5.length : Int) + 2 := wrap64_id (by omega) (by omega)
      have w2 : wrap64 (2 * (x5.length : Int)) = 2 * (x5.length : Int) := wrap64_id (by omega) (by omega)
      have w3 : wrap64 (2 * (x5.length : Int) + 1) = 2 * (x5.length : Int) + 1 := wrap64_id (by omega) (by omega)
      rw [w1, w2, w3]
      have hs : q.size = x5.length + 2 ∨ q.size = 2 * x5.length + 1 := by
        rw [size_L, h2, ← hz, size_L (strOfNums x5)]
        unfold quoteL; split
        · left; simp
        · right; simp [hexL_length]
      rcases hs with hs | hs
      · rw [if_pos (by omega)]
      · by_cases e : (q.size : Int) = (x5.length : Int) + 2
        · rw [if_pos e]
        · rw [if_neg e, if_pos (by omega)]
    · exact absurd hQ (hn _)
theorem lim_loop (c : Int) (N : Nat) (hN : N ≤ 700) : ∀ d k (x : List Int) (i : Nat), x.length = N → i ≤ N → N - i = d → d + 2001 < k → kauditlaw02_ValueLimits.l0 k c x (i : Int) = some true := by
  intro d
  induction d with
  | zero =>
    intro k x i hx hi hd hk
    obtain ⟨k, rfl⟩ : ∃ m, k = m + 1 := ⟨k - 1, by omega⟩
    rw [kauditlaw02_ValueLimits.l0, if_neg (by omega)]
    exact lim_end k x (by omega) (by omega)
  | succ d ih =>
    intro k x i hx hi hd hk
    obtain ⟨k, rfl⟩ : ∃ m, k = m + 1 := ⟨k - 1, by omega⟩
    have hw : wrap64 ((i : Int) + 1) = ((i + 1 : Nat) : Int) := by rw [wrap64_id (by omega) (by omega)]; omega
    rw [kauditlaw02_ValueLimits.l0, if_pos (by omega), if_pos (by omega), hw]
    exact ih k _ (i + 1) (by rw [List.length_set]; exact hx) (by omega) (by omega) (by omega)
/-- The law ValueLimits, plain. -/
theorem pure_ValueLimits (a0 a1 : Int) (h0 : (Lit.int .u8 a0).wf = true) (_ : (Lit.int .u8 a1).wf = true) : ∃ k, kauditlaw02_ValueLimits.f k a0 a1 = some true := by
  refine ⟨10000, ?_⟩
  have hb : 0 ≤ a0 ∧ a0 ≤ 255 := by
    simp [Lit.wf, IntKind.min, IntKind.max, IntKind.signed, IntKind.bits] at h0
    omega
  have hm : Int.tmod a0 5 = a0 % 5 := Int.tmod_eq_emod_of_nonneg hb.1
  have w1 : wrap64 (a0 % 5) = a0 % 5 := wrap64_id (by omega) (by omega)
  have w2 : wrap64 (638 + a0 % 5) = 638 + a0 % 5 := wrap64_id (by omega) (by omega)
  unfold kauditlaw02_ValueLimits.f
  rw [hm, w1, w2, if_pos (by omega), if_pos (by omega)]
  exact lim_loop a1 (638 + a0 % 5).toNat (by omega) _ _ _ 0 (by rw [List.length_replicate]) (by omega) rfl (by omega)
end Go.Proofs.YtkfddpbmclbdhaaDoor.PA
