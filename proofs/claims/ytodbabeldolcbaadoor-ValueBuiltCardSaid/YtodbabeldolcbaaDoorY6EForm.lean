/- The Go function record.Format returns what checkR and lineL say. Conditions: the program's tables read as they were laid (GT 2); no name of a pair is longer than 100000 bytes; the numbers are of type int. -/
import Derived.Test.YtodbabeldolcbaaDoorY6ECheck
import Derived.Test.YtodbabeldolcbaaDoorY6Shelf
import Derived.Shelf.Strings.BuilderX
import Derived.Shelf.RegionOpenPlain
import Derived.Lib.Builder
import Derived.Lib.AppendStr
import Derived.Lib.UnsafeStr
import Derived.WalkKit
import Derived.Laws.Externs
import Derived.Test.YtodbabeldolcbaaDoorY6ELib
namespace Go.Proofs.YtodbabeldolcbaaDoor.PA
open Go.RowKit Go.Proofs.YtodbabeldolcbaaDoorW.PrintWords Go.Proofs.YtodbabeldolcbaaDoorW.PrintLast Go.Proofs.YtodbabeldolcbaaDoorW.PrintMore Go.Proofs.YtodbabeldolcbaaDoor.M0
set_option linter.unusedVariables false
set_option linter.unusedSimpArgs false
def headL (t tm sr : Int) : List UInt8 :=
  [116, 121, 112, 101, 61] ++ L (nameK t) ++ [32, 109, 115, 103, 61, 97, 117, 100, 105, 116, 40] ++ Lib.itoa (Int.tdiv tm 1000) ++ [46] ++ (Lib.itoa (1000 + Int.tmod tm 1000)).drop 1 ++ [58] ++ Lib.itoa sr ++ [41, 58]
def restL (l : List S25) : List UInt8 := l.flatMap fun p => 32 :: formL (L p.f0) p.f1 p.f2 (L p.f3)
def lineL (t tm sr : Int) (l : List S25) : List UInt8 := headL t tm sr ++ restL l
def numsOK (l : List S25) : Bool := l.all fun p => decide (-9223372036854775808 ≤ p.f2) && decide (p.f2 ≤ 9223372036854775807)
/-- What Format returns. -/
def formatR (t tm sr : Int) (l : List S25) : ByteArray × Int := if checkR t tm sr l = 0 then (⟨(lineL t tm sr l).toArray⟩, 0) else (⟨#[]⟩, checkR t tm sr l)
theorem checkR_ok {t tm sr : Int} {l : List S25} (h : checkR t tm sr l = 0) : 0 ≤ tm ∧ tm ≤ 1099511627776 ∧ 0 ≤ sr ∧ sr ≤ 1073741824 ∧ l.length ≤ 24 ∧ pairsI [] l = 0 := by
  unfold checkR at h
  by_cases h0 : nameK t = ⟨#[]⟩
  · rw [if_pos h0] at h; omega
  rw [if_neg h0] at h
  by_cases h1 : tm < 0
  · rw [if_pos h1] at h; omega
  rw [if_neg h1] at h
  by_cases h2 : 1099511627776 < tm
  · rw [if_pos h2] at h; omega
  rw [if_neg h2] at h
  by_cases h3 : sr < 0
  · rw [if_pos h3] at h; omega
  rw [if_neg h3] at h
  by_cases h4 : 1073741824 < sr
  · rw [if_pos h4] at h; omega
  rw [if_neg h4] at h
  by_cases h5 : 24 < l.length
  · rw [if_pos h5] at h; omega
  rw [if_neg h5] at h
  exact ⟨by omega, by omega, by omega, by omega, by omega, h⟩
def record_Format.T : Bool × List (List Nat × List Nat) := (true, [([], []), ([0], [0]), ([1], [1]), ([2], [2]), ([3], [3]), ([], []), ([5], [5]), ([6], [6]), ([7, 2], [7]), ([4, 8], [4, 8]), ([9], [9]), ([], []), ([10, 11], [10, 11]), ([12], [12]), ([], []), ([14], [14]), ([15, 8], [15]), ([13, 16], [13, 16]), ([17], [17]), ([18, 16], [18])])
def record_Format.B : List Nat := [0, 1, 3, 7, 15, 0, 32, 96, 231, 511, 1023, 0, 4095, 8191, 0, 16384, 49639, 131071, 262143, 524287]
theorem record_Format.bits : waitsOk record_Format.T.2 record_Format.B = true := by kernel_rfl
theorem pairsI_all : ∀ (l d : List S25), pairsI d l = 0 → ∀ p ∈ l, checkI (L p.f0) p.f1 p.f2 (L p.f3) = 0
  | [], _, _, p, hp => by cases hp
  | q :: l, d, h, p, hp => by
    unfold pairsI at h
    by_cases hc : checkI (L q.f0) q.f1 q.f2 (L q.f3) = 0
    · rw [if_pos hc] at h
      by_cases hn : hasN d q.f0 = true
      · rw [if_pos hn] at h; omega
      · rw [if_neg hn] at h
        rcases List.mem_cons.1 hp with rfl | hp
        · exact hc
        · exact pairsI_all l _ h p hp
    · rw [if_neg hc] at h; exact absurd h hc
theorem nameL_len {l : List UInt8} (h : nameL l = true) : l.length ≤ 16 := by
  unfold nameL at h
  simp only [Bool.and_eq_true, decide_eq_true_eq] at h
  exact h.2.2
theorem formL_len {n t : List UInt8} {a1 a2 : Int} (h : checkI n a1 a2 t = 0) (h0 : -9223372036854775808 ≤ a2) (h1 : a2 ≤ 9223372036854775807) : (formL n a1 a2 t).length ≤ 1400 := by
  obtain ⟨hn, _, _, _, _, ht⟩ := checkI_ok h
  have h2 := nameL_len hn
  have h3 := itoa_size a2 h0 h1
  have h4 := quoteL_length t
  unfold formL valueL
  rw [List.length_append, List.length_cons]
  split
  · omega
  · split
    · omega
    · simp only [List.length_cons, List.length_nil]; omega
end Go.Proofs.YtodbabeldolcbaaDoor.PA
