/- The methods until and number of the reader of a line (package record): what they return, and what they leave in the reader's block. Conditions: the reader is a block of its own; the library's variables are there (GT 1). -/
import Derived.RangeFuncNested
import Derived.RangeFuncBound
import Derived.RangeFuncCalls
import Derived.RangeFuncLeaves
import Derived.Shelf.Abstract
import Derived.Shelf.RegionOpen
import Derived.OwnWalkIn
import Derived.TacticsInMore
import Derived.LoopNIn
import Derived.LoopIn
import Derived.Test.YtodbabeldolcbaaGreatDoorY9VCuts
section
namespace Go.Proofs.YtodbabeldolcbaaGreatDoor.PA
open Go.RowKit Go.Proofs.YtodbabeldolcbaaGreatDoorW.PrintWords Go.Proofs.YtodbabeldolcbaaGreatDoorW.PrintLast Go.Proofs.YtodbabeldolcbaaGreatDoorW.PrintMore Go.Proofs.YtodbabeldolcbaaGreatDoor.M0
set_option linter.unusedVariables false
set_option linter.unusedSimpArgs false
def Off (g : Nat) (w w' : World) : Prop := (∀ B a, B ≤ g → Below B a w → Below B a w') ∧ (∀ k o, k ≠ g → w.heap[k]? = some o → w'.heap[k]? = some o) ∧ w.heap.size ≤ w'.heap.size
theorem Off.refl (g : Nat) (w : World) : Off g w w := ⟨fun _ _ _ h => h, fun _ _ _ h => h, Nat.le_refl _⟩
theorem Off.trans {g : Nat} {a b c : World} (h : Off g a b) (k : Off g b c) : Off g a c := ⟨fun B x hB hx => k.1 B x hB (h.1 B x hB hx), fun j o hj ho => k.2.1 j o hj (h.2.1 j o hj ho), Nat.le_trans h.2.2 k.2.2⟩
theorem Off.of_below {g : Nat} {w w' : World} (hg : g < w.heap.size) (h : Below w.heap.size w w') : Off g w w' :=
 ⟨fun B a hB hx => hx.trans (h.mono (by omega)), fun k o _ ho => Zah ho h, h.size⟩
theorem Off.set {g : Nat} {w0 w : World} (h : Off g w0 w) (i : Nat) (v : Value) : Off g w0 (w.setCell ⟨g, i, none⟩ v) :=
 ⟨fun B a hB hx => (h.1 B a hB hx).setCell hB v, fun k o hk ho => (Below.heap_setCell w ⟨g, i, none⟩ v k hk).trans (h.2.1 k o hk ho), by have := h.2.2; simpa [World.setCell] using this⟩
set_option maxHeartbeats 1000000 in
set_option maxRecDepth 100000 in
theorem reader_until (g : Nat) (T : TypeId) (rest mark b a : ByteArray) (bad ok : Bool) (w : World) (hG : GT 1 w) (hs : rest.size ≤ 1000000) (hL : w.heap[g]? = some (.cells #[.string rest, .bool bad] T (0, 0))) (hc : Lib.cut (L rest) (L mark) = (L b, L a, ok)) :
  Calls Tryz.prog 89 #[.pointer (some ⟨g, 0, none⟩), .string mark] w fun e w' => e = .returned (.string b) ∧ w'.heap[g]? = some (.cells #[.string a, .bool (bad || !ok)] T (0, 0)) ∧ Off g w w' := by
 have hg := Za3 hL
 have c0 : w.cell? ⟨g, 0, none⟩ = some (.string rest) := (Zaf hL 0).trans rfl
 have HL := Zaa.mk hL
 clear hL
 have HG := Zaa.mk hG
 clear hG
 go_enter Tryz.func89, Tryz.ntmps89
 cases bad <;> cases ok
 all_goals
  go_wp2_with (first
   | (go_at_call 120; refine (cut_calls rest mark _ HG.out hs b a _ hc).mono ?_; rintro e w1 ⟨rfl, hb⟩; have BL := Zaa.mk (Zah HL.out hb); have HO := Zaa.mk (Off.of_below hg hb); have d0 : w1.cell? ⟨g, 0, none⟩ = some (.string rest) := (Zaf BL.out 0).trans rfl; have d1 : w1.cell? ⟨g, 1, none⟩ = some (.bool _) := (Zaf BL.out 1).trans rfl; have f0 : w1.frozen? ⟨g, 0, none⟩ = false := Zak BL.out 0; have f1 : w1.frozen? ⟨g, 1, none⟩ = false := Zak BL.out 1; clear hb))
  go_ret
  exact ⟨rfl, Zan (Zan BL.out 0 _) 1 _, (HO.out.set 0 _).set 1 _⟩
set_option maxHeartbeats 1000000 in
set_option maxRecDepth 100000 in
theorem line_number_yes (g : Nat) (T : TypeId) (rest mark b a : ByteArray) (bad ok : Bool) (most n : Int) (w : World) (hG : GT 1 w) (hs : rest.size ≤ 1000000) (hb2 : b.size ≤ 1000000) (hL : w.heap[g]? = some (.cells #[.string rest, .bool bad] T (0, 0))) (hc : Lib.cut (L rest) (L mark) = (L b, L a, ok)) (ha : Lib.atoiAll (L b) = .ok n) :
  Calls Tryz.prog 91 #[.pointer (some ⟨g, 0, none⟩), .string mark, .int .i64 most] w fun e w' => e = .returned (.int .i64 n) ∧ w'.heap[g]? = some (.cells #[.string a, .bool ((bad || !ok) || (decide (n < 0) || decide (most < n)))] T (0, 0)) ∧ Off g w w' := by
 have hg := Za3 hL
 have HL := Zaa.mk hL
 clear hL
 have HG := Zaa.mk hG
 clear hG
 go_enter Tryz.func91, Tryz.ntmps91
 obtain ⟨nb, hnb⟩ : ∃ nb, (bad || !ok) = nb := ⟨_, rfl⟩
 obtain ⟨c1, hc1⟩ : ∃ c1, decide (n < 0) = c1 := ⟨_, rfl⟩
 obtain ⟨c2, hc2⟩ : ∃ c2, decide (most < n) = c2 := ⟨_, rfl⟩
 rw [hnb, hc1, hc2]
 have HNB := Zaa.mk hnb
 clear hnb
 cases nb <;> cases c1 <;> cases c2
 all_goals
  go_wp2_with (first
   | (go_at_call 89; refine (reader_until g T rest mark b a bad ok _ HG.out hs HL.out hc).mono ?_; rintro e w1 ⟨rfl, hL1, hO1⟩; rw [HNB.out] at hL1; have BL := Zaa.mk hL1; have HO := Zaa.mk hO1; clear hL1 hO1)
   | (go_at_call 122; refine (atoi_yes b _ hb2 n ha).mono ?_; rintro e w2 ⟨rfl, hb⟩; have BL2 := Zaa.mk (Zah BL.out hb); have HO2 := Zaa.mk (HO.out.trans (Off.of_below (Za3 BL.out) hb)); have d0 : w2.cell? ⟨g, 0, none⟩ = some (.string a) := (Zaf BL2.out 0).trans rfl; have d1 : w2.cell? ⟨g, 1, none⟩ = some (.bool _) := (Zaf BL2.out 1).trans rfl; have f1 : w2.frozen? ⟨g, 1, none⟩ = false := Zak BL2.out 1; clear hb))
  go_ret
  exact ⟨rfl, Zan BL2.out 1 _, HO2.out.set 1 _⟩
set_option maxHeartbeats 1000000 in
set_option maxRecDepth 100000 in
theorem line_number_no (g : Nat) (T : TypeId) (rest mark b a : ByteArray) (bad ok : Bool) (most : Int) (w0 w : World) (hG : GT 1 w0) (hB : Below w0.heap.size w0 w) (hBg : w0.heap.size ≤ g) (hs : rest.size ≤ 1000000) (hb2 : b.size ≤ 1000000) (hL : w.heap[g]? = some (.cells #[.string rest, .bool bad] T (0, 0))) (hc : Lib.cut (L rest) (L mark) = (L b, L a, ok)) (ha : ∀ v, ¬ Lib.atoiAll (L b) = .ok v) :
  Calls Tryz.prog 91 #[.pointer (some ⟨g, 0, none⟩), .string mark, .int .i64 most] w fun e w' => ∃ n, e = .returned (.int .i64 n) ∧ w'.heap[g]? = some (.cells #[.string a, .bool true] T (0, 0)) ∧ Off g w w' := by
 have hg := Za3 hL
 have HL := Zaa.mk hL
 clear hL
 have HG := Zaa.mk hG
 have HB := Zaa.mk hB
 clear hG hB
 go_enter Tryz.func91, Tryz.ntmps91
 obtain ⟨nb, hnb⟩ : ∃ nb, (bad || !ok) = nb := ⟨_, rfl⟩
 have HNB := Zaa.mk hnb
 clear hnb
 cases nb
 all_goals
  go_wp2_with (first
   | (go_at_call 89; refine (reader_until g T rest mark b a bad ok _ (GT.below (Nat.le_refl 1) HG.out HB.out) hs HL.out hc).mono ?_; rintro e w1 ⟨rfl, hL1, hO1⟩; rw [HNB.out] at hL1; have BL := Zaa.mk hL1; have HO := Zaa.mk hO1; clear hL1 hO1)
   | (go_at_call 122; refine (atoi_not b _ (GT.below (Nat.le_refl 1) HG.out (HO.out.1 _ _ hBg HB.out)) hb2 ha).mono ?_; rintro e w2 ⟨n, tp, p, rfl, hb⟩; have BL2 := Zaa.mk (Zah BL.out hb); have HO2 := Zaa.mk (HO.out.trans (Off.of_below (Za3 BL.out) hb)); have d0 : w2.cell? ⟨g, 0, none⟩ = some (.string a) := (Zaf BL2.out 0).trans rfl; have d1 : w2.cell? ⟨g, 1, none⟩ = some (.bool _) := (Zaf BL2.out 1).trans rfl; have f1 : w2.frozen? ⟨g, 1, none⟩ = false := Zak BL2.out 1; clear hb))
  go_ret
  exact ⟨_, rfl, Zan BL2.out 1 _, HO2.out.set 1 _⟩
theorem line_number_any (g : Nat) (T : TypeId) (rest mark b a : ByteArray) (bad ok : Bool) (most : Int) (w0 w : World) (hG : GT 1 w0) (hB : Below w0.heap.size w0 w) (hBg : w0.heap.size ≤ g) (hs : rest.size ≤ 1000000) (hb2 : b.size ≤ 1000000) (hL : w.heap[g]? = some (.cells #[.string rest, .bool bad] T (0, 0))) (hc : Lib.cut (L rest) (L mark) = (L b, L a, ok)) :
  Calls Tryz.prog 91 #[.pointer (some ⟨g, 0, none⟩), .string mark, .int .i64 most] w fun e w' => ∃ n nb, e = .returned (.int .i64 n) ∧ w'.heap[g]? = some (.cells #[.string a, .bool nb] T (0, 0)) ∧ Off g w w' ∧
   (nb = false → bad = false ∧ ok = true ∧ Lib.atoiAll (L b) = .ok n ∧ 0 ≤ n ∧ n ≤ most) ∧ (bad = false → ok = true → ∀ m, Lib.atoiAll (L b) = .ok m → 0 ≤ m → m ≤ most → nb = false ∧ n = m) := by
 by_cases ha : ∃ n, Lib.atoiAll (L b) = .ok n
 ·obtain ⟨n, ha⟩ := ha
  refine (line_number_yes g T rest mark b a bad ok most n w (GT.below (Nat.le_refl 1) hG hB) hs hb2 hL hc ha).mono ?_
  rintro e w' ⟨rfl, h1, h2⟩
  refine ⟨n, _, rfl, h1, h2, fun h => ?_, fun h1 h2 m hm m0 m1 => ?_⟩
  ·simp only [Bool.or_eq_false_iff, Bool.not_eq_false', decide_eq_false_iff_not] at h
   exact ⟨h.1.1, h.1.2, ha, by omega, by omega⟩
  ·rw [ha] at hm
   injection hm with hm
   subst hm
   refine ⟨?_, rfl⟩
   rw [h1, h2, decide_eq_false (by omega), decide_eq_false (by omega)]
   rfl
 ·have hno : ∀ v, ¬ Lib.atoiAll (L b) = .ok v := fun v e => ha ⟨v, e⟩
  refine (line_number_no g T rest mark b a bad ok most w0 w hG hB hBg hs hb2 hL hc hno).mono ?_
  rintro e w' ⟨n, rfl, h1, h2⟩
  exact ⟨n, true, rfl, h1, h2, (fun h => absurd h (by decide)), (fun _ _ m hm => absurd hm (hno m))⟩
end Go.Proofs.YtodbabeldolcbaaGreatDoor.PA
end
/- strings.SplitSeq at the separator " ": its iterator hands out the parts of the text, one after the other, to whatever loop body keeps the iterator's own boxes. Conditions: the boxes are of the call's own. -/
section
namespace Go.Proofs.YtodbabeldolcbaaGreatDoor.PA
open Go.RowKit Go.Shelf Go.Proofs.YtodbabeldolcbaaGreatDoorW.PrintWords Go.Proofs.YtodbabeldolcbaaGreatDoorW.PrintLast Go.Proofs.YtodbabeldolcbaaGreatDoorW.PrintMore Go.Proofs.YtodbabeldolcbaaGreatDoor.M0
attribute [local go_sem] Oper.semAt_some
set_option linter.unusedVariables false
set_option linter.unusedSimpArgs false
structure Boxes (b0 bs b2 : Nat) (W : World) (s : ByteArray) : Prop where
 sep : W.heap[b0]? = some (.cells #[.string ⟨#[32]⟩] 9 (0, 0))
 txt : W.heap[bs]? = some (.cells #[.string s] 9 (0, 0))
 sav : W.heap[b2]? = some (.cells #[.int .i64 0] 3 (0, 0))
def textLen (bs : Nat) (W : World) : Nat := match W.cell? ⟨bs, 0, none⟩ with
 | some (.string s) => s.size
 | _ => 0
theorem boxCell {W : World} {B : Nat} {v : Value} {t : TypeId} (h : W.heap[B]? = some (.cells #[v] t (0, 0))) : W.cell? ⟨B, 0, none⟩ = some v ∧ W.frozen? ⟨B, 0, none⟩ = false := by
 constructor <;> simp [World.cell?, World.frozen?, h]
def Zbz (s : ByteArray) : List ByteArray := (splitB (L s)).map fun l => ⟨l.toArray⟩
theorem idx_facts (n z : Nat) (h : n + 1 ≤ z) (hz : z ≤ 1000000) : wrap64 ((n : Int) + 1) = ((n + 1 : Nat) : Int) ∧ wrap64 ((n : Int) + 0) = (n : Int) ∧ wrap64 (n : Int) = (n : Int) ∧ ((0 : Int) ≤ (n : Int)) = True ∧ ((n : Int) ≤ (z : Int)) = True ∧ ((0 : Int) ≤ (n : Int) + 1) = True ∧ ((n : Int) + 1 ≤ (z : Int)) = True ∧ decide ((n : Int) < 0) = false :=
 ⟨by rw [wrap64_id (by omega) (by omega)]; omega, by rw [wrap64_id (by omega) (by omega)]; omega, wrap64_id (by omega) (by omega), eq_true (by omega), eq_true (by omega), eq_true (by omega), eq_true (by omega), decide_eq_false (by omega)⟩
set_option maxRecDepth 100000 in
set_option maxHeartbeats 2000000 in
theorem split_iter (m l b0 bs b2 : Nat) (hm : 1 ≤ m) (hne0 : b0 ≠ bs) (hne2 : b2 ≠ bs) (J Jx : List ByteArray → World → Prop)
  (s : ByteArray) (hJs : ∀ pre W v r, Boxes b0 bs b2 W r → J pre W → J pre (W.setCell ⟨bs, 0, none⟩ (.string v)))
  (hY : ∀ pre x post W1 r, Zbz s = pre ++ x :: post → Boxes b0 bs b2 W1 r → J pre W1 → YieldAt Fence.wide (m - 1) Tryz.prog l #[.string x] W1 fun e W' =>
   (e = .returned (.bool true) ∧ J (pre ++ [x]) W' ∧ (∀ s, Boxes b0 bs b2 W1 s → Boxes b0 bs b2 W' s)) ∨ (e = .returned (.bool false) ∧ Jx (pre ++ [x]) W'))
  (W : World) (hs : s.size ≤ 1000000) (hB : Boxes b0 bs b2 W s) (h0 : J [] W) :
  CallsIn Fence.wide m Tryz.prog 140 #[.func (.yield l) #[] #[], .pointer (some ⟨b0, 0, none⟩), .pointer (some ⟨bs, 0, none⟩), .pointer (some ⟨b2, 0, none⟩)] W fun e W' => (∃ v, e = .returned v) ∧
   (J (Zbz s) W' ∨ ∃ pre x post, Zbz s = pre ++ x :: post ∧ Jx (pre ++ [x]) W') := by
 refine callsIn_of_wp Tryz.func140 rfl trivial ?_ rfl
 simp only [Tryz.ntmps140, List.size_toArray, List.length_cons, List.length_nil, Nat.reduceAdd, Nat.reduceSub, Array.replicate_succ, Array.replicate_zero, List.push_toArray, List.append_toArray, List.nil_append, List.cons_append]
 have c0 := (boxCell hB.sep).1
 gi_wp2
 gi_loopw [7, 8] (fun _ _ wr => ∃ (pre : List ByteArray) (r : ByteArray), Zbz s = pre ++ Zbz r ∧ r.size ≤ 1000000 ∧ Boxes b0 bs b2 wr r ∧ J pre wr) (fun _ _ wr => textLen bs wr)
 case atStart => exact ⟨[], s, rfl, hs, hB, h0⟩
 case round =>
  obtain ⟨pre, r, hp, hr, hBr, hJr⟩ := hrel
  have d0 := (boxCell hBr.sep).1
  obtain ⟨d1, f1⟩ := boxCell hBr.txt
  have d2 := (boxCell hBr.sav).1
  rcases idx_cases32 (L r) with ⟨hi, hn⟩ | ⟨a, q, hl, hn, hi⟩
  ·have hpr : Zbz r = [r] := by
    unfold Zbz
    rw [splitB_one hn]
    exact congrArg (fun x => [x]) (ext_L (L_mk _))
   have HY := hY pre r [] wr r (by rw [hp, hpr]) hBr hJr
   obtain ⟨fn, tmps, assign, body, hy, hR⟩ := HY
   have HX := Zaa.mk hi
   clear hi hn hJr
   gi_wp2_with (refine ⟨trivial, ?_⟩; gi_at_call 142; refine (callsIn_wide.2 (Tryz.strings_Index_one r 32 wr)).mono ?_; rintro e w' ⟨rfl, rfl⟩; rw [show Lib.indexByte r.data.toList 32 = -1 from HX.out])
   refine hR.mono ?_
   rintro e W3 (⟨rfl, hJ3, hk3⟩ | ⟨rfl, hJx3⟩)
   ·gi_wp2
    go_end0
    exact ⟨⟨_, rfl⟩, .inl (by rw [hp, hpr]; exact hJ3)⟩
   ·gi_wp2
    go_end0
    exact ⟨⟨_, rfl⟩, .inr ⟨pre, r, [], by rw [hp, hpr], hJx3⟩⟩
  ·obtain ⟨n, hn2⟩ : ∃ n, n = a.length := ⟨_, rfl⟩
   rw [← hn2] at hi
   have hsz : r.size = n + 1 + q.length := by rw [Za2, hl, List.length_append, List.length_cons]; omega
   obtain ⟨fa, hfa⟩ : ∃ x, r.extract 0 n = x := ⟨_, rfl⟩
   obtain ⟨fr, hfr⟩ : ∃ x, r.extract (n + 1) r.size = x := ⟨_, rfl⟩
   have la : L fa = a := by rw [← hfa, Zb3, hl, List.drop_zero, Nat.sub_zero, hn2, List.take_left]
   have lr : L fr = q := by
    rw [← hfr, Zb3, hl, List.take_of_length_le (by rw [List.length_drop, List.length_append, List.length_cons]; omega), show a ++ 32 :: q = (a ++ [32]) ++ q by simp]
    exact List.drop_left' (by rw [List.length_append, List.length_singleton]; omega)
   have hpr : Zbz r = fa :: Zbz fr := by
    unfold Zbz
    rw [hl, splitB_cons q hn, List.map_cons, lr]
    exact congrArg (fun x => x :: _) (ext_L (by rw [L_mk, la]))
   have hfz : fr.size < r.size := by rw [Za2, lr]; omega
   obtain ⟨w1, w0, w2, q0, q1, q2, q3, q4⟩ := idx_facts n r.size (by omega) hr
   have HY := hY pre fa (Zbz fr) wr r (by rw [hp, hpr]) hBr hJr
   obtain ⟨fn, tmps, assign, body, hy, hR⟩ := HY
   have HX := Zaa.mk hi
   have HPR := Zaa.mk hpr
   have HP := Zaa.mk hp
   have HFZ := Zaa.mk hfz
   have HSZ := Zaa.mk hsz
   have HTL := Zaa.mk (show textLen bs wr = r.size by unfold textLen; rw [d1])
   have HK := Zaa.mk hBr
   clear hi hn hJr hl hsz hpr hp hfz hn2 la lr
   gi_wp2_with (refine ⟨trivial, ?_⟩; gi_at_call 142; refine (callsIn_wide.2 (Tryz.strings_Index_one r 32 wr)).mono ?_; rintro e w' ⟨rfl, rfl⟩; rw [show Lib.indexByte r.data.toList 32 = (n : Int) from HX.out])
   refine hR.mono ?_
   rintro e W3 (⟨rfl, hJ3, hk3⟩ | ⟨rfl, hJx3⟩)
   ·have hB3 := hk3 r HK.out
    have e0 := (boxCell hB3.sep).1
    obtain ⟨e1, g1⟩ := boxCell hB3.txt
    have e2 := (boxCell hB3.sav).1
    have HB3 := Zaa.mk hB3
    clear hB3
    gi_wp2
    go_roundw
    case rel => exact ⟨pre ++ [fa], fr, by rw [HP.out, HPR.out]; simp, by have := HFZ.out; omega, ⟨(Below.heap_setCell _ _ _ b0 hne0).trans HB3.out.sep, Zan HB3.out.txt 0 _, (Below.heap_setCell _ _ _ b2 hne2).trans HB3.out.sav⟩, hJs _ _ _ _ HB3.out hJ3⟩
    case measure =>
     rw [HTL.out]
     have : textLen bs (W3.setCell ⟨bs, 0, none⟩ (.string fr)) = fr.size := by
      unfold textLen
      rw [World.cell?_setCell_same' _ _ _ (by rw [e1]; rfl)]
     rw [this]
     exact HFZ.out
   ·gi_wp2
    refine bodyPost_ret (results_none rfl _ _ _) rfl ?_
    exact ⟨⟨_, rfl⟩, .inr ⟨pre, fa, Zbz fr, by rw [HP.out, HPR.out], hJx3⟩⟩
theorem splitB_len : ∀ l : List UInt8, (splitB l).length ≤ l.length + 1
 | [] => Nat.le_refl _
 | b :: l => by
  have ih := splitB_len l
  rw [splitB]
  split
  ·simp only [List.length_cons]; omega
  ·split
   ·rename_i x xs h; rw [h] at ih; simp only [List.length_cons] at ih ⊢; omega
   ·simp only [List.length_cons, List.length_nil]; omega
theorem splitB_part : ∀ (l : List UInt8), ∀ y ∈ splitB l, y.length ≤ l.length
 | [], y, h => by
  rw [splitB, List.mem_singleton] at h
  rw [h]; exact Nat.le_refl _
 | b :: l, y, h => by
  have ih := splitB_part l
  rw [splitB] at h
  split at h
  ·rcases List.mem_cons.1 h with rfl | h
   ·exact Nat.zero_le _
   ·have := ih y h; simp only [List.length_cons]; omega
  ·split at h
   ·rename_i x xs hx
    rcases List.mem_cons.1 h with rfl | h
    ·have := ih x (by rw [hx]; exact List.mem_cons_self ..); simp only [List.length_cons]; omega
    ·have := ih y (by rw [hx]; exact List.mem_cons_of_mem _ h); simp only [List.length_cons]; omega
   ·rw [List.mem_singleton] at h
    rw [h]; simp only [List.length_cons, List.length_nil]; omega
theorem partsB_bound {s : ByteArray} {pre post : List ByteArray} {x : ByteArray} (h : Zbz s = pre ++ x :: post) : pre.length ≤ s.size ∧ x.size ≤ s.size := by
 constructor
 ·have h1 := splitB_len (L s)
  have h2 := congrArg List.length h
  unfold Zbz at h2
  rw [List.length_map, List.length_append, List.length_cons] at h2
  rw [Za2]; omega
 ·have hm : x ∈ Zbz s := by rw [h]; exact List.mem_append_right _ (List.mem_cons_self ..)
  unfold Zbz at hm
  obtain ⟨y, hy, rfl⟩ := List.mem_map.1 hm
  rw [Za2, Za2 s, L_mk]
  exact splitB_part _ y hy
set_option maxRecDepth 100000 in
set_option maxHeartbeats 2000000 in
theorem split_seq (s : ByteArray) (w : World) :
  Calls Tryz.prog 92 #[.string s, .string ⟨#[32]⟩] w fun e w' => e = .returned (.func (.func 140) #[] #[.pointer (some ⟨w.heap.size + 1, 0, none⟩), .pointer (some ⟨w.heap.size, 0, none⟩), .pointer (some ⟨w.heap.size + 1 + 1, 0, none⟩)]) ∧
   w' = ((w.alloc (.cells #[.string s] 9)).alloc (.cells #[.string ⟨#[32]⟩] 9)).alloc (.cells #[.int .i64 0] 3) := by
 go_enter Tryz.func92, Tryz.ntmps92
 go_wp2
 go_ret
 exact ⟨rfl, rfl⟩
def roundEnd (b0 bs b2 : Nat) (I Ix : List ByteArray → World → Prop) (xs : List ByteArray) (W : World) : Exit → Act → World → Prop
 | .normal, _, W' => KeepsOthers W W' ∧ (∀ k, k = b0 ∨ k = bs ∨ k = b2 → W'.heap[k]? = W.heap[k]?) ∧ I xs W'
 | .ret, _, W' => KeepsOthers W W' ∧ Ix xs W'
 | _, _, _ => False
theorem Boxes.of_blocks {b0 bs b2 : Nat} {W W' : World} {s : ByteArray} (h : Boxes b0 bs b2 W s) (hk : ∀ k, k = b0 ∨ k = bs ∨ k = b2 → W'.heap[k]? = W.heap[k]?) : Boxes b0 bs b2 W' s :=
 ⟨(hk b0 (.inl rfl)).trans h.sep, (hk bs (.inr (.inl rfl))).trans h.txt, (hk b2 (.inr (.inr rfl))).trans h.sav⟩
set_option maxRecDepth 100000 in
set_option maxHeartbeats 2000000 in
theorem range_split {pt : Tmp} {assign body : Code} {Q : Exit → Act → World → Prop} {a : Act} {w : World} {m : Nat} {g : Operand} (hm : 3 ≤ m) (b0 bs b2 : Nat)
  (hg : a.eval g = .func (.func 140) #[] #[.pointer (some ⟨b0, 0, none⟩), .pointer (some ⟨bs, 0, none⟩), .pointer (some ⟨b2, 0, none⟩)])
  (hne0 : b0 ≠ bs) (hne2 : b2 ≠ bs) (s : ByteArray) (hs : s.size ≤ 1000000) (hB : Boxes b0 bs b2 w s)
  (I Ix : List ByteArray → World → Prop) (hI : OwnFrom w.heap.size I) (hIx : OwnFrom w.heap.size Ix) (hIs : ∀ pre W v r, Boxes b0 bs b2 W r → I pre W → I pre (W.setCell ⟨bs, 0, none⟩ (.string v))) (h0 : I [] w) (dst : Tmp)
  (hassign : ∀ (l : Nat) (x : ByteArray) (W : World) (K : Act → World → Prop), K { tmps := (((#[pt] : Array Tmp).zip #[.string x]).foldl (fun t (p, v) => t.setIfInBounds p v) a.tmps).setIfInBounds dst (.string x), defers := [] } W →
   assign.wpIn (Fence.wide.inRound l) (m - 1 - 1) Tryz.prog (Exit.then K (fun _ _ _ => False)) { tmps := ((#[pt] : Array Tmp).zip #[.string x]).foldl (fun t (p, v) => t.setIfInBounds p v) a.tmps, defers := [] } W)
  (hbody : ∀ (l : Nat) (pre : List ByteArray) (x : ByteArray) (post : List ByteArray) (W : World) (r : ByteArray), Zbz s = pre ++ x :: post → Boxes b0 bs b2 W r → I pre W → body.wpIn (Fence.wide.inRound l) (m - 1 - 1) Tryz.prog (roundEnd b0 bs b2 I Ix (pre ++ [x]) W) { tmps := (((#[pt] : Array Tmp).zip #[.string x]).foldl (fun t (p, v) => t.setIfInBounds p v) a.tmps).setIfInBounds dst (.string x), defers := [] } W)
  (hdone : ∀ (D : Nat) (W : World), w.heap.size ≤ D → I (Zbz s) W → W.heap[D]? = some (.deferred (some [])) → Q .normal { a with defers := { target := .collected D, args := #[] } :: a.defers } W)
  (hstop : ∀ (D : Nat) (pre : List ByteArray) (x : ByteArray) (post : List ByteArray) (W : World), w.heap.size ≤ D → Zbz s = pre ++ x :: post → Ix (pre ++ [x]) W → W.heap[D]? = some (.deferred (some [])) → Code.ret.wpIn Fence.wide m Tryz.prog Q { a with defers := { target := .collected D, args := #[] } :: a.defers } W) :
  (Code.rangeFunc g #[pt] assign body).wpIn Fence.wide m Tryz.prog Q a w := by
 have l0 := Za3 hB.sep
 have ls := Za3 hB.txt
 have l2 := Za3 hB.sav
 refine wpIn_rangeFunc ?_
 intro fn hfn
 obtain ⟨rec, hrec⟩ : ∃ rec : LoopState → Option Code → Loop, rec = fun st pe => { state := st, pending := pe, fn, tmps := a.tmps, params := #[pt], assign, body, defers := w.heap.size } := ⟨_, rfl⟩
 obtain ⟨V, hV⟩ : ∃ V, (w.alloc (.deferred (some []))).alloc (.loop (rec .ready none)) = V := ⟨_, rfl⟩
 have vL : V.heap[w.heap.size + 1]? = some (.loop (rec .ready none)) := by
  rw [← hV]
  have := World.alloc_heap_new (w.alloc (.deferred (some []))) (.loop (rec .ready none))
  rwa [World.size_alloc] at this
 have vK : V.heap[w.heap.size]? = some (.deferred (some [])) := by
  rw [← hV]
  exact (Below.heap_alloc _ _ _ (by simp)).trans (World.alloc_heap_new w _)
 have vI : I [] V := by rw [← hV]; exact hI.alloc _ (hI.alloc _ h0)
 have vB : Boxes b0 bs b2 V s := by
  refine hB.of_blocks (fun k hk => ?_)
  rw [← hV]
  exact (Below.heap_alloc _ _ k (by simp; omega)).trans (Below.heap_alloc _ _ k (by omega))
 refine ⟨w.heap.size + 1, [{ target := .collected w.heap.size, args := #[] }], V, { target := .fn (.func 140) #[.pointer (some ⟨b0, 0, none⟩), .pointer (some ⟨bs, 0, none⟩), .pointer (some ⟨b2, 0, none⟩)], args := #[.func (.yield (w.heap.size + 1)) #[] #[]] }, V, 140,
  #[.func (.yield (w.heap.size + 1)) #[] #[], .pointer (some ⟨b0, 0, none⟩), .pointer (some ⟨bs, 0, none⟩), .pointer (some ⟨b2, 0, none⟩)], V, ?_, ?_, ?_, ?_, fun _ => by omega, ?_⟩
 ·rw [← hV, hrec]
  exact run_enterLoop_outer _ _ _ _ _
 ·simp only [resolve, hg]
  simp [go_sem]
 ·intro f' hf'
  exact trivial
 ·have eg := enters_of Tryz.func140 (by kernel_rfl) rfl
  simp [invoke, go_sem, eg]
 ·refine (split_iter (m - 1) (w.heap.size + 1) b0 bs b2 (by omega) hne0 hne2
   (fun pre W => I pre W ∧ W.heap[w.heap.size + 1]? = some (.loop (rec .ready none)) ∧ W.heap[w.heap.size]? = some (.deferred (some [])))
   (fun pre W => Ix pre W ∧ W.heap[w.heap.size + 1]? = some (.loop (rec .done (some .ret))) ∧ W.heap[w.heap.size]? = some (.deferred (some [])))
   s (fun pre W v r hr h => ⟨hIs _ _ _ _ hr h.1, (Below.heap_setCell W ⟨bs, 0, none⟩ _ _ (by show w.heap.size + 1 ≠ bs; omega)).trans h.2.1, (Below.heap_setCell W ⟨bs, 0, none⟩ _ _ (by show w.heap.size ≠ bs; omega)).trans h.2.2⟩)
   ?_ V hs vB ⟨vI, vL, vK⟩).mono ?_
  ·rintro pre x post W r hpart hbox ⟨hi, hl, hk⟩
   have hlt : w.heap.size + 1 < W.heap.size := (Array.getElem?_eq_some_iff.1 hl).1
   have hy := run_yield (P := Tryz.prog) (args := #[.string x]) hl (by rw [hrec]; rfl)
   rw [hrec] at hy
   refine ⟨fn, _, assign, body, hy, roundIn_of_wpIn hfn (hassign _ x W _ ⟨_, run_beginRound hl (by rw [hrec]), ?_⟩)⟩
   obtain ⟨X, hX⟩ : ∃ X, W.putObj (w.heap.size + 1) (.loop { rec .ready none with state := .busy }) = X := ⟨_, rfl⟩
   have xL : X.heap[w.heap.size + 1]? = some (.loop { rec .ready none with state := .busy }) := by rw [← hX]; exact World.putObj_heap_same hlt
   have xO : ∀ k, k ≠ w.heap.size + 1 → X.heap[k]? = W.heap[k]? := fun k hk => by rw [← hX]; exact World.putObj_heap_other hk
   have xI : I pre X := by rw [← hX]; exact hI.putObj _ hi (by omega) hl rfl
   rw [hX]
   refine wpIn_mono (hbody _ pre x post X r hpart (hbox.of_blocks (fun k hk' => xO k (by omega))) xI) ?_
   rintro e a3 Y hp
   cases e with
   | normal =>
    obtain ⟨hk3, hb3, hi3⟩ := hp
    have yL := hk3.same _ _ xL rfl
    have yK := hk3.same _ _ ((xO _ (by omega)).trans hk) rfl
    have hr := run_endRound (P := Tryz.prog) none yL
    have zL : (Y.putObj (w.heap.size + 1) (.loop (rec .ready none))).heap[w.heap.size + 1]? = some (.loop (rec .ready none)) := World.putObj_heap_same (Array.getElem?_eq_some_iff.1 yL).1
    rw [hrec] at hr
    refine ⟨_, _, hr, .inl ⟨rfl, ⟨hI.putObj _ hi3 (by omega) yL rfl, ?_, (World.putObj_heap_other (by omega)).trans yK⟩, fun s' hs' => hs'.of_blocks (fun k hk' => ?_)⟩⟩
    ·rw [hrec] at zL ⊢
     exact zL
    ·refine (World.putObj_heap_other (by omega)).trans ((hb3 k hk').trans (xO k (by omega)))
   | ret =>
    obtain ⟨hk3, hi3⟩ := hp
    have yL := hk3.same _ _ xL rfl
    have yK := hk3.same _ _ ((xO _ (by omega)).trans hk) rfl
    have hr := run_endRound (P := Tryz.prog) (some .ret) yL
    have zL : (Y.putObj (w.heap.size + 1) (.loop (rec .done (some .ret)))).heap[w.heap.size + 1]? = some (.loop (rec .done (some .ret))) := World.putObj_heap_same (Array.getElem?_eq_some_iff.1 yL).1
    rw [hrec] at hr
    refine ⟨_, _, hr, .inr ⟨rfl, hIx.putObj _ hi3 (by omega) yL rfl, ?_, (World.putObj_heap_other (by omega)).trans yK⟩⟩
    rw [hrec] at zL ⊢
    exact zL
   | exit id => exact hp.elim
   | goto t => exact hp.elim
   | panic ch => exact hp.elim
   | outgrown => exact hp.elim
  ·rintro e Y ⟨⟨v, rfl⟩, (⟨hi, hl, hk⟩ | ⟨pre, x, post, hp, hi, hl, hk⟩)⟩
   ·have he := run_endLoop (P := Tryz.prog) hl (by rw [hrec]; simp)
    rw [hrec] at he
    exact ⟨none, _, he, hdone _ _ (Nat.le_refl _) (hI.putObj _ hi (by omega) hl rfl) ((World.putObj_heap_other (by omega)).trans hk)⟩
   ·have he := run_endLoop (P := Tryz.prog) hl (by rw [hrec]; simp)
    rw [hrec] at he
    exact ⟨some .ret, _, he, hstop _ pre x post _ (Nat.le_refl _) hp (hIx.putObj _ hi (by omega) hl rfl) ((World.putObj_heap_other (by omega)).trans hk)⟩
end Go.Proofs.YtodbabeldolcbaaGreatDoor.PA
end
