/- The Go function record.Check returns what checkR says. Conditions: the program's tables read as they were laid (GT 2); no name of a pair is longer than 100000 bytes. -/
import Derived.Test.YtkfddpbmclbdhaaDoorZAEKind
import Derived.Test.YtkfddpbmclbdhaaDoorZAVPair
namespace Go.Proofs.YtkfddpbmclbdhaaDoor.PA
open Go.RowKit Go.Proofs.YtkfddpbmclbdhaaDoorW.PrintWords Go.Proofs.YtkfddpbmclbdhaaDoorW.PrintLast Go.Proofs.YtkfddpbmclbdhaaDoorW.PrintMore Go.Proofs.YtkfddpbmclbdhaaDoor.M0
set_option linter.unusedVariables false
set_option linter.unusedSimpArgs false
def hasN (l : List S31) (nm : ByteArray) : Bool := l.any fun p => decide (p.f0 = nm)
theorem hasN_take (l : List S31) (nm : ByteArray) (k : Nat) (hk : k < l.length) : hasN (l.take (k + 1)) nm = (hasN (l.take k) nm || decide ((Zbb l (k : Int)).f0 = nm)) := by
  unfold hasN Zbb
  rw [List.take_succ_eq_append_getElem hk, List.any_append, List.getD_eq_getElem?_getD, Int.toNat_natCast, List.getElem?_eq_getElem hk]
  simp
theorem hasN_of {l : List S31} {nm : ByteArray} {k : Nat} (hk : k < l.length) (h : (Zbb l (k : Int)).f0 = nm) : hasN l nm = true := by
  unfold hasN
  rw [List.any_eq_true]
  refine ⟨l[k], List.getElem_mem hk, ?_⟩
  unfold Zbb at h
  rw [List.getD_eq_getElem?_getD, Int.toNat_natCast, List.getElem?_eq_getElem hk] at h
  exact decide_eq_true h
set_option maxRecDepth 100000 in
theorem clo120 (s : ByteArray) (n1 n2 : Int) (t : ByteArray) (nm : ByteArray) (x : Nat) (w : World) (hx : w.cell? ⟨x, 0, none⟩ = some (.string nm)) :
    Calls Tryd.prog 120 #[.agg #[.string s, .int .i64 n1, .int .i64 n2, .string t], .pointer (some ⟨x, 0, none⟩)] w fun e w' => e = .returned (.bool (decide (s = nm))) ∧ Below w.heap.size w w' := by
  have hlt := block_lt_of_cell hx
  have HB := Zaa.mk (Below.refl w.heap.size w)
  go_enter Tryd.func120, Tryd.ntmps120
  go_wp2
  go_ret
  exact ⟨by rw [← str_beq]; rfl, by repeat (first | (with_reducible first | exact HB.out | apply Zam | apply Zan | apply Zaq) | exact HB.out)⟩
set_option maxHeartbeats 1000000 in
set_option maxRecDepth 100000 in
theorem index120 (A : Option Addr) (n c : Nat) (l : List S31) (nm : ByteArray) (x : Nat) (w : World) (hn : l.length = n) (hr : Kd.C k31 w A l.length l) (hc : l.length ≤ c) (hx : w.cell? ⟨x, 0, none⟩ = some (.string nm)) :
    Calls Tryd.prog 140 #[.slice A n c, .func (.func 120) #[] #[.pointer (some ⟨x, 0, none⟩)]] w fun e w' => ∃ i : Int, e = .returned (.int .i64 i) ∧ hasN l nm = decide (0 ≤ i) ∧ Below w.heap.size w w' := by
  subst hn
  have hlt := block_lt_of_cell hx
  have HB := Zaa.mk (Below.refl w.heap.size w)
  have HR := Zaa.mk hr
  have hmx := Kd.C_max hr
  clear hr
  go_enter Tryd.func140, Tryd.ntmps140
  go_wp2
  go_loopw [8] (fun v8 wr => ∃ k : Nat, k ≤ l.length ∧ v8 = .int .i64 (k : Int) ∧ Zaa (hasN (l.take k) nm = false) ∧ Zaa (Below w.heap.size w wr)) (fun v8 _ => l.length - (intOf v8).toNat)
  case atStart => exact ⟨0, by omega, rfl, ⟨rfl⟩, HB⟩
  case round =>
    clear HB
    obtain ⟨k, hk, rfl, HN, HB⟩ := hrel
    by_cases hlt10 : k < l.length
    · obtain ⟨ad, rfl, c0, c1, c2, c3⟩ := at_T31 (Kd.C_below HR.out HB.out) (k : Int) (by omega) (by omega)
      have HT := Zaa.mk (hasN_take l nm k hlt10)
      have HO := Zaa.mk (hasN_of (l := l) (nm := nm) hlt10)
      have hxr : wr.cell? ⟨x, 0, none⟩ = some (.string nm) := (HB.out.cell hlt).trans hx
      simp only [Int.toNat_natCast] at c0 c1 c2 c3
      generalize Zbb l (k : Int) = p at *
      obtain ⟨p0, p1, p2, p3⟩ := p
      simp only at c0 c1 c2 c3 HT HO
      go_wp2_with (go_at_call 120; refine (clo120 _ _ _ _ nm x _ hxr).mono ?_; rintro e w' ⟨rfl, hb⟩)
      · have hf := HO.out (by assumption)
        go_ret
        exact ⟨_, rfl, by rw [hf]; exact (decide_eq_true (by omega)).symm, Zaf HB.out hb⟩
      · have hf := HT.out
        rw [HN.out, decide_eq_false (by assumption)] at hf
        have HN' := Zaa.mk hf
        have HB' := Zaa.mk (Zaf HB.out hb)
        go_roundw
        case rel => exact ⟨k + 1, by omega, by go_num, HN', HB'⟩
        case measure => simp [intOf]; omega
    · obtain rfl : k = l.length := by omega
      have hf := HN.out
      rw [List.take_length] at hf
      go_wp2
      go_ret
      exact ⟨_, rfl, by rw [hf]; rfl, HB.out⟩
set_option maxHeartbeats 1000000 in
set_option maxRecDepth 100000 in
theorem contains120 (A : Option Addr) (n c : Nat) (l : List S31) (nm : ByteArray) (x : Nat) (w : World) (hn : l.length = n) (hr : Kd.C k31 w A l.length l) (hc : l.length ≤ c) (hx : w.cell? ⟨x, 0, none⟩ = some (.string nm)) :
    Calls Tryd.prog 119 #[.slice A n c, .func (.func 120) #[] #[.pointer (some ⟨x, 0, none⟩)]] w fun e w' => e = .returned (.bool (hasN l nm)) ∧ Below w.heap.size w w' := by
  have HC := Zaa.mk (index120 A n c l nm x w hn hr hc hx)
  clear hr hx
  go_enter Tryd.func119, Tryd.ntmps119
  go_wp2_with (go_at_call 140; refine (HC.out).mono ?_; rintro e w' ⟨i, rfl, hh, hb⟩)
  go_ret
  exact ⟨by rw [hh]; rfl, hb⟩
def nameK (t : Int) : ByteArray := strOf (kindF fun k => k.2.1 == t).1
def pairsI : List S31 → List S31 → Int
  | _, [] => 0
  | done, p :: rest => if checkI (L p.f0) p.f1 p.f2 (L p.f3) = 0 then (if hasN done p.f0 then 33 else pairsI (done ++ [p]) rest) else checkI (L p.f0) p.f1 p.f2 (L p.f3)
def checkR (t tm sr : Int) (l : List S31) : Int :=
  if nameK t = ⟨#[]⟩ then 30 else if tm < 0 then 31 else if 1099511627776 < tm then 31 else if sr < 0 then 31 else if 1073741824 < sr then 31 else if 24 < l.length then 32 else pairsI [] l
def shortN (l : List S31) : Bool := l.all fun p => decide (p.f0.size ≤ 100000)
def record_Check.f (a0_0 : Int) (a0_1 : Int) (a0_2 : Int) (l0_3 : List (S31)) : Option Int := if shortN l0_3 = true then some (checkR a0_0 a0_1 a0_2 l0_3) else none
theorem shortN_at {l : List S31} (h : shortN l = true) {k : Nat} (hk : k < l.length) : (Zbb l (k : Int)).f0.size ≤ 100000 := by
  unfold shortN at h
  rw [List.all_eq_true] at h
  have := h l[k] (List.getElem_mem hk)
  unfold Zbb
  rw [List.getD_eq_getElem?_getD, Int.toNat_natCast, List.getElem?_eq_getElem hk]
  exact of_decide_eq_true this
theorem pairsI_at (l : List S31) (k : Nat) (hk : k < l.length) : pairsI (l.take k) (l.drop k) = (if checkI (L (Zbb l (k : Int)).f0) (Zbb l (k : Int)).f1 (Zbb l (k : Int)).f2 (L (Zbb l (k : Int)).f3) = 0 then (if hasN (l.take k) (Zbb l (k : Int)).f0 then 33 else pairsI (l.take (k + 1)) (l.drop (k + 1))) else checkI (L (Zbb l (k : Int)).f0) (Zbb l (k : Int)).f1 (Zbb l (k : Int)).f2 (L (Zbb l (k : Int)).f3)) := by
  have e : Zbb l (k : Int) = l[k] := by
    unfold Zbb
    rw [List.getD_eq_getElem?_getD, Int.toNat_natCast, List.getElem?_eq_getElem hk]
    rfl
  rw [List.drop_eq_getElem_cons hk, pairsI, e, List.take_succ_eq_append_getElem hk]
theorem name_bool (t : Int) : ((nameK t).toList == ([] : List UInt8)) = decide (nameK t = ⟨#[]⟩) := by
  rw [← str_beq, toList_L ⟨#[]⟩]; rfl
theorem ret_i64 {a b : Int} (h : a = b) : Ending.returned (.int .i64 a) = .returned (.int .i64 b) := by rw [h]
set_option maxHeartbeats 4000000 in
set_option maxRecDepth 100000 in
theorem record_Check.calls (a0_0 : Int) (a0_1 : Int) (a0_2 : Int) (A0_3 : Option Addr) (c0_3 : Nat) (l0_3 : List (S31)) (r : Int) (w : World) (hG : GT 2 w) (hr0_3 : Kd.C k31 w A0_3 l0_3.length l0_3) (hc0_3 : l0_3.length ≤ c0_3) (h : record_Check.f a0_0 a0_1 a0_2 l0_3 = some r) :
    Calls Tryd.prog 82 #[.agg #[.int .i64 a0_0, .int .i64 a0_1, .int .i64 a0_2, .slice A0_3 l0_3.length c0_3]] w fun e w' => e = .returned (.int .i64 r) ∧ Below w.heap.size w w' := by
  unfold record_Check.f at h
  by_cases hs : shortN l0_3 = true
  case neg => rw [if_neg hs] at h; cases h
  rw [if_pos hs] at h
  have h := Option.some.inj h
  have HS := Zaa.mk hs
  have HR := Zaa.mk hr0_3
  have hmx := Kd.C_max hr0_3
  have HG := Zaa.mk (show ∀ o, GT 2 (w.alloc o) from fun o => GT.below (Nat.le_refl 2) hG (Zam (Below.refl _ _) o))
  have HB0 := Zaa.mk (show ∀ o, Below w.heap.size w (w.alloc o) from fun o => Zam (Below.refl _ _) o)
  have HC := Zaa.mk (blk_new w (.cells #[.int .i64 a0_0, .int .i64 a0_1, .int .i64 a0_2, .slice A0_3 l0_3.length c0_3] 43))
  have hz : (w.alloc (.cells #[.int .i64 a0_0, .int .i64 a0_1, .int .i64 a0_2, .slice A0_3 l0_3.length c0_3] 43)).cell? ⟨w.heap.size, 0, none⟩ = some (.int .i64 a0_0) := (Zai HC.out 0).trans rfl
  clear hs hr0_3 hG
  unfold checkR at h
  obtain ⟨nb, hnb⟩ : ∃ nb, nb = nameK a0_0 := ⟨_, rfl⟩
  have HN := Zaa.mk (name_bool a0_0)
  rw [← hnb] at h HN
  have HE := Zaa.mk (show nb.toList.isEmpty = decide (nb = ⟨#[]⟩) from HN.out ▸ by cases nb.toList <;> rfl)
  have HNB := Zaa.mk (show record_Name.f a0_0 = some nb by rw [hnb]; rfl)
  clear hnb
  have HH := Zaa.mk h
  clear h
  go_enter Tryd.func82, Tryd.ntmps82
  go_wp2_with (go_at_call 41; refine (record_Name.calls a0_0 nb _ (HG.out _) HNB.out).mono ?_; rintro e w' ⟨rfl, hb⟩; have HC2 := Zaa.mk (Zah HC.out hb); have z0 : w'.cell? ⟨w.heap.size, 0, none⟩ = some (.int .i64 a0_0) := (Zai HC2.out 0).trans rfl; have z1 : w'.cell? ⟨w.heap.size, 1, none⟩ = some (.int .i64 a0_1) := (Zai HC2.out 1).trans rfl; have z2 : w'.cell? ⟨w.heap.size, 2, none⟩ = some (.int .i64 a0_2) := (Zai HC2.out 2).trans rfl; have z3 : w'.cell? ⟨w.heap.size, 3, none⟩ = some (.slice A0_3 l0_3.length c0_3) := (Zai HC2.out 3).trans rfl; have HB := Zaa.mk (Zaf (HB0.out _) hb); clear hb)
  · have hne := HE.out
    rw [show nb.toList.isEmpty = true by assumption] at hne
    have hh := HH.out
    rw [if_pos (of_decide_eq_true hne.symm)] at hh
    go_ret
    exact ⟨ret_i64 hh, HB.out⟩
  all_goals
    have hne := HE.out
    rw [show nb.toList.isEmpty = false by assumption] at hne
    have hh := HH.out
    rw [if_neg (of_decide_eq_false hne.symm)] at hh
    clear HH HE hne HNB
  · go_ret
    exact ⟨ret_i64 (by (repeat' split at hh) <;> omega), HB.out⟩
  · go_ret
    exact ⟨ret_i64 (by (repeat' split at hh) <;> omega), HB.out⟩
  · have HP := Zaa.mk (show pairsI [] l0_3 = r by (repeat' split at hh) <;> first | omega | exact hh)
    clear hh z0 z1 z2 z3 hz HB0
    have HBl := Zaa.mk (show w.heap.size < w'.heap.size from Za1 HC2.out)
    clear HC
    go_loopw [38] (fun v38 wr => ∃ i : Nat, i ≤ l0_3.length ∧ v38 = .int .i64 (i : Int) ∧ Zaa (pairsI (l0_3.take i) (l0_3.drop i) = r) ∧ Zaa (wr.heap[w.heap.size]? = some (.cells #[.int .i64 a0_0, .int .i64 a0_1, .int .i64 a0_2, .slice A0_3 l0_3.length c0_3] 43 (0, 0))) ∧ Zaa (Below w.heap.size w wr)) (fun v38 _ => l0_3.length - (intOf v38).toNat)
    case atStart => exact ⟨0, by omega, rfl, HP, HC2, HB⟩
    case round =>
      clear HP HC2 HB HBl
      obtain ⟨i, hi, rfl, HP, HC, HB⟩ := hrel
      by_cases hlt : i < l0_3.length
      · obtain ⟨ad, rfl, e0, e1, e2, e3⟩ := at_T31 (Kd.C_below HR.out HB.out) (i : Int) (by omega) (by omega)
        have HI := Zaa.mk (pairsI_at l0_3 i hlt)
        have HZ := Zaa.mk (shortN_at HS.out hlt)
        simp only [Int.toNat_natCast] at e0 e1 e2 e3
        generalize Zbb l0_3 (i : Int) = p at *
        obtain ⟨p0, p1, p2, p3⟩ := p
        simp only at e0 e1 e2 e3 HI HZ
        obtain ⟨ck, hck⟩ : ∃ ck, ck = checkI (L p0) p1 p2 (L p3) := ⟨_, rfl⟩
        rw [← hck] at HI
        have HV := Zaa.mk (show value_Check.f (p0.size + 2) p0 p1 p2 p3 = some ck by rw [hck]; exact value_Check_run p0 p1 p2 p3 HZ.out _ (by omega))
        clear hck
        have HL := Zaa.mk (Nat.ne_of_lt (Za1 HC.out))
        have GE := Zaa.mk HB.out.size
        have HTk := Zaa.mk (show (l0_3.take i).length = i by rw [List.length_take]; omega)
        go_wp2_with (first
          | (go_at_call 26; refine (value_Check.calls _ p0 p1 p2 p3 ck _ HV.out).mono ?_; rintro e w2 ⟨rfl, hb⟩
             have hHC := Zah (g := w.heap.size) (o := .cells #[.int .i64 a0_0, .int .i64 a0_1, .int .i64 a0_2, .slice (some ad) l0_3.length c0_3] 43 (0, 0)) (Zab HC.out _) hb
             have hPC := Zah (g := wr.heap.size) (blk_new _ _) hb
             have HB2 := Zaa.mk (Zaf (Zam HB.out _) hb)
             have z3 : w2.cell? ⟨w.heap.size, 3, none⟩ = some (.slice (some ad) l0_3.length c0_3) := (Zai hHC 3).trans rfl
             have x0 : w2.cell? ⟨wr.heap.size, 0, none⟩ = some (.string p0) := (Zai hPC 0).trans rfl
             have HC2 := Zaa.mk hHC
             have HX := Zaa.mk x0
             clear hb hHC hPC)
          | (go_at_call 119; refine (contains120 (some ad) i c0_3 (l0_3.take i) p0 wr.heap.size _ HTk.out (Kd.C_take (Kd.C_below HR.out HB2.out) hi) (by rw [HTk.out]; omega) HX.out).mono ?_; rintro e w3 ⟨rfl, hb⟩; have HC3 := Zaa.mk (Zah HC2.out hb); have HB3 := Zaa.mk (Zaf HB2.out hb); clear hb))
        · have hck : ck ≠ 0 := by have hq : (ck != 0) = true := by assumption
                                  simpa using hq
          have hh := HI.out
          rw [HP.out, if_neg hck] at hh
          go_ret
          exact ⟨ret_i64 hh.symm, HB2.out⟩
        · have hck : ck = 0 := by have hq : (ck != 0) = false := by assumption
                                  simpa using hq
          have hh := HI.out
          rw [HP.out, if_pos hck, if_pos (by assumption)] at hh
          go_ret
          exact ⟨ret_i64 hh.symm, HB3.out⟩
        · have hck : ck = 0 := by have hq : (ck != 0) = false := by assumption
                                  simpa using hq
          have hh := HI.out
          rw [HP.out, if_pos hck, if_neg (by rw [show hasN (l0_3.take i) p0 = false by assumption]; simp)] at hh
          have HP' := Zaa.mk hh.symm
          go_roundw
          case rel => exact ⟨i + 1, by omega, by go_num, HP', HC3, HB3⟩
          case measure => simp [intOf]; omega
      · obtain rfl : i = l0_3.length := by omega
        have hh := HP.out
        rw [List.drop_length] at hh
        go_wp2
        go_ret
        exact ⟨ret_i64 (show (0 : Int) = r from hh ▸ (by unfold pairsI; rfl)), HB.out⟩
  · go_ret
    exact ⟨ret_i64 (by (repeat' split at hh) <;> omega), HB.out⟩
  · go_ret
    exact ⟨ret_i64 (by (repeat' split at hh) <;> omega), HB.out⟩
  · go_ret
    exact ⟨ret_i64 (by (repeat' split at hh) <;> omega), HB.out⟩
end Go.Proofs.YtkfddpbmclbdhaaDoor.PA
