/- The Go function record.Format returns what checkR and lineL say. Conditions: the program's tables read as they were laid (GT 2); no name of a pair is longer than 100000 bytes; the numbers are of type int. -/
import Derived.Test.YtkfddpbmclbdhaaDoorZAECheck
import Derived.Test.YtkfddpbmclbdhaaDoorZAEBuild
namespace Go.Proofs.YtkfddpbmclbdhaaDoor.PA
open Go.RowKit Go.Proofs.YtkfddpbmclbdhaaDoorW.PrintWords Go.Proofs.YtkfddpbmclbdhaaDoorW.PrintLast Go.Proofs.YtkfddpbmclbdhaaDoorW.PrintMore Go.Proofs.YtkfddpbmclbdhaaDoor.M0
set_option linter.unusedVariables false
set_option linter.unusedSimpArgs false
def headL (t tm sr : Int) : List UInt8 :=
  [116, 121, 112, 101, 61] ++ L (nameK t) ++ [32, 109, 115, 103, 61, 97, 117, 100, 105, 116, 40] ++ Lib.itoa (Int.tdiv tm 1000) ++ [46] ++ (Lib.itoa (1000 + Int.tmod tm 1000)).drop 1 ++ [58] ++ Lib.itoa sr ++ [41, 58]
def restL (l : List S31) : List UInt8 := l.flatMap fun p => 32 :: formL (L p.f0) p.f1 p.f2 (L p.f3)
def lineL (t tm sr : Int) (l : List S31) : List UInt8 := headL t tm sr ++ restL l
def numsOK (l : List S31) : Bool := l.all fun p => decide (-9223372036854775808 ≤ p.f2) && decide (p.f2 ≤ 9223372036854775807)
def formatR (t tm sr : Int) (l : List S31) : ByteArray × Int := if checkR t tm sr l = 0 then (⟨(lineL t tm sr l).toArray⟩, 0) else (⟨#[]⟩, checkR t tm sr l)
def record_Format.f (a0_0 : Int) (a0_1 : Int) (a0_2 : Int) (l0_3 : List (S31)) : Option (ByteArray × Int) :=
  if (shortN l0_3 && numsOK l0_3) = true then some (formatR a0_0 a0_1 a0_2 l0_3) else none
theorem bld_below {T e : TypeId} {B b : Nat} {bs : List Value} {w w' : World} (h : Lib.IsBuilder T e B b bs w) (hb : Below w.heap.size w w') : Lib.IsBuilder T e B b bs w' := by
  have key : ∀ p, Lib.BuilderAt T e B b p bs w → Lib.BuilderAt T e B b p bs w' := by
    rintro p ⟨hB, v, hv, hown, hne⟩
    refine ⟨hB, v, Zah hv hb, hown.kept (row := none) ⟨hb.os, hb.tape, hb.output, hb.size, fun k hk _ => hb.block k hk⟩ ?_, hne⟩
    cases v.ownBlock with
    | none => exact .inl rfl
    | some k => exact .inr (by simp)
  rcases h with h | h
  · exact .inl (key _ h)
  · exact .inr (key _ h)
theorem cells_str (s : ByteArray) : Lib.strCells s = Lib.byteCells (L s) := rfl
theorem byteCells_app (a b : List UInt8) : Lib.byteCells a ++ Lib.byteCells b = Lib.byteCells (a ++ b) := by simp [Lib.byteCells]
theorem checkR_ok {t tm sr : Int} {l : List S31} (h : checkR t tm sr l = 0) : 0 ≤ tm ∧ tm ≤ 1099511627776 ∧ 0 ≤ sr ∧ sr ≤ 1073741824 ∧ l.length ≤ 24 ∧ pairsI [] l = 0 := by
  unfold checkR at h
  by_cases h0 : nameK t = ⟨#[]⟩
  · rw [if_pos h0] at h; omega
  rw [if_neg h0] at h
  by_cases h1 : tm < 0
  · rw [if_pos h1] at h; omega
  rw [if_neg h1] at h
  by_cases h2 : 1099511627776 < tm
  · rw [if_pos h2] at h; omega
  rw [if_neg h2] at h
  by_cases h3 : sr < 0
  · rw [if_pos h3] at h; omega
  rw [if_neg h3] at h
  by_cases h4 : 1073741824 < sr
  · rw [if_pos h4] at h; omega
  rw [if_neg h4] at h
  by_cases h5 : 24 < l.length
  · rw [if_pos h5] at h; omega
  rw [if_neg h5] at h
  exact ⟨by omega, by omega, by omega, by omega, by omega, h⟩
theorem itoa_run (n : Int) (h0 : -9223372036854775808 ≤ n) (h1 : n ≤ 9223372036854775807) : strconv_Itoa.f n = some ⟨(Lib.itoa n).toArray⟩ := by
  unfold strconv_Itoa.f; rw [if_pos ⟨h0, h1⟩]
theorem itoa_ne (n : Int) : 1 ≤ (Lib.itoa n).length := by
  unfold Lib.itoa
  split
  · simp
  · rw [Lib.decDigits_length]; exact Lib.nDigits_pos _
theorem tmod1000 (tm : Int) (h : 0 ≤ tm) : 0 ≤ Int.tmod tm 1000 ∧ Int.tmod tm 1000 < 1000 := by
  have h1 := Int.tmod_lt_of_pos tm (show (0 : Int) < 1000 by decide)
  have h2 := Int.tmod_nonneg (a := tm) 1000 h
  exact ⟨h2, h1⟩
def record_Format.T : Bool × List (List Nat × List Nat) := (true, [([], []), ([0], [0]), ([1], [1]), ([2], [2]), ([3], [3]), ([], []), ([5], [5]), ([6], [6]), ([7, 2], [7]), ([4, 8], [4, 8]), ([9], [9]), ([], []), ([10, 11], [10, 11]), ([12], [12]), ([], []), ([14], [14]), ([15, 8], [15]), ([13, 16], [13, 16]), ([17], [17]), ([18, 16], [18])])
def record_Format.B : List Nat := [0, 1, 3, 7, 15, 0, 32, 96, 231, 511, 1023, 0, 4095, 8191, 0, 16384, 49639, 131071, 262143, 524287]
theorem record_Format.tab : rtab .any (opsOf Tryd.f35 6) = record_Format.T := by kernel_rfl
theorem record_Format.bits : waitsOk record_Format.T.2 record_Format.B = true := by kernel_rfl
theorem write_stringN (B b : Nat) (bs : List Value) (s : ByteArray) (w : World) (h : Lib.IsBuilder 111 5 B b bs w) (hlen : bs.length + s.size ≤ 140737488355328) (hBw : B ≤ w.heap.size) :
    Calls Tryd.prog 84 #[.pointer (some ⟨b, 0, none⟩), .string s] w fun e w' => ∃ nv : Int, e = .returned (.tuple #[.int .i64 nv, .nilIface]) ∧ (Lib.BuilderAt 111 5 B b (.pointer (some ⟨b, 0, none⟩)) (bs ++ Lib.strCells s) w' ∧ Below B w w') :=
  (write_string B b bs s w h hlen hBw).mono fun e w' h => ⟨_, h⟩
theorem rd_get {l : List S31} {k : Nat} (hk : k < l.length) : Zbb l (k : Int) = l[k] := by
  unfold Zbb
  rw [List.getD_eq_getElem?_getD, Int.toNat_natCast, List.getElem?_eq_getElem hk]
  rfl
theorem restL_take (l : List S31) (k : Nat) (hk : k < l.length) : restL (l.take (k + 1)) = restL (l.take k) ++ 32 :: formL (L (Zbb l (k : Int)).f0) (Zbb l (k : Int)).f1 (Zbb l (k : Int)).f2 (L (Zbb l (k : Int)).f3) := by
  rw [rd_get hk, List.take_succ_eq_append_getElem hk]
  simp only [restL, List.flatMap_append, List.flatMap_cons, List.flatMap_nil, List.append_nil]
theorem numsOK_at {l : List S31} (h : numsOK l = true) {k : Nat} (hk : k < l.length) : -9223372036854775808 ≤ (Zbb l (k : Int)).f2 ∧ (Zbb l (k : Int)).f2 ≤ 9223372036854775807 := by
  unfold numsOK at h
  rw [List.all_eq_true] at h
  have := h l[k] (List.getElem_mem hk)
  rw [Bool.and_eq_true] at this
  rw [rd_get hk]
  exact ⟨of_decide_eq_true this.1, of_decide_eq_true this.2⟩
theorem pairsI_all : ∀ (l d : List S31), pairsI d l = 0 → ∀ p ∈ l, checkI (L p.f0) p.f1 p.f2 (L p.f3) = 0
  | [], _, _, p, hp => by cases hp
  | q :: l, d, h, p, hp => by
    unfold pairsI at h
    by_cases hc : checkI (L q.f0) q.f1 q.f2 (L q.f3) = 0
    · rw [if_pos hc] at h
      by_cases hn : hasN d q.f0 = true
      · rw [if_pos hn] at h; omega
      · rw [if_neg hn] at h
        rcases List.mem_cons.1 hp with rfl | hp
        · exact hc
        · exact pairsI_all l _ h p hp
    · rw [if_neg hc] at h; exact absurd h hc
theorem pairsI_zero {l : List S31} (h : pairsI [] l = 0) (k : Nat) (hk : k < l.length) : checkI (L (Zbb l (k : Int)).f0) (Zbb l (k : Int)).f1 (Zbb l (k : Int)).f2 (L (Zbb l (k : Int)).f3) = 0 := by
  rw [rd_get hk]
  exact pairsI_all l [] h _ (List.getElem_mem hk)
theorem nameL_len {l : List UInt8} (h : nameL l = true) : l.length ≤ 16 := by
  unfold nameL at h
  simp only [Bool.and_eq_true, decide_eq_true_eq] at h
  exact h.2.2
theorem formL_len {n t : List UInt8} {a1 a2 : Int} (h : checkI n a1 a2 t = 0) (h0 : -9223372036854775808 ≤ a2) (h1 : a2 ≤ 9223372036854775807) : (formL n a1 a2 t).length ≤ 1400 := by
  obtain ⟨hn, _, _, _, _, ht⟩ := checkI_ok h
  have h2 := nameL_len hn
  have h3 := itoa_size a2 h0 h1
  have h4 := quoteL_length t
  unfold formL valueL
  rw [List.length_append, List.length_cons]
  split
  · omega
  · split
    · omega
    · simp only [List.length_cons, List.length_nil]; omega
theorem restL_len1 : ∀ l : List S31, (∀ p ∈ l, (formL (L p.f0) p.f1 p.f2 (L p.f3)).length ≤ 1400) → (restL l).length ≤ 1401 * l.length
  | [], _ => by simp [restL]
  | p :: l, h => by
    have h1 := h p (List.mem_cons_self ..)
    have h2 := restL_len1 l (fun q hq => h q (List.mem_cons_of_mem _ hq))
    have e : restL (p :: l) = (32 :: formL (L p.f0) p.f1 p.f2 (L p.f3)) ++ restL l := by simp [restL]
    rw [e, List.length_append, List.length_cons, List.length_cons]
    omega
theorem restL_len (l : List S31) (h : pairsI [] l = 0) (hw : numsOK l = true) (k : Nat) : (restL (l.take k)).length ≤ 1401 * l.length := by
  have h1 := restL_len1 (l.take k) (fun p hp => by
    have hm := List.mem_of_mem_take hp
    unfold numsOK at hw
    rw [List.all_eq_true] at hw
    have hb := hw p hm
    rw [Bool.and_eq_true] at hb
    exact formL_len (pairsI_all l [] h p hm) (of_decide_eq_true hb.1) (of_decide_eq_true hb.2))
  have h2 : (l.take k).length ≤ l.length := by rw [List.length_take]; omega
  have h3 : 1401 * (l.take k).length ≤ 1401 * l.length := Nat.mul_le_mul_left _ h2
  omega
theorem bld_lt {T e : TypeId} {B b : Nat} {bs : List Value} {w : World} (h : Lib.IsBuilder T e B b bs w) : b < w.heap.size := h.elim (fun h => h.lt) (fun h => h.lt)
theorem name_le (t : Int) : (nameK t).size ≤ 8 := by
  have key : ∀ k : Fin 10, (strOf (Zbk k.val).1).size ≤ 8 := by decide +kernel
  unfold nameK
  rcases idx_cases (fun k => k.2.1 == t) with ⟨k, hk, _, h⟩ | ⟨_, h⟩
  · rw [h]; exact key ⟨k, hk⟩
  · rw [h]; decide
set_option maxHeartbeats 4000000 in
set_option maxRecDepth 100000 in
theorem record_Format.calls (a0_0 : Int) (a0_1 : Int) (a0_2 : Int) (A0_3 : Option Addr) (c0_3 : Nat) (l0_3 : List (S31)) (r1 : ByteArray) (r2 : Int) (w : World) (hG : GT 2 w) (hr0_3 : Kd.C k31 w A0_3 l0_3.length l0_3) (hc0_3 : l0_3.length ≤ c0_3) (h : record_Format.f a0_0 a0_1 a0_2 l0_3 = some (r1, r2)) :
    Calls Tryd.prog 35 #[.agg #[.int .i64 a0_0, .int .i64 a0_1, .int .i64 a0_2, .slice A0_3 l0_3.length c0_3]] w fun e w' => e = .returned (.tuple #[.string r1, .int .i64 r2]) ∧ Below w.heap.size w w' := by
  unfold record_Format.f at h
  by_cases hs : (shortN l0_3 && numsOK l0_3) = true
  case neg => rw [if_neg hs] at h; cases h
  rw [if_pos hs] at h
  have h := Option.some.inj h
  rw [Bool.and_eq_true] at hs
  have HS := Zaa.mk hs
  have HR := Zaa.mk hr0_3
  have hmx := Kd.C_max hr0_3
  have HG := Zaa.mk (show ∀ o, GT 2 (w.alloc o) from fun o => GT.below (Nat.le_refl 2) hG (Zam (Below.refl _ _) o))
  have HG00 := Zaa.mk hG
  have HB0 := Zaa.mk (show ∀ o, Below w.heap.size w (w.alloc o) from fun o => Zam (Below.refl _ _) o)
  have HC := Zaa.mk (blk_new w (.cells #[.int .i64 a0_0, .int .i64 a0_1, .int .i64 a0_2, .slice A0_3 l0_3.length c0_3] 43))
  have hz0 : (w.alloc (.cells #[.int .i64 a0_0, .int .i64 a0_1, .int .i64 a0_2, .slice A0_3 l0_3.length c0_3] 43)).cell? ⟨w.heap.size, 0, none⟩ = some (.int .i64 a0_0) := (Zai HC.out 0).trans rfl
  have hz1 : (w.alloc (.cells #[.int .i64 a0_0, .int .i64 a0_1, .int .i64 a0_2, .slice A0_3 l0_3.length c0_3] 43)).cell? ⟨w.heap.size, 1, none⟩ = some (.int .i64 a0_1) := (Zai HC.out 1).trans rfl
  have hz2 : (w.alloc (.cells #[.int .i64 a0_0, .int .i64 a0_1, .int .i64 a0_2, .slice A0_3 l0_3.length c0_3] 43)).cell? ⟨w.heap.size, 2, none⟩ = some (.int .i64 a0_2) := (Zai HC.out 2).trans rfl
  have hz3 : (w.alloc (.cells #[.int .i64 a0_0, .int .i64 a0_1, .int .i64 a0_2, .slice A0_3 l0_3.length c0_3] 43)).cell? ⟨w.heap.size, 3, none⟩ = some (.slice A0_3 l0_3.length c0_3) := (Zai HC.out 3).trans rfl
  have HK := Zaa.mk (show record_Check.f a0_0 a0_1 a0_2 l0_3 = some (checkR a0_0 a0_1 a0_2 l0_3) by unfold record_Check.f; rw [if_pos hs.1])
  clear hs hr0_3 hG
  unfold formatR at h
  by_cases hk : checkR a0_0 a0_1 a0_2 l0_3 = 0
  case neg =>
    rw [if_neg hk] at h
    simp only [Prod.mk.injEq] at h
    obtain ⟨rfl, rfl⟩ := h
    have hkb : (checkR a0_0 a0_1 a0_2 l0_3 != 0) = true := bne_iff_ne.mpr hk
    generalize checkR a0_0 a0_1 a0_2 l0_3 = e at *
    go_enter Tryd.func35, Tryd.ntmps35
    go_wp2_with (go_at_call 82; refine (record_Check.calls a0_0 a0_1 a0_2 A0_3 c0_3 l0_3 e _ (HG.out _) (Kd.C_alloc HR.out _) hc0_3 HK.out).mono ?_; rintro e' w' ⟨rfl, hb⟩)
    go_ret2
    exact ⟨rfl, Zaf (HB0.out _) hb⟩
  rw [if_pos hk] at h
  simp only [Prod.mk.injEq] at h
  obtain ⟨rfl, rfl⟩ := h
  rw [hk] at HK
  obtain ⟨t0, t1, s0, s1, hl24, hp0⟩ := checkR_ok hk
  obtain ⟨m0, m1⟩ := tmod1000 a0_1 t0
  have hwq : wrap64 (1000 + Int.tmod a0_1 1000) = 1000 + Int.tmod a0_1 1000 := Zbg (by omega) (by omega)
  obtain ⟨qs, hqs⟩ : ∃ qs : ByteArray, qs = ⟨(Lib.itoa (1000 + Int.tmod a0_1 1000)).toArray⟩ := ⟨_, rfl⟩
  have HM := Zaa.mk (Int.tmod_eq_emod_of_nonneg (b := 1000) t0)
  have HD := Zaa.mk (Int.tdiv_eq_ediv_of_nonneg (b := 1000) t0)
  have HQ := Zaa.mk (show strconv_Itoa.f (1000 + a0_1 % 1000) = some qs by rw [← HM.out, hqs]; exact itoa_run _ (by omega) (by omega))
  have hq1 : 1 ≤ qs.size := by rw [hqs, mk_size]; exact itoa_ne _
  have hq2 : qs.size ≤ 21 := by rw [hqs, mk_size]; exact itoa_size _ (by omega) (by omega)
  have HQS := Zaa.mk hqs
  have HHK := Zaa.mk hk
  have HP0 := Zaa.mk hp0
  obtain ⟨pt, hpt⟩ : ∃ pt : ByteArray, pt = qs.extract 1 qs.size := ⟨_, rfl⟩
  have HPT := Zaa.mk hpt
  obtain ⟨nb, hnb⟩ : ∃ nb, nb = nameK a0_0 := ⟨_, rfl⟩
  have HNB := Zaa.mk (show record_Name.f a0_0 = some nb by rw [hnb]; rfl)
  have HNE := Zaa.mk hnb
  obtain ⟨q1, hqq1⟩ : ∃ q1 : ByteArray, q1 = ⟨(Lib.itoa (Int.tdiv a0_1 1000)).toArray⟩ := ⟨_, rfl⟩
  obtain ⟨q2, hqq2⟩ : ∃ q2 : ByteArray, q2 = ⟨(Lib.itoa a0_2).toArray⟩ := ⟨_, rfl⟩
  have hd1 : -9223372036854775808 ≤ Int.tdiv a0_1 1000 := by rw [HD.out]; omega
  have hd2 : Int.tdiv a0_1 1000 ≤ 9223372036854775807 := by rw [HD.out]; omega
  have HQ1 := Zaa.mk (show strconv_Itoa.f (wrap64 (Int.tdiv a0_1 1000)) = some q1 by rw [Zbg hd1 hd2, hqq1]; exact itoa_run _ hd1 hd2)
  have HQ2 := Zaa.mk (show strconv_Itoa.f a0_2 = some q2 by rw [hqq2]; exact itoa_run _ (by omega) (by omega))
  have z1 : nb.size ≤ 8 := by rw [hnb]; exact name_le _
  have z2 : q1.size ≤ 21 := by rw [hqq1, mk_size]; exact itoa_size _ hd1 hd2
  have z3 : q2.size ≤ 21 := by rw [hqq2, mk_size]; exact itoa_size _ (by omega) (by omega)
  have z4 : pt.size ≤ 21 := by rw [hpt, ByteArray.size_extract]; omega
  have HE1 := Zaa.mk hqq1
  have HE2 := Zaa.mk hqq2
  have HHL := Zaa.mk (show (headL a0_0 a0_1 a0_2).length ≤ 200 by
    have h8 := name_le a0_0
    have h9 := itoa_size a0_2 (by omega) (by omega)
    have h10 := itoa_size (Int.tdiv a0_1 1000) hd1 hd2
    have h11 := itoa_size (1000 + Int.tmod a0_1 1000) (by omega) (by omega)
    rw [size_L] at h8
    unfold headL
    simp only [List.length_append, List.length_cons, List.length_nil, List.length_drop]
    omega)
  have HSZ := Zaa.mk (show ([] : List Value).length + (((((((((⟨#[116, 121, 112, 101, 61]⟩ : ByteArray) ++ nb) ++ (⟨#[32, 109, 115, 103, 61, 97, 117, 100, 105, 116, 40]⟩ : ByteArray)) ++ q1) ++ (⟨#[46]⟩ : ByteArray)) ++ pt) ++ (⟨#[58]⟩ : ByteArray)) ++ q2) ++ (⟨#[41, 58]⟩ : ByteArray)).size ≤ 140737488355328 by simp only [ByteArray.size_append, PW.size_mk, List.size_toArray, List.length_cons, List.length_nil, Nat.reduceAdd]; omega)
  have y1a : (9223372036854775807 < 5 + nb.size) = False := eq_false (Nat.not_lt.2 (by (try simp only [ByteArray.size_append, PW.size_mk, List.size_toArray, List.length_cons, List.length_nil, Nat.reduceAdd]); omega))
  have y1b : (9223372036854775807 < 5 + nb.size) = False := eq_false (Nat.not_lt.2 (by omega))
  have y2a : (9223372036854775807 < (((⟨#[116, 121, 112, 101, 61]⟩ : ByteArray) ++ nb)).size + 11) = False := eq_false (Nat.not_lt.2 (by (try simp only [ByteArray.size_append, PW.size_mk, List.size_toArray, List.length_cons, List.length_nil, Nat.reduceAdd]); omega))
  have y2b : (9223372036854775807 < 5 + nb.size + 11) = False := eq_false (Nat.not_lt.2 (by omega))
  have y3a : (9223372036854775807 < ((((⟨#[116, 121, 112, 101, 61]⟩ : ByteArray) ++ nb) ++ (⟨#[32, 109, 115, 103, 61, 97, 117, 100, 105, 116, 40]⟩ : ByteArray))).size + q1.size) = False := eq_false (Nat.not_lt.2 (by (try simp only [ByteArray.size_append, PW.size_mk, List.size_toArray, List.length_cons, List.length_nil, Nat.reduceAdd]); omega))
  have y3b : (9223372036854775807 < 5 + nb.size + 11 + q1.size) = False := eq_false (Nat.not_lt.2 (by omega))
  have y4a : (9223372036854775807 < (((((⟨#[116, 121, 112, 101, 61]⟩ : ByteArray) ++ nb) ++ (⟨#[32, 109, 115, 103, 61, 97, 117, 100, 105, 116, 40]⟩ : ByteArray)) ++ q1)).size + 1) = False := eq_false (Nat.not_lt.2 (by (try simp only [ByteArray.size_append, PW.size_mk, List.size_toArray, List.length_cons, List.length_nil, Nat.reduceAdd]); omega))
  have y4b : (9223372036854775807 < 5 + nb.size + 11 + q1.size + 1) = False := eq_false (Nat.not_lt.2 (by omega))
  have y5a : (9223372036854775807 < ((((((⟨#[116, 121, 112, 101, 61]⟩ : ByteArray) ++ nb) ++ (⟨#[32, 109, 115, 103, 61, 97, 117, 100, 105, 116, 40]⟩ : ByteArray)) ++ q1) ++ (⟨#[46]⟩ : ByteArray))).size + pt.size) = False := eq_false (Nat.not_lt.2 (by (try simp only [ByteArray.size_append, PW.size_mk, List.size_toArray, List.length_cons, List.length_nil, Nat.reduceAdd]); omega))
  have y5b : (9223372036854775807 < 5 + nb.size + 11 + q1.size + 1 + pt.size) = False := eq_false (Nat.not_lt.2 (by omega))
  have y6a : (9223372036854775807 < (((((((⟨#[116, 121, 112, 101, 61]⟩ : ByteArray) ++ nb) ++ (⟨#[32, 109, 115, 103, 61, 97, 117, 100, 105, 116, 40]⟩ : ByteArray)) ++ q1) ++ (⟨#[46]⟩ : ByteArray)) ++ pt)).size + 1) = False := eq_false (Nat.not_lt.2 (by (try simp only [ByteArray.size_append, PW.size_mk, List.size_toArray, List.length_cons, List.length_nil, Nat.reduceAdd]); omega))
  have y6b : (9223372036854775807 < 5 + nb.size + 11 + q1.size + 1 + pt.size + 1) = False := eq_false (Nat.not_lt.2 (by omega))
  have y7a : (9223372036854775807 < ((((((((⟨#[116, 121, 112, 101, 61]⟩ : ByteArray) ++ nb) ++ (⟨#[32, 109, 115, 103, 61, 97, 117, 100, 105, 116, 40]⟩ : ByteArray)) ++ q1) ++ (⟨#[46]⟩ : ByteArray)) ++ pt) ++ (⟨#[58]⟩ : ByteArray))).size + q2.size) = False := eq_false (Nat.not_lt.2 (by (try simp only [ByteArray.size_append, PW.size_mk, List.size_toArray, List.length_cons, List.length_nil, Nat.reduceAdd]); omega))
  have y7b : (9223372036854775807 < 5 + nb.size + 11 + q1.size + 1 + pt.size + 1 + q2.size) = False := eq_false (Nat.not_lt.2 (by omega))
  have y8a : (9223372036854775807 < (((((((((⟨#[116, 121, 112, 101, 61]⟩ : ByteArray) ++ nb) ++ (⟨#[32, 109, 115, 103, 61, 97, 117, 100, 105, 116, 40]⟩ : ByteArray)) ++ q1) ++ (⟨#[46]⟩ : ByteArray)) ++ pt) ++ (⟨#[58]⟩ : ByteArray)) ++ q2)).size + 2) = False := eq_false (Nat.not_lt.2 (by (try simp only [ByteArray.size_append, PW.size_mk, List.size_toArray, List.length_cons, List.length_nil, Nat.reduceAdd]); omega))
  have y8b : (9223372036854775807 < 5 + nb.size + 11 + q1.size + 1 + pt.size + 1 + q2.size + 2) = False := eq_false (Nat.not_lt.2 (by omega))
  clear hqs hwq hk hp0 hpt hnb hqq1 hqq2 hd1 hd2
  go_enter Tryd.func35, Tryd.ntmps35
  go_wp2_with (first
    | (go_at_call 82; refine (record_Check.calls a0_0 a0_1 a0_2 A0_3 c0_3 l0_3 0 _ (HG.out _) (Kd.C_alloc HR.out _) hc0_3 HK.out).mono ?_; rintro e' w1 ⟨rfl, hb⟩
       have HB := Zaa.mk (Zaf (HB0.out _) hb)
       have HC1 := Zaa.mk (Zah HC.out hb)
       have HG1 := Zaa.mk (GT.below (Nat.le_refl 2) (HG.out _) hb)
       have HBL := Zaa.mk (Lib.fresh_isBuilder 111 5 w1)
       have z1 : ∀ o, (w1.alloc o).cell? ⟨w.heap.size, 1, none⟩ = some (.int .i64 a0_1) := fun o => (Zai (Zab HC1.out o) 1).trans rfl
       clear hb)
    | (go_at_call 73; refine (strconv_Itoa.calls _ qs _ (GT.mono (show 1 ≤ 2 by decide) (GT.below (Nat.le_refl 2) HG1.out (Zam (Below.refl _ _) _))) HQ.out).mono ?_; rintro e' w2 ⟨rfl, hb⟩
       have HB2 := Zaa.mk (Zaf (Zam HB.out _) hb)
       have HC2 := Zaa.mk (Zah (Zab HC1.out _) hb)
       have HG2 := Zaa.mk (GT.below (Nat.le_refl 2) (GT.below (Nat.le_refl 2) HG1.out (Zam (Below.refl _ _) _)) hb)
       have HBL2 := Zaa.mk (bld_below HBL.out hb)
       have GEb := Zaa.mk HB.out.size
       have LTb := Zaa.mk (Za1 HC1.out)
       clear hb))
  rw [← HPT.out]
  have n0_ := Zaa.mk (Zaq HB2.out)
  have n1_ := Zaa.mk (Zad HC2.out)
  have n2_ := Zaa.mk (GT.below (Nat.le_refl 2) HG2.out (Zaq (Below.refl _ _)))
  have n3_ := Zaa.mk (bld_below HBL2.out (Zaq (Below.refl _ _)))
  clear HB2 HC2 HG2 HBL2
  have HB2 := n0_
  have HC2 := n1_
  have HG2 := n2_
  have HBL2 := n3_
  clear n0_ n1_ n2_ n3_
  refine start_ (n := 20) (S := fun w' => w'.cell? ⟨w.heap.size, 0, none⟩ = some (.int .i64 a0_0) ∧ w'.cell? ⟨w.heap.size, 1, none⟩ = some (.int .i64 a0_1) ∧ w'.cell? ⟨w.heap.size, 2, none⟩ = some (.int .i64 a0_2)) (ds := []) #[false, false, false, false, false, false, false, false, false, false, false, false, false, false, false, false, false, false, false, false] (by kernel_rfl) rfl rfl ⟨(Zai HC2.out 0).trans rfl, (Zai HC2.out 1).trans rfl, (Zai HC2.out 2).trans rfl⟩ (fun hHeld => ?_)
  refine with_tabW record_Format.tab record_Format.bits (fun HT_ HW_ => ?_)
  generalize w2.drew = w3 at HB2 HC2 HG2 HBL2 hHeld ⊢
  refine Za8 (i := 0) (N := some 22) (v := ?_) (a' := ?_) #[true, false, false, false, false, false, false, false, false, false, false, false, false, false, false, false, false, false, false, false] rfl rfl (Za7 HT_.out (by kernel_rfl)) (fun _ _ _ h => h) (Or.inl ⟨by rfl, ?_⟩) ?_ ?_
  rotate_left
  · intro w'
    go_simp
    with_reducible rfl
  rotate_left
  · simp only [Act.put, List.setIfInBounds_toArray, List.set_cons_zero, List.set_cons_succ, Zav, Za0]
    rfl
  refine Za8 (i := 5) (N := some 27) (v := ?_) (a' := ?_) #[true, false, false, false, false, true, false, false, false, false, false, false, false, false, false, false, false, false, false, false] rfl rfl (Za7 HT_.out (by kernel_rfl)) (fun _ _ _ h => h) (Or.inl ⟨by rfl, ?_⟩) ?_ ?_
  rotate_left
  · intro w'
    go_simp
    with_reducible rfl
  rotate_left
  · simp only [Act.put, List.setIfInBounds_toArray, List.set_cons_zero, List.set_cons_succ, Zav, Za0]
    rfl
  refine Za8 (i := 14) (N := some 36) (v := ?_) (a' := ?_) #[true, false, false, false, false, true, false, false, false, false, false, false, false, false, true, false, false, false, false, false] rfl rfl (Za7 HT_.out (by kernel_rfl)) (fun _ _ _ h => h) (Or.inl ⟨by rfl, ?_⟩) ?_ ?_
  rotate_left
  · intro w'
    go_simp
    with_reducible rfl
  rotate_left
  · simp only [Act.put, List.setIfInBounds_toArray, List.set_cons_zero, List.set_cons_succ, Zav, Za0]
    rfl
  refine take_ (i := 1) (N := some 23) (v := ?_) (a' := ?_) #[true, true, false, false, false, true, false, false, false, false, false, false, false, false, true, false, false, false, false, false] rfl rfl (Zbj HT_.out HW_.out (by kernel_rfl)) (fun _ _ _ h => h) (Or.inl ⟨by rfl, ?_⟩) hHeld ?_ ?_
  rotate_left
  · rintro w' ⟨s0, s1, s2⟩
    go_simp
    with_reducible rfl
  rotate_left
  · simp only [Act.put, List.setIfInBounds_toArray, List.set_cons_zero, List.set_cons_succ, Zav, Za0]
    rfl
  refine take_ (i := 6) (N := some 28) (v := ?_) (a' := ?_) #[true, true, false, false, false, true, true, false, false, false, false, false, false, false, true, false, false, false, false, false] rfl rfl (Zbj HT_.out HW_.out (by kernel_rfl)) (fun _ _ _ h => h) (Or.inl ⟨by rfl, ?_⟩) hHeld ?_ ?_
  rotate_left
  · rintro w' ⟨s0, s1, s2⟩
    go_simp
    with_reducible rfl
  rotate_left
  · simp only [Act.put, List.setIfInBounds_toArray, List.set_cons_zero, List.set_cons_succ, Zav, Za0]
    rfl
  refine take_ (i := 15) (N := some 37) (v := ?_) (a' := ?_) #[true, true, false, false, false, true, true, false, false, false, false, false, false, false, true, true, false, false, false, false] rfl rfl (Zbj HT_.out HW_.out (by kernel_rfl)) (fun _ _ _ h => h) (Or.inl ⟨by rfl, ?_⟩) hHeld ?_ ?_
  rotate_left
  · rintro w' ⟨s0, s1, s2⟩
    go_simp
    with_reducible rfl
  rotate_left
  · simp only [Act.put, List.setIfInBounds_toArray, List.set_cons_zero, List.set_cons_succ, Zav, Za0]
    rfl
  refine Za8 (i := 7) (N := some 29) (v := ?_) (a' := ?_) #[true, true, false, false, false, true, true, true, false, false, false, false, false, false, true, true, false, false, false, false] rfl rfl (Za7 HT_.out (by kernel_rfl)) (fun _ _ _ h => h) (Or.inl ⟨by rfl, ?_⟩) ?_ ?_
  rotate_left
  · intro w'
    go_simp
    with_reducible rfl
  rotate_left
  · simp only [Act.put, List.setIfInBounds_toArray, List.set_cons_zero, List.set_cons_succ, Zav, Za0]
    rfl
  refine Za8 (i := 11) (N := some 33) (v := ?_) (a' := ?_) #[true, true, false, false, false, true, true, true, false, false, false, true, false, false, true, true, false, false, false, false] rfl rfl (Za7 HT_.out (by kernel_rfl)) (fun _ _ _ h => h) (Or.inl ⟨by rfl, ?_⟩) ?_ ?_
  rotate_left
  · intro w'
    go_simp
    with_reducible rfl
  rotate_left
  · simp only [Act.put, List.setIfInBounds_toArray, List.set_cons_zero, List.set_cons_succ, Zav, Za0]
    rfl
  refine one_ (i := 2) (N := some 24) #[true, true, true, false, false, true, true, true, false, false, false, true, false, false, true, true, false, false, false, false] rfl rfl (Zbi HT_.out (by kernel_rfl)) (by decide) (fun K hK => ?_)
  refine goes_ Tryd.func41 (by kernel_rfl) rfl #[.int .i64 a0_0] (by rfl) rfl rfl (by (try simp only [List.map_toArray, List.map_cons, List.map_nil]); first | done | rfl) ?_
  refine (record_Name.calls a0_0 nb _ HG2.out HNB.out).mono ?_
  rintro e' w' ⟨rfl, hb⟩
  refine ⟨_, rfl, ?_⟩
  have n0_ := Zaa.mk (Zaf HB2.out hb)
  have n1_ := Zaa.mk (Zah HC2.out hb)
  have n2_ := Zaa.mk (GT.below (Nat.le_refl 2) HG2.out hb)
  have n3_ := Zaa.mk (bld_below HBL2.out hb)
  clear HB2 HC2 HG2 HBL2 hb
  have HB2 := n0_
  have HC2 := n1_
  have HG2 := n2_
  have HBL2 := n3_
  clear n0_ n1_ n2_ n3_
  refine hK.out _ _ ⟨(Zai HC2.out 0).trans rfl, (Zai HC2.out 1).trans rfl, (Zai HC2.out 2).trans rfl⟩ (fun hHeld => ?_)
  clear hK K
  refine norm_ (a' := ?_) ?_ ?_
  rotate_left
  · show Act.put _ (some 24) _ = _
    simp only [Act.put, List.setIfInBounds_toArray, List.set_cons_zero, List.set_cons_succ, Zav, Za0]
    rfl
  refine Za8 (i := 3) (N := some 25) (v := ?_) (a' := ?_) #[true, true, true, true, false, true, true, true, false, false, false, true, false, false, true, true, false, false, false, false] rfl rfl (Za7 HT_.out (by kernel_rfl)) (fun _ _ _ h => h) (Or.inl ⟨by rfl, ?_⟩) ?_ ?_
  rotate_left
  · intro w'
    go_simp
    with_reducible rfl
  rotate_left
  · simp only [Act.put, List.setIfInBounds_toArray, List.set_cons_zero, List.set_cons_succ, Zav, Za0]
    rfl
  refine Za8 (i := 4) (N := some 26) (v := ?_) (a' := ?_) #[true, true, true, true, true, true, true, true, false, false, false, true, false, false, true, true, false, false, false, false] rfl rfl (Za7 HT_.out (by kernel_rfl)) (fun _ _ _ h => h) (Or.inl ⟨by rfl, ?_⟩) ?_ ?_
  rotate_left
  · intro w'
    go_simp
    with_reducible rfl
  rotate_left
  · simp only [Act.put, List.setIfInBounds_toArray, List.set_cons_zero, List.set_cons_succ, Zav, Za0]
    rfl
  refine one_ (i := 8) (N := some 30) #[true, true, true, true, true, true, true, true, true, false, false, true, false, false, true, true, false, false, false, false] rfl rfl (Zbi HT_.out (by kernel_rfl)) (by decide) (fun K hK => ?_)
  refine goes_ Tryd.func73 (by kernel_rfl) rfl #[.int .i64 (wrap64 (Int.tdiv a0_1 1000))] (by rfl) rfl rfl (by (try simp only [List.map_toArray, List.map_cons, List.map_nil]); first | done | rfl) ?_
  refine (strconv_Itoa.calls _ q1 _ (GT.mono (show 1 ≤ 2 by decide) HG2.out) HQ1.out).mono ?_
  rintro e' w' ⟨rfl, hb⟩
  refine ⟨_, rfl, ?_⟩
  have n0_ := Zaa.mk (Zaf HB2.out hb)
  have n1_ := Zaa.mk (Zah HC2.out hb)
  have n2_ := Zaa.mk (GT.below (Nat.le_refl 2) HG2.out hb)
  have n3_ := Zaa.mk (bld_below HBL2.out hb)
  clear HB2 HC2 HG2 HBL2 hb
  have HB2 := n0_
  have HC2 := n1_
  have HG2 := n2_
  have HBL2 := n3_
  clear n0_ n1_ n2_ n3_
  refine hK.out _ _ ⟨(Zai HC2.out 0).trans rfl, (Zai HC2.out 1).trans rfl, (Zai HC2.out 2).trans rfl⟩ (fun hHeld => ?_)
  clear hK K
  refine norm_ (a' := ?_) ?_ ?_
  rotate_left
  · show Act.put _ (some 30) _ = _
    simp only [Act.put, List.setIfInBounds_toArray, List.set_cons_zero, List.set_cons_succ, Zav, Za0]
    rfl
  refine Za8 (i := 9) (N := some 31) (v := ?_) (a' := ?_) #[true, true, true, true, true, true, true, true, true, true, false, true, false, false, true, true, false, false, false, false] rfl rfl (Za7 HT_.out (by kernel_rfl)) (fun _ _ _ h => h) (Or.inl ⟨by rfl, ?_⟩) ?_ ?_
  rotate_left
  · intro w'
    go_simp
    with_reducible rfl
  rotate_left
  · simp only [Act.put, List.setIfInBounds_toArray, List.set_cons_zero, List.set_cons_succ, Zav, Za0]
    rfl
  refine Za8 (i := 10) (N := some 32) (v := ?_) (a' := ?_) #[true, true, true, true, true, true, true, true, true, true, true, true, false, false, true, true, false, false, false, false] rfl rfl (Za7 HT_.out (by kernel_rfl)) (fun _ _ _ h => h) (Or.inl ⟨by rfl, ?_⟩) ?_ ?_
  rotate_left
  · intro w'
    go_simp
    with_reducible rfl
  rotate_left
  · simp only [Act.put, List.setIfInBounds_toArray, List.set_cons_zero, List.set_cons_succ, Zav, Za0]
    rfl
  refine Za8 (i := 12) (N := some 34) (v := ?_) (a' := ?_) #[true, true, true, true, true, true, true, true, true, true, true, true, true, false, true, true, false, false, false, false] rfl rfl (Za7 HT_.out (by kernel_rfl)) (fun _ _ _ h => h) (Or.inl ⟨by rfl, ?_⟩) ?_ ?_
  rotate_left
  · intro w'
    go_simp
    with_reducible rfl
  rotate_left
  · simp only [Act.put, List.setIfInBounds_toArray, List.set_cons_zero, List.set_cons_succ, Zav, Za0]
    rfl
  refine Za8 (i := 13) (N := some 35) (v := ?_) (a' := ?_) #[true, true, true, true, true, true, true, true, true, true, true, true, true, true, true, true, false, false, false, false] rfl rfl (Za7 HT_.out (by kernel_rfl)) (fun _ _ _ h => h) (Or.inl ⟨by rfl, ?_⟩) ?_ ?_
  rotate_left
  · intro w'
    go_simp
    with_reducible rfl
  rotate_left
  · simp only [Act.put, List.setIfInBounds_toArray, List.set_cons_zero, List.set_cons_succ, Zav, Za0]
    rfl
  refine one_ (i := 16) (N := some 38) #[true, true, true, true, true, true, true, true, true, true, true, true, true, true, true, true, true, false, false, false] rfl rfl (Zbi HT_.out (by kernel_rfl)) (by decide) (fun K hK => ?_)
  refine goes_ Tryd.func73 (by kernel_rfl) rfl #[.int .i64 a0_2] (by rfl) rfl rfl (by (try simp only [List.map_toArray, List.map_cons, List.map_nil]); first | done | rfl) ?_
  refine (strconv_Itoa.calls _ q2 _ (GT.mono (show 1 ≤ 2 by decide) HG2.out) HQ2.out).mono ?_
  rintro e' w' ⟨rfl, hb⟩
  refine ⟨_, rfl, ?_⟩
  have n0_ := Zaa.mk (Zaf HB2.out hb)
  have n1_ := Zaa.mk (Zah HC2.out hb)
  have n2_ := Zaa.mk (GT.below (Nat.le_refl 2) HG2.out hb)
  have n3_ := Zaa.mk (bld_below HBL2.out hb)
  clear HB2 HC2 HG2 HBL2 hb
  have HB2 := n0_
  have HC2 := n1_
  have HG2 := n2_
  have HBL2 := n3_
  clear n0_ n1_ n2_ n3_
  refine hK.out _ _ ⟨(Zai HC2.out 0).trans rfl, (Zai HC2.out 1).trans rfl, (Zai HC2.out 2).trans rfl⟩ (fun hHeld => ?_)
  clear hK K
  refine norm_ (a' := ?_) ?_ ?_
  rotate_left
  · show Act.put _ (some 38) _ = _
    simp only [Act.put, List.setIfInBounds_toArray, List.set_cons_zero, List.set_cons_succ, Zav, Za0]
    rfl
  refine Za8 (i := 17) (N := some 39) (v := ?_) (a' := ?_) #[true, true, true, true, true, true, true, true, true, true, true, true, true, true, true, true, true, true, false, false] rfl rfl (Za7 HT_.out (by kernel_rfl)) (fun _ _ _ h => h) (Or.inl ⟨by rfl, ?_⟩) ?_ ?_
  rotate_left
  · intro w'
    go_simp
    with_reducible rfl
  rotate_left
  · simp only [Act.put, List.setIfInBounds_toArray, List.set_cons_zero, List.set_cons_succ, Zav, Za0]
    rfl
  refine Za8 (i := 18) (N := some 40) (v := ?_) (a' := ?_) #[true, true, true, true, true, true, true, true, true, true, true, true, true, true, true, true, true, true, true, false] rfl rfl (Za7 HT_.out (by kernel_rfl)) (fun _ _ _ h => h) (Or.inl ⟨by rfl, ?_⟩) ?_ ?_
  rotate_left
  · intro w'
    go_simp
    with_reducible rfl
  rotate_left
  · simp only [Act.put, List.setIfInBounds_toArray, List.set_cons_zero, List.set_cons_succ, Zav, Za0]
    rfl
  refine one_ (i := 19) (N := some 41) #[true, true, true, true, true, true, true, true, true, true, true, true, true, true, true, true, true, true, true, true] rfl rfl (Zbi HT_.out (by kernel_rfl)) (by decide) (fun K hK => ?_)
  refine goes_ Tryd.func84 (by kernel_rfl) rfl #[.pointer (some ⟨w1.heap.size, 0, none⟩), .string (((((((((⟨#[116, 121, 112, 101, 61]⟩ : ByteArray) ++ nb) ++ (⟨#[32, 109, 115, 103, 61, 97, 117, 100, 105, 116, 40]⟩ : ByteArray)) ++ q1) ++ (⟨#[46]⟩ : ByteArray)) ++ pt) ++ (⟨#[58]⟩ : ByteArray)) ++ q2) ++ (⟨#[41, 58]⟩ : ByteArray))] (by rfl) rfl rfl (by (try simp only [List.map_toArray, List.map_cons, List.map_nil]); first | done | rfl) ?_
  refine (write_stringN w1.heap.size w1.heap.size [] (((((((((⟨#[116, 121, 112, 101, 61]⟩ : ByteArray) ++ nb) ++ (⟨#[32, 109, 115, 103, 61, 97, 117, 100, 105, 116, 40]⟩ : ByteArray)) ++ q1) ++ (⟨#[46]⟩ : ByteArray)) ++ pt) ++ (⟨#[58]⟩ : ByteArray)) ++ q2) ++ (⟨#[41, 58]⟩ : ByteArray)) _ HBL2.out HSZ.out (Nat.le_of_lt (bld_lt HBL2.out))).mono ?_
  rintro e' w' ⟨nv, rfl, hbl, hb⟩
  refine ⟨_, rfl, ?_⟩
  have n0_ := Zaa.mk (HB2.out.trans (hb.mono GEb.out))
  have n1_ := Zaa.mk ((hb.block w.heap.size LTb.out).trans HC2.out)
  clear HB2 HC2 hb
  have HB2 := n0_
  have HC2 := n1_
  have HBL3 := Zaa.mk hbl
  clear n0_ n1_ hbl
  refine hK.out _ _ ⟨(Zai HC2.out 0).trans rfl, (Zai HC2.out 1).trans rfl, (Zai HC2.out 2).trans rfl⟩ (fun hHeld => ?_)
  clear hK K
  refine norm_ (a' := ?_) ?_ ?_
  rotate_left
  · show Act.put _ (some 41) _ = _
    simp only [Act.put, List.setIfInBounds_toArray, List.set_cons_zero, List.set_cons_succ, Zav, Za0]
    rfl
  refine done_ (done_of HT_.out (by kernel_rfl)) ?_
  have HBL4 := Zaa.mk (show Lib.IsBuilder 111 5 w1.heap.size w1.heap.size (Lib.byteCells (headL a0_0 a0_1 a0_2 ++ restL (l0_3.take 0))) w' from by
    have e : [] ++ Lib.strCells (((((((((⟨#[116, 121, 112, 101, 61]⟩ : ByteArray) ++ nb) ++ (⟨#[32, 109, 115, 103, 61, 97, 117, 100, 105, 116, 40]⟩ : ByteArray)) ++ q1) ++ (⟨#[46]⟩ : ByteArray)) ++ pt) ++ (⟨#[58]⟩ : ByteArray)) ++ q2) ++ (⟨#[41, 58]⟩ : ByteArray)) = Lib.byteCells (headL a0_0 a0_1 a0_2 ++ restL (l0_3.take 0)) := by
      rw [List.nil_append, cells_str]
      refine congrArg _ ?_
      simp only [L_append, L_lit]
      rw [HNE.out, HE1.out, HE2.out, L_mk, L_mk, HPT.out, L_extract, HQS.out, mk_size, L_mk, List.take_of_length_le (by simp)]
      simp [headL, restL, L_mk]
      try rfl
    exact e ▸ .inr HBL3.out)
  clear HBL3 HSZ HQ HQ1 HQ2 HE1 HE2 HPT HNE HNB HBL
  clear y1a y1b y2a y2b y3a y3b y4a y4b y5a y5b y6a y6b y7a y7b y8a y8b hz0 hz1 hz2 hz3 z2 z3 z4
  have zc3 : w'.cell? ⟨w.heap.size, 3, none⟩ = some (.slice A0_3 l0_3.length c0_3) := (Zai HC2.out 3).trans rfl
  go_wp2
  clear zc3
  go_loopw [45] (fun v45 wr => ∃ i : Nat, i ≤ l0_3.length ∧ v45 = .int .i64 (i : Int) ∧ Zaa (Lib.IsBuilder 111 5 w1.heap.size w1.heap.size (Lib.byteCells (headL a0_0 a0_1 a0_2 ++ restL (l0_3.take i))) wr) ∧ Zaa (Below w.heap.size w wr) ∧ Zaa (GT 2 wr)) (fun v45 _ => l0_3.length - (intOf v45).toNat)
  case atStart => exact ⟨0, by omega, rfl, HBL4, HB2, ⟨GT.below (Nat.le_refl 2) (GT.mono (Nat.le_refl 2) HG00.out) HB2.out⟩⟩
  case round =>
    clear HBL4 HB2 HG2 HC2
    obtain ⟨i, hi, rfl, HBL, HB2, HG2⟩ := hrel
    by_cases hlt : i < l0_3.length
    · obtain ⟨ad, rfl, e0, e1, e2, e3⟩ := at_T31 (Kd.C_below HR.out HB2.out) (i : Int) (by omega) (by omega)
      have HI := Zaa.mk (restL_take l0_3 i hlt)
      have HZ := Zaa.mk (shortN_at HS.out.1 hlt)
      have HW := Zaa.mk (numsOK_at HS.out.2 hlt)
      have HX := Zaa.mk (pairsI_zero HP0.out i hlt)
      have HLn := Zaa.mk (restL_len l0_3 HP0.out HS.out.2 i)
      simp only [Int.toNat_natCast] at e0 e1 e2 e3
      generalize Zbb l0_3 (i : Int) = p at *
      obtain ⟨p0, p1, p2, p3⟩ := p
      simp only at e0 e1 e2 e3 HI HZ HW HX
      obtain ⟨fs, hfs⟩ : ∃ fs : ByteArray, fs = ⟨(formL (L p0) p1 p2 (L p3)).toArray⟩ := ⟨_, rfl⟩
      have HV := Zaa.mk (show value_Format.f (p0.size + 2) p0 p1 p2 p3 = some (fs, 0) by rw [hfs, value_Format_run p0 p1 p2 p3 HZ.out HW.out.1 HW.out.2 _ (by omega)]; unfold formatF; rw [if_pos HX.out])
      have f0 : fs.size ≤ 1400 := by rw [hfs, mk_size]; exact formL_len HX.out HW.out.1 HW.out.2
      have f1 : (9223372036854775807 < 1 + fs.size) = False := eq_false (Nat.not_lt.2 (by omega))
      have HF := Zaa.mk (show L ((⟨#[32]⟩ : ByteArray) ++ fs) = 32 :: formL (L p0) p1 p2 (L p3) by rw [L_append, hfs, L_mk]; rfl)
      have HSZ := Zaa.mk (show (Lib.byteCells (headL a0_0 a0_1 a0_2 ++ restL (l0_3.take i))).length + ((⟨#[32]⟩ : ByteArray) ++ fs).size ≤ 140737488355328 by
        rw [Lib.byteCells_length, List.length_append, ByteArray.size_append, PW.size_mk]
        have := HLn.out
        have := HHL.out
        simp only [List.size_toArray, List.length_cons, List.length_nil]
        omega)
      clear hfs
      go_wp2_with (first
        | (go_at_call 24; refine (value_Format.calls _ p0 p1 p2 p3 fs 0 _ (GT.mono (show 1 ≤ 2 by decide) (GT.below (Nat.le_refl 2) HG2.out (Zam (Below.refl _ _) _))) HV.out).mono ?_; rintro e w5 ⟨rfl, hb⟩
           have HB5 := Zaa.mk (Zaf (Zam HB2.out _) hb)
           have HG5 := Zaa.mk (GT.below (Nat.le_refl 2) (GT.below (Nat.le_refl 2) HG2.out (Zam (Below.refl _ _) _)) hb)
           have HBL5 := Zaa.mk (bld_below (bld_below HBL.out (Zam (Below.refl _ _) _)) hb)
           clear hb)
        | (go_at_call 84; refine (write_stringN w1.heap.size w1.heap.size _ ((⟨#[32]⟩ : ByteArray) ++ fs) _ HBL5.out HSZ.out (Nat.le_of_lt (bld_lt HBL5.out))).mono ?_; rintro e w6 ⟨nv, rfl, hbl, hb⟩
           have HB6 := Zaa.mk (HB5.out.trans (hb.mono GEb.out))
           have HG6 := Zaa.mk (GT.below (Nat.le_refl 2) HG00.out HB6.out)
           have HBL6 := Zaa.mk (show Lib.IsBuilder 111 5 w1.heap.size w1.heap.size (Lib.byteCells (headL a0_0 a0_1 a0_2 ++ restL (l0_3.take (i + 1)))) w6 from by
             have e : Lib.byteCells (headL a0_0 a0_1 a0_2 ++ restL (l0_3.take i)) ++ Lib.strCells ((⟨#[32]⟩ : ByteArray) ++ fs) = Lib.byteCells (headL a0_0 a0_1 a0_2 ++ restL (l0_3.take (i + 1))) := by
               rw [cells_str, HF.out, byteCells_app, HI.out, List.append_assoc]
             exact e ▸ .inr hbl)
           clear hb hbl))
      go_roundw
      case rel => exact ⟨i + 1, by omega, by go_num, HBL6, HB6, HG6⟩
      case measure => simp [intOf]; omega
    · obtain rfl : i = l0_3.length := by omega
      go_wp2_with (go_at_call 85; refine (Tryd.Builder_String_any w1.heap.size w1.heap.size _ _ HBL.out (Nat.le_of_lt (bld_lt HBL.out))).mono ?_; rintro e w5 ⟨rfl, hb⟩)
      go_ret2
      exact ⟨rfl, HB2.out.trans (hb.mono GEb.out)⟩
end Go.Proofs.YtkfddpbmclbdhaaDoor.PA
