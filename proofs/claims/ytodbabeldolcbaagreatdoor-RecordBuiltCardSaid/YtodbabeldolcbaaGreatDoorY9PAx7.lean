/- Contracts of functions of the program: written by pr2.py (ours, round the print of the kit) out of the translation; conditions: each contract names its own. -/
import Derived.Test.YtodbabeldolcbaaGreatDoorY9PAx5
import Derived.Test.YtodbabeldolcbaaGreatDoorY9PAx6
namespace Go.Proofs.YtodbabeldolcbaaGreatDoor.PA
open Go.RowKit Go.Proofs.YtodbabeldolcbaaGreatDoorW.PrintWords Go.Proofs.YtodbabeldolcbaaGreatDoorW.PrintLast Go.Proofs.YtodbabeldolcbaaGreatDoorW.PrintMore
attribute [local go_sem] Zbg Zbe Zbs Zbr Za8 Za7 Zbf Zbd   -- for this text's walks alone
set_option linter.unusedVariables false
set_option linter.unusedSimpArgs false
def kauditref03_Format.l0 : Nat → ByteArray → Int → Int → Int → Int → List (S88) → Option (ByteArray × Int)
 | 0, _, _, _, _, _, _ => none
 | k + 1, x5, x6, x218000, x218001, x218002, x218003 => if x6 < (x218003.length : Int) then (if 0 ≤ x6 then ((kauditref02_Format.f k ((Zat x218003 x6).f0) ((Zat x218003 x6).f1) ((Zat x218003 x6).f2) ((Zat x218003 x6).f3)).bind fun bt224 => (if 1 + bt224.1.size ≤ 9223372036854775807 then (if x5.size + ((⟨#[32]⟩ : ByteArray) ++ bt224.1).size ≤ 9223372036854775807 then (kauditref03_Format.l0 k (x5 ++ ((⟨#[32]⟩ : ByteArray) ++ bt224.1)) (wrap64 (x6 + 1)) x218000 x218001 x218002 x218003) else (none)) else (none))) else (none)) else (some (x5, 0))
def kauditref03_Format.f (k : Nat) (a0_0 : Int) (a0_1 : Int) (a0_2 : Int) (l0_3 : List (S88)) : Option (ByteArray × Int) := (kauditref03_Check.f k a0_0 a0_1 a0_2 l0_3).bind fun t218 => (if t218 = 0 then ((kauditref03_Name.f k a0_0).bind fun t219 => (if 5 + t219.size ≤ 9223372036854775807 then (if ((⟨#[116, 121, 112, 101, 61]⟩ : ByteArray) ++ t219).size + 11 ≤ 9223372036854775807 then ((kauditref01_Decimal.f (wrap64 (Int.tdiv a0_1 1000))).bind fun t220 => (if (((⟨#[116, 121, 112, 101, 61]⟩ : ByteArray) ++ t219) ++ (⟨#[32, 109, 115, 103, 61, 97, 117, 100, 105, 116, 40]⟩ : ByteArray)).size + t220.size ≤ 9223372036854775807 then (if ((((⟨#[116, 121, 112, 101, 61]⟩ : ByteArray) ++ t219) ++ (⟨#[32, 109, 115, 103, 61, 97, 117, 100, 105, 116, 40]⟩ : ByteArray)) ++ t220).size + 1 ≤ 9223372036854775807 then ((kauditref03_three.f (Int.tmod a0_1 1000)).bind fun t221 => (if (((((⟨#[116, 121, 112, 101, 61]⟩ : ByteArray) ++ t219) ++ (⟨#[32, 109, 115, 103, 61, 97, 117, 100, 105, 116, 40]⟩ : ByteArray)) ++ t220) ++ (⟨#[46]⟩ : ByteArray)).size + t221.size ≤ 9223372036854775807 then (if ((((((⟨#[116, 121, 112, 101, 61]⟩ : ByteArray) ++ t219) ++ (⟨#[32, 109, 115, 103, 61, 97, 117, 100, 105, 116, 40]⟩ : ByteArray)) ++ t220) ++ (⟨#[46]⟩ : ByteArray)) ++ t221).size + 1 ≤ 9223372036854775807 then ((kauditref01_Decimal.f a0_2).bind fun t222 => (if (((((((⟨#[116, 121, 112, 101, 61]⟩ : ByteArray) ++ t219) ++ (⟨#[32, 109, 115, 103, 61, 97, 117, 100, 105, 116, 40]⟩ : ByteArray)) ++ t220) ++ (⟨#[46]⟩ : ByteArray)) ++ t221) ++ (⟨#[58]⟩ : ByteArray)).size + t222.size ≤ 9223372036854775807 then (if ((((((((⟨#[116, 121, 112, 101, 61]⟩ : ByteArray) ++ t219) ++ (⟨#[32, 109, 115, 103, 61, 97, 117, 100, 105, 116, 40]⟩ : ByteArray)) ++ t220) ++ (⟨#[46]⟩ : ByteArray)) ++ t221) ++ (⟨#[58]⟩ : ByteArray)) ++ t222).size + 2 ≤ 9223372036854775807 then (kauditref03_Format.l0 k (((((((((⟨#[116, 121, 112, 101, 61]⟩ : ByteArray) ++ t219) ++ (⟨#[32, 109, 115, 103, 61, 97, 117, 100, 105, 116, 40]⟩ : ByteArray)) ++ t220) ++ (⟨#[46]⟩ : ByteArray)) ++ t221) ++ (⟨#[58]⟩ : ByteArray)) ++ t222) ++ (⟨#[41, 58]⟩ : ByteArray)) 0 a0_0 a0_1 a0_2 l0_3) else (none)) else (none))) else (none)) else (none))) else (none)) else (none))) else (none)) else (none))) else (some ((⟨#[]⟩ : ByteArray), t218)))
theorem kauditref03_Format.mono_l : ∀ k, (∀ y0 y1 y2 y3 y4 y5, LeO (kauditref03_Format.l0 k y0 y1 y2 y3 y4 y5) (kauditref03_Format.l0 (k + 1) y0 y1 y2 y3 y4 y5))
 | 0 => fun _ _ _ _ _ _ r h => by simp [kauditref03_Format.l0] at h
 | k + 1 => by
  have ih0 := kauditref03_Format.mono_l k
  ·intro y0 y1 y2 y3 y4 y5
   unfold kauditref03_Format.l0
   repeat' first
   | (with_reducible exact ih0 _ _ _ _ _ _)
   | (with_reducible exact kauditref02_Format.mono _ _ _ _ _)
   | (with_reducible exact kauditref03_Check.mono _ _ _ _ _)
   | (with_reducible exact kauditref03_Name.mono _ _)
   | (with_reducible exact LeO.refl _)
   | (with_reducible exact LeO.none _)
   | (with_reducible refine LeO.ite ?_ ?_)
   | (with_reducible refine LeO.bind ?_ (fun _ => ?_))
   | exact ih0 _ _ _ _ _ _
   | exact kauditref02_Format.mono _ _ _ _ _
   | exact kauditref03_Check.mono _ _ _ _ _
   | exact kauditref03_Name.mono _ _
   | exact LeO.none _
   | refine LeO.ite ?_ ?_
   | refine LeO.bind ?_ (fun _ => ?_)
theorem kauditref03_Format.mono : ∀ a0 a1 a2 a3 k, LeO (kauditref03_Format.f k a0 a1 a2 a3) (kauditref03_Format.f (k + 1) a0 a1 a2 a3) := by
 intro a0 a1 a2 a3 k
 have ih0 := kauditref03_Format.mono_l k
 unfold kauditref03_Format.f
 repeat' first
   | (with_reducible exact ih0 _ _ _ _ _ _)
   | (with_reducible exact kauditref02_Format.mono _ _ _ _ _)
   | (with_reducible exact kauditref03_Check.mono _ _ _ _ _)
   | (with_reducible exact kauditref03_Name.mono _ _)
   | (with_reducible exact LeO.refl _)
   | (with_reducible exact LeO.none _)
   | (with_reducible refine LeO.ite ?_ ?_)
   | (with_reducible refine LeO.bind ?_ (fun _ => ?_))
   | exact ih0 _ _ _ _ _ _
   | exact kauditref02_Format.mono _ _ _ _ _
   | exact kauditref03_Check.mono _ _ _ _ _
   | exact kauditref03_Name.mono _ _
   | exact LeO.none _
   | refine LeO.ite ?_ ?_
   | refine LeO.bind ?_ (fun _ => ?_)
def kauditref03_Format.T4 : Bool × List (List Nat × List Nat) := (true, [([], []), ([0], [0]), ([1], [1]), ([2], [2]), ([3], [3]), ([], []), ([5], [5]), ([6], [6]), ([7, 2], [7]), ([4, 8], [4, 8]), ([9], [9]), ([], []), ([11], [11]), ([12], [12]), ([13, 8], [13]), ([10, 14], [10, 14]), ([15], [15]), ([], []), ([17], [17]), ([18, 14], [18]), ([16, 19], [16, 19]), ([20], [20]), ([21, 19, 0, 1, 2, 3, 4, 5, 6, 7, 8, 9, 10, 11, 12, 13, 14, 15, 16, 17, 18, 19, 20, 21], [21])])
def kauditref03_Format.B4 : List Nat := [0, 1, 3, 7, 15, 0, 32, 96, 231, 511, 1023, 0, 2048, 6144, 14823, 32767, 65535, 0, 131072, 424423, 1048575, 2097151, 4194303]
theorem kauditref03_Format.tab4 : rtab .any (opsOf Tryz.f17 4) = kauditref03_Format.T4 := by kernel_rfl
theorem kauditref03_Format.bits4 : waitsOk kauditref03_Format.T4.2 kauditref03_Format.B4 = true := by kernel_rfl
set_option maxHeartbeats 8000000 in
set_option maxRecDepth 100000 in
theorem kauditref03_Format.calls (k : Nat) (a0_0 : Int) (a0_1 : Int) (a0_2 : Int) (A0_3 : Option Addr) (c0_3 : Nat) (l0_3 : List (S88)) (r1 : ByteArray) (r2 : Int) (w : World) (hr0_3 : Kd.C k88 w A0_3 l0_3.length l0_3) (hc0_3 : l0_3.length ≤ c0_3) (h : kauditref03_Format.f k a0_0 a0_1 a0_2 l0_3 = some (r1, r2)) :
  Calls Tryz.prog 17 #[.agg #[.int .i64 a0_0, .int .i64 a0_1, .int .i64 a0_2, .slice A0_3 l0_3.length c0_3]] w fun e w' => e = .returned (.tuple #[.string r1, .int .i64 r2]) ∧ Below w.heap.size w w' := by
 have hu51 := Tryz.underlying51
 have hu88 := Tryz.underlying88
 have HR0_3 := Zaa.mk hr0_3
 have HC0_3 := Zaa.mk hc0_3
 clear hr0_3 hc0_3
 have HB := Zaa.mk (Below.refl w.heap.size w)
 unfold kauditref03_Format.f at h
 have H := h
 clear h
 replace H := Option.bind_eq_some_iff.mp H
 obtain ⟨t218, A20, H⟩ := H
 try dsimp only at H
 have A2 := Zaa.mk A20
 clear A20
 by_cases c3 : t218 = 0
 ·rw [if_pos c3] at H
  have c3b0 : (t218 == 0) = true := beq_iff_eq.mpr c3
  have c3b1 : (t218 != 0) = false := bne_eq_false_iff_eq.mpr c3
  clear c3
  replace H := Option.bind_eq_some_iff.mp H
  obtain ⟨t219, A40, H⟩ := H
  try dsimp only at H
  have A4 := Zaa.mk A40
  clear A40
  by_cases c5 : 5 + t219.size ≤ 9223372036854775807
  ·rw [if_pos c5] at H
   have c5b0 := eq_true c5
   have c5b1 : decide (5 + t219.size ≤ 9223372036854775807) = true := decide_eq_true c5
   try have c5b2 : (9223372036854775807 < 5 + t219.size) = False := eq_false (Nat.not_lt.2 c5)
   by_cases c6 : ((⟨#[116, 121, 112, 101, 61]⟩ : ByteArray) ++ t219).size + 11 ≤ 9223372036854775807
   ·rw [if_pos c6] at H
    have c6b0 := eq_true c6
    have c6b1 : decide (((⟨#[116, 121, 112, 101, 61]⟩ : ByteArray) ++ t219).size + 11 ≤ 9223372036854775807) = true := decide_eq_true c6
    try have c6b2 : (9223372036854775807 < ((⟨#[116, 121, 112, 101, 61]⟩ : ByteArray) ++ t219).size + 11) = False := eq_false (Nat.not_lt.2 c6)
    try (have c6b3 := c6; simp only [ByteArray.size_append, Go.Proofs.YtodbabeldolcbaaGreatDoor.PW.size_mk, List.size_toArray, List.length_cons, List.length_nil, Nat.reduceAdd] at c6b3; have c6b4 := eq_false (Nat.not_lt.2 c6b3))
    replace H := Option.bind_eq_some_iff.mp H
    obtain ⟨t220, A70, H⟩ := H
    try dsimp only at H
    have A7 := Zaa.mk A70
    clear A70
    by_cases c8 : (((⟨#[116, 121, 112, 101, 61]⟩ : ByteArray) ++ t219) ++ (⟨#[32, 109, 115, 103, 61, 97, 117, 100, 105, 116, 40]⟩ : ByteArray)).size + t220.size ≤ 9223372036854775807
    ·rw [if_pos c8] at H
     have c8b0 := eq_true c8
     have c8b1 : decide ((((⟨#[116, 121, 112, 101, 61]⟩ : ByteArray) ++ t219) ++ (⟨#[32, 109, 115, 103, 61, 97, 117, 100, 105, 116, 40]⟩ : ByteArray)).size + t220.size ≤ 9223372036854775807) = true := decide_eq_true c8
     try have c8b2 : (9223372036854775807 < (((⟨#[116, 121, 112, 101, 61]⟩ : ByteArray) ++ t219) ++ (⟨#[32, 109, 115, 103, 61, 97, 117, 100, 105, 116, 40]⟩ : ByteArray)).size + t220.size) = False := eq_false (Nat.not_lt.2 c8)
     try (have c8b3 := c8; simp only [ByteArray.size_append, Go.Proofs.YtodbabeldolcbaaGreatDoor.PW.size_mk, List.size_toArray, List.length_cons, List.length_nil, Nat.reduceAdd] at c8b3; have c8b4 := eq_false (Nat.not_lt.2 c8b3))
     by_cases c9 : ((((⟨#[116, 121, 112, 101, 61]⟩ : ByteArray) ++ t219) ++ (⟨#[32, 109, 115, 103, 61, 97, 117, 100, 105, 116, 40]⟩ : ByteArray)) ++ t220).size + 1 ≤ 9223372036854775807
     ·rw [if_pos c9] at H
      have c9b0 := eq_true c9
      have c9b1 : decide (((((⟨#[116, 121, 112, 101, 61]⟩ : ByteArray) ++ t219) ++ (⟨#[32, 109, 115, 103, 61, 97, 117, 100, 105, 116, 40]⟩ : ByteArray)) ++ t220).size + 1 ≤ 9223372036854775807) = true := decide_eq_true c9
      try have c9b2 : (9223372036854775807 < ((((⟨#[116, 121, 112, 101, 61]⟩ : ByteArray) ++ t219) ++ (⟨#[32, 109, 115, 103, 61, 97, 117, 100, 105, 116, 40]⟩ : ByteArray)) ++ t220).size + 1) = False := eq_false (Nat.not_lt.2 c9)
      try (have c9b3 := c9; simp only [ByteArray.size_append, Go.Proofs.YtodbabeldolcbaaGreatDoor.PW.size_mk, List.size_toArray, List.length_cons, List.length_nil, Nat.reduceAdd] at c9b3; have c9b4 := eq_false (Nat.not_lt.2 c9b3))
      replace H := Option.bind_eq_some_iff.mp H
      obtain ⟨t221, A100, H⟩ := H
      try dsimp only at H
      have A10 := Zaa.mk A100
      clear A100
      by_cases c11 : (((((⟨#[116, 121, 112, 101, 61]⟩ : ByteArray) ++ t219) ++ (⟨#[32, 109, 115, 103, 61, 97, 117, 100, 105, 116, 40]⟩ : ByteArray)) ++ t220) ++ (⟨#[46]⟩ : ByteArray)).size + t221.size ≤ 9223372036854775807
      ·rw [if_pos c11] at H
       have c11b0 := eq_true c11
       have c11b1 : decide ((((((⟨#[116, 121, 112, 101, 61]⟩ : ByteArray) ++ t219) ++ (⟨#[32, 109, 115, 103, 61, 97, 117, 100, 105, 116, 40]⟩ : ByteArray)) ++ t220) ++ (⟨#[46]⟩ : ByteArray)).size + t221.size ≤ 9223372036854775807) = true := decide_eq_true c11
       try have c11b2 : (9223372036854775807 < (((((⟨#[116, 121, 112, 101, 61]⟩ : ByteArray) ++ t219) ++ (⟨#[32, 109, 115, 103, 61, 97, 117, 100, 105, 116, 40]⟩ : ByteArray)) ++ t220) ++ (⟨#[46]⟩ : ByteArray)).size + t221.size) = False := eq_false (Nat.not_lt.2 c11)
       try (have c11b3 := c11; simp only [ByteArray.size_append, Go.Proofs.YtodbabeldolcbaaGreatDoor.PW.size_mk, List.size_toArray, List.length_cons, List.length_nil, Nat.reduceAdd] at c11b3; have c11b4 := eq_false (Nat.not_lt.2 c11b3))
       by_cases c12 : ((((((⟨#[116, 121, 112, 101, 61]⟩ : ByteArray) ++ t219) ++ (⟨#[32, 109, 115, 103, 61, 97, 117, 100, 105, 116, 40]⟩ : ByteArray)) ++ t220) ++ (⟨#[46]⟩ : ByteArray)) ++ t221).size + 1 ≤ 9223372036854775807
       ·rw [if_pos c12] at H
        have c12b0 := eq_true c12
        have c12b1 : decide (((((((⟨#[116, 121, 112, 101, 61]⟩ : ByteArray) ++ t219) ++ (⟨#[32, 109, 115, 103, 61, 97, 117, 100, 105, 116, 40]⟩ : ByteArray)) ++ t220) ++ (⟨#[46]⟩ : ByteArray)) ++ t221).size + 1 ≤ 9223372036854775807) = true := decide_eq_true c12
        try have c12b2 : (9223372036854775807 < ((((((⟨#[116, 121, 112, 101, 61]⟩ : ByteArray) ++ t219) ++ (⟨#[32, 109, 115, 103, 61, 97, 117, 100, 105, 116, 40]⟩ : ByteArray)) ++ t220) ++ (⟨#[46]⟩ : ByteArray)) ++ t221).size + 1) = False := eq_false (Nat.not_lt.2 c12)
        try (have c12b3 := c12; simp only [ByteArray.size_append, Go.Proofs.YtodbabeldolcbaaGreatDoor.PW.size_mk, List.size_toArray, List.length_cons, List.length_nil, Nat.reduceAdd] at c12b3; have c12b4 := eq_false (Nat.not_lt.2 c12b3))
        replace H := Option.bind_eq_some_iff.mp H
        obtain ⟨t222, A130, H⟩ := H
        try dsimp only at H
        have A13 := Zaa.mk A130
        clear A130
        by_cases c14 : (((((((⟨#[116, 121, 112, 101, 61]⟩ : ByteArray) ++ t219) ++ (⟨#[32, 109, 115, 103, 61, 97, 117, 100, 105, 116, 40]⟩ : ByteArray)) ++ t220) ++ (⟨#[46]⟩ : ByteArray)) ++ t221) ++ (⟨#[58]⟩ : ByteArray)).size + t222.size ≤ 9223372036854775807
        ·rw [if_pos c14] at H
         have c14b0 := eq_true c14
         have c14b1 : decide ((((((((⟨#[116, 121, 112, 101, 61]⟩ : ByteArray) ++ t219) ++ (⟨#[32, 109, 115, 103, 61, 97, 117, 100, 105, 116, 40]⟩ : ByteArray)) ++ t220) ++ (⟨#[46]⟩ : ByteArray)) ++ t221) ++ (⟨#[58]⟩ : ByteArray)).size + t222.size ≤ 9223372036854775807) = true := decide_eq_true c14
         try have c14b2 : (9223372036854775807 < (((((((⟨#[116, 121, 112, 101, 61]⟩ : ByteArray) ++ t219) ++ (⟨#[32, 109, 115, 103, 61, 97, 117, 100, 105, 116, 40]⟩ : ByteArray)) ++ t220) ++ (⟨#[46]⟩ : ByteArray)) ++ t221) ++ (⟨#[58]⟩ : ByteArray)).size + t222.size) = False := eq_false (Nat.not_lt.2 c14)
         try (have c14b3 := c14; simp only [ByteArray.size_append, Go.Proofs.YtodbabeldolcbaaGreatDoor.PW.size_mk, List.size_toArray, List.length_cons, List.length_nil, Nat.reduceAdd] at c14b3; have c14b4 := eq_false (Nat.not_lt.2 c14b3))
         by_cases c15 : ((((((((⟨#[116, 121, 112, 101, 61]⟩ : ByteArray) ++ t219) ++ (⟨#[32, 109, 115, 103, 61, 97, 117, 100, 105, 116, 40]⟩ : ByteArray)) ++ t220) ++ (⟨#[46]⟩ : ByteArray)) ++ t221) ++ (⟨#[58]⟩ : ByteArray)) ++ t222).size + 2 ≤ 9223372036854775807
         ·rw [if_pos c15] at H
          have c15b0 := eq_true c15
          have c15b1 : decide (((((((((⟨#[116, 121, 112, 101, 61]⟩ : ByteArray) ++ t219) ++ (⟨#[32, 109, 115, 103, 61, 97, 117, 100, 105, 116, 40]⟩ : ByteArray)) ++ t220) ++ (⟨#[46]⟩ : ByteArray)) ++ t221) ++ (⟨#[58]⟩ : ByteArray)) ++ t222).size + 2 ≤ 9223372036854775807) = true := decide_eq_true c15
          try have c15b2 : (9223372036854775807 < ((((((((⟨#[116, 121, 112, 101, 61]⟩ : ByteArray) ++ t219) ++ (⟨#[32, 109, 115, 103, 61, 97, 117, 100, 105, 116, 40]⟩ : ByteArray)) ++ t220) ++ (⟨#[46]⟩ : ByteArray)) ++ t221) ++ (⟨#[58]⟩ : ByteArray)) ++ t222).size + 2) = False := eq_false (Nat.not_lt.2 c15)
          try (have c15b3 := c15; simp only [ByteArray.size_append, Go.Proofs.YtodbabeldolcbaaGreatDoor.PW.size_mk, List.size_toArray, List.length_cons, List.length_nil, Nat.reduceAdd] at c15b3; have c15b4 := eq_false (Nat.not_lt.2 c15b3))
          have H' := Zaa.mk H
          clear H
          go_enter Tryz.func17, Tryz.ntmps17
          try go_wp2_with (first | ((with_reducible refine Zav (N := 1) rfl ?_); refine Zaw ?hg (N := 1) ?hd (cs := #[.int .i64 a0_0, .int .i64 a0_1, .int .i64 a0_2, .slice A0_3 l0_3.length c0_3]) (t := 51) ?hr ?_; (case hd => rfl); (case hg => rfl); (case hr => first | (go_simp; done) | (go_simp; rfl)); intro gb217 hg w16 hbox hb; have BK217 := Zaa.mk (hbox); have GW217 := Zaa.mk ((by rw [hg]; exact (Zai (zb1 HB)) : w.heap.size ≤ gb217)); have GE217 := Zaa.mk ((by rw [hg]; exact (Zai (zb1 HB)) : w.heap.size ≤ gb217)); replace HB := Zaa.mk (Zae (zb1 HB) hb); clear hb hbox hg; obtain ⟨hcz17_0, hcz17_1, hcz17_2, hcz17_3⟩ := bc4 BK217.out; obtain ⟨hfz17_0, hfz17_1, hfz17_2, hfz17_3⟩ := bf4 BK217.out) | ((with_reducible refine Zam (f := 42) rfl ?_); refine Za1 (some 10) rfl rfl Tryz.func42 (by kernel_rfl) rfl #[.agg #[.int .i64 a0_0, .int .i64 a0_1, .int .i64 a0_2, .slice A0_3 l0_3.length c0_3]] rfl zam ?_; (with_reducible refine (kauditref03_Check.calls k a0_0 a0_1 a0_2 _ _ l0_3 t218 _ ?side1 ?side2 A2.out).mono ?_); (case side1 => repeat (first | exact (Kd.C_below HR0_3.out HB.out) | (with_reducible refine Kd.C_alloc ?_ _) | (with_reducible refine Kd.C_drewN ?_ _) | (with_reducible refine Kd.C_drew ?_))); (case side2 => exact HC0_3.out); rintro e w18 ⟨rfl, hb⟩; refine ⟨_, rfl, ?_⟩; replace BK217 := Zaa.mk (Zah (g := gb217) (o := .cells #[.int .i64 a0_0, .int .i64 a0_1, .int .i64 a0_2, .slice A0_3 l0_3.length c0_3] 51 (0, 0)) (zbk BK217) hb); replace HB := Zaa.mk (Zae (zb2 HB GE217.out) hb); (try clear hb)))
          replace BK217 := Zaa.mk (Zad BK217.out)
          replace HB := Zaa.mk (Zau HB.out)
          refine start_ (n := 23) (S := fun w' => w'.cell? ⟨gb217, 0, none⟩ = some (.int .i64 a0_0) ∧ w'.cell? ⟨gb217, 1, none⟩ = some (.int .i64 a0_1) ∧ w'.cell? ⟨gb217, 2, none⟩ = some (.int .i64 a0_2) ∧ w'.cell? ⟨gb217, 3, none⟩ = some (.slice A0_3 l0_3.length c0_3)) (ds := []) #[false, false, false, false, false, false, false, false, false, false, false, false, false, false, false, false, false, false, false, false, false, false, false] (by kernel_rfl) rfl rfl ⟨(Zaf BK217.out 0).trans rfl, (Zaf BK217.out 1).trans rfl, (Zaf BK217.out 2).trans rfl, (Zaf BK217.out 3).trans rfl⟩ (fun hHeld => ?_); refine with_tabW kauditref03_Format.tab4 kauditref03_Format.bits4 (fun HT_ HW_ => ?_)
          generalize w18.drew = w19 at BK217 HB hHeld ⊢
          refine Za4 (i := 0) (N := some 14) (v := ?_) (a' := ?_) #[true, false, false, false, false, false, false, false, false, false, false, false, false, false, false, false, false, false, false, false, false, false, false] rfl rfl (Zaz HT_.out (by kernel_rfl)) (fun _ _ _ h => h) (Or.inl ⟨by rfl, ?_⟩) ?_ ?_
          rotate_left
          ·intro w'
           go_simp
           with_reducible rfl
          rotate_left
          ·simp only [Act.put, List.setIfInBounds_toArray, List.set_cons_zero, List.set_cons_succ, Zax, Zay]
           rfl
          refine Za4 (i := 5) (N := some 19) (v := ?_) (a' := ?_) #[true, false, false, false, false, true, false, false, false, false, false, false, false, false, false, false, false, false, false, false, false, false, false] rfl rfl (Zaz HT_.out (by kernel_rfl)) (fun _ _ _ h => h) (Or.inl ⟨by rfl, ?_⟩) ?_ ?_
          rotate_left
          ·intro w'
           go_simp
           with_reducible rfl
          rotate_left
          ·simp only [Act.put, List.setIfInBounds_toArray, List.set_cons_zero, List.set_cons_succ, Zax, Zay]
           rfl
          refine Za4 (i := 11) (N := some 25) (v := ?_) (a' := ?_) #[true, false, false, false, false, true, false, false, false, false, false, true, false, false, false, false, false, false, false, false, false, false, false] rfl rfl (Zaz HT_.out (by kernel_rfl)) (fun _ _ _ h => h) (Or.inl ⟨by rfl, ?_⟩) ?_ ?_
          rotate_left
          ·intro w'
           go_simp
           with_reducible rfl
          rotate_left
          ·simp only [Act.put, List.setIfInBounds_toArray, List.set_cons_zero, List.set_cons_succ, Zax, Zay]
           rfl
          refine Za4 (i := 17) (N := some 31) (v := ?_) (a' := ?_) #[true, false, false, false, false, true, false, false, false, false, false, true, false, false, false, false, false, true, false, false, false, false, false] rfl rfl (Zaz HT_.out (by kernel_rfl)) (fun _ _ _ h => h) (Or.inl ⟨by rfl, ?_⟩) ?_ ?_
          rotate_left
          ·intro w'
           go_simp
           with_reducible rfl
          rotate_left
          ·simp only [Act.put, List.setIfInBounds_toArray, List.set_cons_zero, List.set_cons_succ, Zax, Zay]
           rfl
          refine take_ (i := 1) (N := some 15) (v := ?_) (a' := ?_) #[true, true, false, false, false, true, false, false, false, false, false, true, false, false, false, false, false, true, false, false, false, false, false] rfl rfl (Zb7 HT_.out HW_.out (by kernel_rfl)) (fun _ _ _ h => h) (Or.inl ⟨by rfl, ?_⟩) hHeld ?_ ?_
          rotate_left
          ·rintro w' ⟨s0, s1, s2, s3⟩
           go_simp
           with_reducible rfl
          rotate_left
          ·simp only [Act.put, List.setIfInBounds_toArray, List.set_cons_zero, List.set_cons_succ, Zax, Zay]
           rfl
          refine take_ (i := 6) (N := some 20) (v := ?_) (a' := ?_) #[true, true, false, false, false, true, true, false, false, false, false, true, false, false, false, false, false, true, false, false, false, false, false] rfl rfl (Zb7 HT_.out HW_.out (by kernel_rfl)) (fun _ _ _ h => h) (Or.inl ⟨by rfl, ?_⟩) hHeld ?_ ?_
          rotate_left
          ·rintro w' ⟨s0, s1, s2, s3⟩
           go_simp
           with_reducible rfl
          rotate_left
          ·simp only [Act.put, List.setIfInBounds_toArray, List.set_cons_zero, List.set_cons_succ, Zax, Zay]
           rfl
          refine Za4 (i := 7) (N := some 21) (v := ?_) (a' := ?_) #[true, true, false, false, false, true, true, true, false, false, false, true, false, false, false, false, false, true, false, false, false, false, false] rfl rfl (Zaz HT_.out (by kernel_rfl)) (fun _ _ _ h => h) (Or.inl ⟨by rfl, ?_⟩) ?_ ?_
          rotate_left
          ·intro w'
           go_simp
           with_reducible rfl
          rotate_left
          ·simp only [Act.put, List.setIfInBounds_toArray, List.set_cons_zero, List.set_cons_succ, Zax, Zay]
           rfl
          refine take_ (i := 12) (N := some 26) (v := ?_) (a' := ?_) #[true, true, false, false, false, true, true, true, false, false, false, true, true, false, false, false, false, true, false, false, false, false, false] rfl rfl (Zb7 HT_.out HW_.out (by kernel_rfl)) (fun _ _ _ h => h) (Or.inl ⟨by rfl, ?_⟩) hHeld ?_ ?_
          rotate_left
          ·rintro w' ⟨s0, s1, s2, s3⟩
           go_simp
           with_reducible rfl
          rotate_left
          ·simp only [Act.put, List.setIfInBounds_toArray, List.set_cons_zero, List.set_cons_succ, Zax, Zay]
           rfl
          refine Za4 (i := 13) (N := some 27) (v := ?_) (a' := ?_) #[true, true, false, false, false, true, true, true, false, false, false, true, true, true, false, false, false, true, false, false, false, false, false] rfl rfl (Zaz HT_.out (by kernel_rfl)) (fun _ _ _ h => h) (Or.inl ⟨by rfl, ?_⟩) ?_ ?_
          rotate_left
          ·intro w'
           go_simp
           with_reducible rfl
          rotate_left
          ·simp only [Act.put, List.setIfInBounds_toArray, List.set_cons_zero, List.set_cons_succ, Zax, Zay]
           rfl
          refine take_ (i := 18) (N := some 32) (v := ?_) (a' := ?_) #[true, true, false, false, false, true, true, true, false, false, false, true, true, true, false, false, false, true, true, false, false, false, false] rfl rfl (Zb7 HT_.out HW_.out (by kernel_rfl)) (fun _ _ _ h => h) (Or.inl ⟨by rfl, ?_⟩) hHeld ?_ ?_
          rotate_left
          ·rintro w' ⟨s0, s1, s2, s3⟩
           go_simp
           with_reducible rfl
          rotate_left
          ·simp only [Act.put, List.setIfInBounds_toArray, List.set_cons_zero, List.set_cons_succ, Zax, Zay]
           rfl
          refine one_ (i := 2) (N := some 16) #[true, true, true, false, false, true, true, true, false, false, false, true, true, true, false, false, false, true, true, false, false, false, false] rfl rfl (Zbq HT_.out (by kernel_rfl)) (by decide) (fun K hK => ?_)
          refine goes_ Tryz.func43 (by kernel_rfl) rfl #[.int .i64 a0_0] (by rfl) rfl rfl zam ?_
          with_reducible refine (kauditref03_Name.calls k a0_0 t219 _ A4.out).mono ?_
          rintro e w20 ⟨rfl, hb⟩
          refine ⟨_, rfl, ?_⟩
          replace BK217 := Zaa.mk (Zah (g := gb217) (o := .cells #[.int .i64 a0_0, .int .i64 a0_1, .int .i64 a0_2, .slice A0_3 l0_3.length c0_3] 51 (0, 0)) (zbk BK217) hb)
          replace HB := Zaa.mk (Zae (zb2 HB GE217.out) hb)
          (try clear hb)
          (try clear hb2)
          (try clear hk)
          (try clear hi)
          refine hK.out _ _ ⟨(Zaf BK217.out 0).trans rfl, (Zaf BK217.out 1).trans rfl, (Zaf BK217.out 2).trans rfl, (Zaf BK217.out 3).trans rfl⟩ (fun hHeld => ?_)
          clear hK K
          refine norm_ (a' := ?_) ?_ ?_
          rotate_left
          ·show Act.put _ (some 16) _ = _
           simp only [Act.put, List.setIfInBounds_toArray, List.set_cons_zero, List.set_cons_succ, Zax, Zay]
           rfl
          refine Za4 (i := 3) (N := some 17) (v := ?_) (a' := ?_) #[true, true, true, true, false, true, true, true, false, false, false, true, true, true, false, false, false, true, true, false, false, false, false] rfl rfl (Zaz HT_.out (by kernel_rfl)) (fun _ _ _ h => h) (Or.inl ⟨by rfl, ?_⟩) ?_ ?_
          rotate_left
          ·intro w'
           go_simp
           with_reducible rfl
          rotate_left
          ·simp only [Act.put, List.setIfInBounds_toArray, List.set_cons_zero, List.set_cons_succ, Zax, Zay]
           rfl
          refine Za4 (i := 4) (N := some 18) (v := ?_) (a' := ?_) #[true, true, true, true, true, true, true, true, false, false, false, true, true, true, false, false, false, true, true, false, false, false, false] rfl rfl (Zaz HT_.out (by kernel_rfl)) (fun _ _ _ h => h) (Or.inl ⟨by rfl, ?_⟩) ?_ ?_
          rotate_left
          ·intro w'
           go_simp
           with_reducible rfl
          rotate_left
          ·simp only [Act.put, List.setIfInBounds_toArray, List.set_cons_zero, List.set_cons_succ, Zax, Zay]
           rfl
          refine one_ (i := 8) (N := some 22) #[true, true, true, true, true, true, true, true, true, false, false, true, true, true, false, false, false, true, true, false, false, false, false] rfl rfl (Zbq HT_.out (by kernel_rfl)) (by decide) (fun K hK => ?_)
          refine goes_ Tryz.func44 (by kernel_rfl) rfl #[.int .i64 (wrap64 (Int.tdiv a0_1 1000))] (by rfl) rfl rfl zam ?_
          with_reducible refine (kauditref01_Decimal.calls (wrap64 (Int.tdiv a0_1 1000)) t220 _ A7.out).mono ?_
          rintro e w' ⟨rfl, ⟨nd, rfl⟩⟩
          refine ⟨_, rfl, ?_⟩
          refine hK.out _ _ ⟨(Zaf BK217.out 0).trans rfl, (Zaf BK217.out 1).trans rfl, (Zaf BK217.out 2).trans rfl, (Zaf BK217.out 3).trans rfl⟩ (fun hHeld => ?_)
          clear hK K
          refine norm_ (a' := ?_) ?_ ?_
          rotate_left
          ·show Act.put _ (some 22) _ = _
           simp only [Act.put, List.setIfInBounds_toArray, List.set_cons_zero, List.set_cons_succ, Zax, Zay]
           rfl
          refine Za4 (i := 9) (N := some 23) (v := ?_) (a' := ?_) #[true, true, true, true, true, true, true, true, true, true, false, true, true, true, false, false, false, true, true, false, false, false, false] rfl rfl (Zaz HT_.out (by kernel_rfl)) (fun _ _ _ h => h) (Or.inl ⟨by rfl, ?_⟩) ?_ ?_
          rotate_left
          ·intro w'
           go_simp
           with_reducible rfl
          rotate_left
          ·simp only [Act.put, List.setIfInBounds_toArray, List.set_cons_zero, List.set_cons_succ, Zax, Zay]
           rfl
          refine Za4 (i := 10) (N := some 24) (v := ?_) (a' := ?_) #[true, true, true, true, true, true, true, true, true, true, true, true, true, true, false, false, false, true, true, false, false, false, false] rfl rfl (Zaz HT_.out (by kernel_rfl)) (fun _ _ _ h => h) (Or.inl ⟨by rfl, ?_⟩) ?_ ?_
          rotate_left
          ·intro w'
           go_simp
           with_reducible rfl
          rotate_left
          ·simp only [Act.put, List.setIfInBounds_toArray, List.set_cons_zero, List.set_cons_succ, Zax, Zay]
           rfl
          refine one_ (i := 14) (N := some 28) #[true, true, true, true, true, true, true, true, true, true, true, true, true, true, true, false, false, true, true, false, false, false, false] rfl rfl (Zbq HT_.out (by kernel_rfl)) (by decide) (fun K hK => ?_)
          refine goes_ Tryz.func45 (by kernel_rfl) rfl #[.int .i64 (Int.tmod a0_1 1000)] (by rfl) rfl rfl zam ?_
          with_reducible refine (kauditref03_three.calls (Int.tmod a0_1 1000) t221 _ A10.out).mono ?_
          rintro e w' ⟨rfl, ⟨nd, rfl⟩⟩
          refine ⟨_, rfl, ?_⟩
          refine hK.out _ _ ⟨(Zaf BK217.out 0).trans rfl, (Zaf BK217.out 1).trans rfl, (Zaf BK217.out 2).trans rfl, (Zaf BK217.out 3).trans rfl⟩ (fun hHeld => ?_)
          clear hK K
          refine norm_ (a' := ?_) ?_ ?_
          rotate_left
          ·show Act.put _ (some 28) _ = _
           simp only [Act.put, List.setIfInBounds_toArray, List.set_cons_zero, List.set_cons_succ, Zax, Zay]
           rfl
          refine Za4 (i := 15) (N := some 29) (v := ?_) (a' := ?_) #[true, true, true, true, true, true, true, true, true, true, true, true, true, true, true, true, false, true, true, false, false, false, false] rfl rfl (Zaz HT_.out (by kernel_rfl)) (fun _ _ _ h => h) (Or.inl ⟨by rfl, ?_⟩) ?_ ?_
          rotate_left
          ·intro w'
           go_simp
           with_reducible rfl
          rotate_left
          ·simp only [Act.put, List.setIfInBounds_toArray, List.set_cons_zero, List.set_cons_succ, Zax, Zay]
           rfl
          refine Za4 (i := 16) (N := some 30) (v := ?_) (a' := ?_) #[true, true, true, true, true, true, true, true, true, true, true, true, true, true, true, true, true, true, true, false, false, false, false] rfl rfl (Zaz HT_.out (by kernel_rfl)) (fun _ _ _ h => h) (Or.inl ⟨by rfl, ?_⟩) ?_ ?_
          rotate_left
          ·intro w'
           go_simp
           with_reducible rfl
          rotate_left
          ·simp only [Act.put, List.setIfInBounds_toArray, List.set_cons_zero, List.set_cons_succ, Zax, Zay]
           rfl
          refine one_ (i := 19) (N := some 33) #[true, true, true, true, true, true, true, true, true, true, true, true, true, true, true, true, true, true, true, true, false, false, false] rfl rfl (Zbq HT_.out (by kernel_rfl)) (by decide) (fun K hK => ?_)
          refine goes_ Tryz.func44 (by kernel_rfl) rfl #[.int .i64 a0_2] (by rfl) rfl rfl zam ?_
          with_reducible refine (kauditref01_Decimal.calls a0_2 t222 _ A13.out).mono ?_
          rintro e w' ⟨rfl, ⟨nd, rfl⟩⟩
          refine ⟨_, rfl, ?_⟩
          refine hK.out _ _ ⟨(Zaf BK217.out 0).trans rfl, (Zaf BK217.out 1).trans rfl, (Zaf BK217.out 2).trans rfl, (Zaf BK217.out 3).trans rfl⟩ (fun hHeld => ?_)
          clear hK K
          refine norm_ (a' := ?_) ?_ ?_
          rotate_left
          ·show Act.put _ (some 33) _ = _
           simp only [Act.put, List.setIfInBounds_toArray, List.set_cons_zero, List.set_cons_succ, Zax, Zay]
           rfl
          refine Za4 (i := 20) (N := some 34) (v := ?_) (a' := ?_) #[true, true, true, true, true, true, true, true, true, true, true, true, true, true, true, true, true, true, true, true, true, false, false] rfl rfl (Zaz HT_.out (by kernel_rfl)) (fun _ _ _ h => h) (Or.inl ⟨by rfl, ?_⟩) ?_ ?_
          rotate_left
          ·intro w'
           go_simp
           with_reducible rfl
          rotate_left
          ·simp only [Act.put, List.setIfInBounds_toArray, List.set_cons_zero, List.set_cons_succ, Zax, Zay]
           rfl
          refine Za4 (i := 21) (N := some 35) (v := ?_) (a' := ?_) #[true, true, true, true, true, true, true, true, true, true, true, true, true, true, true, true, true, true, true, true, true, true, false] rfl rfl (Zaz HT_.out (by kernel_rfl)) (fun _ _ _ h => h) (Or.inl ⟨by rfl, ?_⟩) ?_ ?_
          rotate_left
          ·intro w'
           go_simp
           with_reducible rfl
          rotate_left
          ·simp only [Act.put, List.setIfInBounds_toArray, List.set_cons_zero, List.set_cons_succ, Zax, Zay]
           rfl
          refine Za4 (i := 22) (N := some 5) (v := ?_) (a' := ?_) #[true, true, true, true, true, true, true, true, true, true, true, true, true, true, true, true, true, true, true, true, true, true, true] rfl rfl (Zaz HT_.out (by kernel_rfl)) (fun _ _ _ h => h) (Or.inl ⟨by rfl, ?_⟩) ?_ ?_
          rotate_left
          ·intro w'
           go_simp
           with_reducible rfl
          rotate_left
          ·simp only [Act.put, List.setIfInBounds_toArray, List.set_cons_zero, List.set_cons_succ, Zax, Zay]
           rfl
          refine done_ (done_of HT_.out (by kernel_rfl)) ?_
          try go_wp2
          go_loopg [5, 6] k (fun kq v5 v6 w' => ∃ (x5_1 : ByteArray) (x6_1 : Int), v5 = .string x5_1 ∧ v6 = .int .i64 x6_1 ∧ Zaa (kauditref03_Format.l0 kq x5_1 x6_1 a0_0 a0_1 a0_2 l0_3 = some (r1, r2)) ∧ Zaa (kq ≤ k) ∧ Zaa (w'.heap[gb217]? = some (.cells #[.int .i64 a0_0, .int .i64 a0_1, .int .i64 a0_2, (.slice A0_3 l0_3.length c0_3)] 51 (0, 0))) ∧ Zaa (Below w.heap.size w w'))
          case atStart => exact ⟨(((((((((⟨#[116, 121, 112, 101, 61]⟩ : ByteArray) ++ t219) ++ (⟨#[32, 109, 115, 103, 61, 97, 117, 100, 105, 116, 40]⟩ : ByteArray)) ++ t220) ++ (⟨#[46]⟩ : ByteArray)) ++ t221) ++ (⟨#[58]⟩ : ByteArray)) ++ t222) ++ (⟨#[41, 58]⟩ : ByteArray)), (0), (by first | rfl | (simp; done) | (simp [*]; done)), (by first | rfl | (simp; done) | (simp [*]; done)), H', ⟨Nat.le_refl _⟩, ⟨by (with_reducible repeat (first | refine Zac ?_ _ | refine Zad ?_ | refine Zab ?_ _)); exact BK217.out⟩, ⟨(zb2 HB GE217.out)⟩⟩
          case round =>
           clear H'
           (try clear c3)
           (try clear c3b0)
           (try clear c3b1)
           (try clear c5)
           (try clear c5b0)
           (try clear c5b1)
           (try clear c5b2)
           (try clear c6)
           (try clear c6b0)
           (try clear c6b1)
           (try clear c6b2)
           (try clear c8)
           (try clear c8b0)
           (try clear c8b1)
           (try clear c8b2)
           (try clear c9)
           (try clear c9b0)
           (try clear c9b1)
           (try clear c9b2)
           (try clear c11)
           (try clear c11b0)
           (try clear c11b1)
           (try clear c11b2)
           (try clear c12)
           (try clear c12b0)
           (try clear c12b1)
           (try clear c12b2)
           (try clear c14)
           (try clear c14b0)
           (try clear c14b1)
           (try clear c14b2)
           (try clear c15)
           (try clear c15b0)
           (try clear c15b1)
           (try clear c15b2)
           (try clear hcz17_0)
           (try clear hcz17_1)
           (try clear hcz17_2)
           (try clear hcz17_3)
           (try clear hfz17_0)
           (try clear hfz17_1)
           (try clear hfz17_2)
           (try clear hfz17_3)
           obtain ⟨x5_1, x6_1, rfl, rfl, HA, HK1, BK217, HB⟩ := hrel
           cases gk with
           | zero => exact absurd HA.out (by simp [kauditref03_Format.l0])
           | succ k1 =>
            have H := HA.out
            clear HA
            simp only [kauditref03_Format.l0] at H
            by_cases c21 : x6_1 < (l0_3.length : Int)
            ·rw [if_pos c21] at H
             have c21b0 : decide (x6_1 < (l0_3.length : Int)) = true := decide_eq_true c21
             clear c21
             by_cases c22 : 0 ≤ x6_1
             ·rw [if_pos c22] at H
              have c22b0 : decide (0 ≤ x6_1) = true := decide_eq_true c22
              clear c22
              replace H := Option.bind_eq_some_iff.mp H
              obtain ⟨⟨t224, t225⟩, A230, H⟩ := H
              try dsimp only at H
              have A23 := Zaa.mk A230
              clear A230
              by_cases c24 : 1 + t224.size ≤ 9223372036854775807
              ·rw [if_pos c24] at H
               have c24b0 := eq_true c24
               have c24b1 : decide (1 + t224.size ≤ 9223372036854775807) = true := decide_eq_true c24
               try have c24b2 : (9223372036854775807 < 1 + t224.size) = False := eq_false (Nat.not_lt.2 c24)
               by_cases c25 : x5_1.size + ((⟨#[32]⟩ : ByteArray) ++ t224).size ≤ 9223372036854775807
               ·rw [if_pos c25] at H
                have c25b0 := eq_true c25
                have c25b1 : decide (x5_1.size + ((⟨#[32]⟩ : ByteArray) ++ t224).size ≤ 9223372036854775807) = true := decide_eq_true c25
                try have c25b2 : (9223372036854775807 < x5_1.size + ((⟨#[32]⟩ : ByteArray) ++ t224).size) = False := eq_false (Nat.not_lt.2 c25)
                try (have c25b3 := c25; simp only [ByteArray.size_append, Go.Proofs.YtodbabeldolcbaaGreatDoor.PW.size_mk, List.size_toArray, List.length_cons, List.length_nil, Nat.reduceAdd] at c25b3; have c25b4 := eq_false (Nat.not_lt.2 c25b3))
                have H' := Zaa.mk H
                clear H
                obtain ⟨hcz26_0, hcz26_1, hcz26_2, hcz26_3⟩ := bc4 BK217.out
                obtain ⟨hfz26_0, hfz26_1, hfz26_2, hfz26_3⟩ := bf4 BK217.out
                have p223 : 0 ≤ (x6_1 : Int) := zod
                have q223 : x6_1 < (l0_3.length : Int) := zod
                obtain ⟨ad223, e223, hx223_0, hx223_1, hx223_2, hx223_3⟩ := at_T88 HR0_3.out x6_1 p223 q223
                cases e223
                replace hx223_0 := (HB.out.cell (World.block_lt_of_cell? w _ hx223_0)).trans hx223_0
                replace hx223_1 := (HB.out.cell (World.block_lt_of_cell? w _ hx223_1)).trans hx223_1
                replace hx223_2 := (HB.out.cell (World.block_lt_of_cell? w _ hx223_2)).trans hx223_2
                replace hx223_3 := (HB.out.cell (World.block_lt_of_cell? w _ hx223_3)).trans hx223_3
                replace p223 := eq_true p223
                replace q223 := eq_true q223
                go_wp2_with (first | ((with_reducible refine Zam (f := 46) rfl ?_); refine Za1 (some 49) rfl rfl Tryz.func46 (by kernel_rfl) rfl #[.agg #[.string ((Zat l0_3 x6_1).f0), .int .i64 ((Zat l0_3 x6_1).f1), .int .i64 ((Zat l0_3 x6_1).f2), .string ((Zat l0_3 x6_1).f3)]] rfl zam ?_; (with_reducible refine (kauditref02_Format.calls k1 ((Zat l0_3 x6_1).f0) ((Zat l0_3 x6_1).f1) ((Zat l0_3 x6_1).f2) ((Zat l0_3 x6_1).f3) t224 t225 _ A23.out).mono ?_); rintro e w27 ⟨rfl, hb⟩; refine ⟨_, rfl, ?_⟩; replace BK217 := Zaa.mk (Zah (g := gb217) (o := .cells #[.int .i64 a0_0, .int .i64 a0_1, .int .i64 a0_2, .slice (some ad223) l0_3.length c0_3] 51 (0, 0)) (zbk BK217) hb); replace HB := Zaa.mk (Zae (zb2 HB GE217.out) hb); (try clear hb)))
                go_roundg k1
                case measure => have := HK1.out; omega
                case rel => exact ⟨(x5_1 ++ ((⟨#[32]⟩ : ByteArray) ++ t224)), (wrap64 (x6_1 + 1)), (by first | rfl | (simp; done) | (simp [*]; done)), (by first | rfl | (simp; done) | (simp [*]; done)), H', ⟨by have := HK1.out; omega⟩, ⟨by (with_reducible repeat (first | refine Zac ?_ _ | refine Zad ?_ | refine Zab ?_ _)); exact BK217.out⟩, ⟨(zb2 HB GE217.out)⟩⟩
               ·rw [if_neg c25] at H
                exact absurd H (by simp)
              ·rw [if_neg c24] at H
               exact absurd H (by simp)
             ·rw [if_neg c22] at H
              exact absurd H (by simp)
            ·rw [if_neg c21] at H
             have c21b0 : decide (x6_1 < (l0_3.length : Int)) = false := decide_eq_false c21
             clear c21
             simp only [Option.some.injEq, Prod.mk.injEq] at H
             obtain ⟨rfl, rfl⟩ := H
             obtain ⟨hcz28_0, hcz28_1, hcz28_2, hcz28_3⟩ := bc4 BK217.out
             obtain ⟨hfz28_0, hfz28_1, hfz28_2, hfz28_3⟩ := bf4 BK217.out
             go_wp2
             go_ret2
             exact ⟨by first | rfl | (simp [errW_none, errW_some] <;> rfl) | (simp [*, errW_none, errW_some] <;> rfl), (zb2 HB GE217.out)⟩
         ·rw [if_neg c15] at H
          exact absurd H (by simp)
        ·rw [if_neg c14] at H
         exact absurd H (by simp)
       ·rw [if_neg c12] at H
        exact absurd H (by simp)
      ·rw [if_neg c11] at H
       exact absurd H (by simp)
     ·rw [if_neg c9] at H
      exact absurd H (by simp)
    ·rw [if_neg c8] at H
     exact absurd H (by simp)
   ·rw [if_neg c6] at H
    exact absurd H (by simp)
  ·rw [if_neg c5] at H
   exact absurd H (by simp)
 ·rw [if_neg c3] at H
  have c3b0 : (t218 == 0) = false := beq_eq_false_iff_ne.mpr c3
  have c3b1 : (t218 != 0) = true := bne_iff_ne.mpr c3
  simp only [Option.some.injEq, Prod.mk.injEq] at H
  obtain ⟨rfl, rfl⟩ := H
  go_enter Tryz.func17, Tryz.ntmps17
  go_wp2_with (first | ((with_reducible refine Zav (N := 1) rfl ?_); refine Zaw ?hg (N := 1) ?hd (cs := #[.int .i64 a0_0, .int .i64 a0_1, .int .i64 a0_2, .slice A0_3 l0_3.length c0_3]) (t := 51) ?hr ?_; (case hd => rfl); (case hg => rfl); (case hr => first | (go_simp; done) | (go_simp; rfl)); intro gb217 hg w29 hbox hb; have BK217 := Zaa.mk (hbox); have GW217 := Zaa.mk ((by rw [hg]; exact (Zai (zb1 HB)) : w.heap.size ≤ gb217)); have GE217 := Zaa.mk ((by rw [hg]; exact (Zai (zb1 HB)) : w.heap.size ≤ gb217)); replace HB := Zaa.mk (Zae (zb1 HB) hb); clear hb hbox hg; obtain ⟨hcz30_0, hcz30_1, hcz30_2, hcz30_3⟩ := bc4 BK217.out; obtain ⟨hfz30_0, hfz30_1, hfz30_2, hfz30_3⟩ := bf4 BK217.out) | ((with_reducible refine Zam (f := 42) rfl ?_); refine Za1 (some 10) rfl rfl Tryz.func42 (by kernel_rfl) rfl #[.agg #[.int .i64 a0_0, .int .i64 a0_1, .int .i64 a0_2, .slice A0_3 l0_3.length c0_3]] rfl zam ?_; (with_reducible refine (kauditref03_Check.calls k a0_0 a0_1 a0_2 _ _ l0_3 t218 _ ?side1 ?side2 A2.out).mono ?_); (case side1 => repeat (first | exact (Kd.C_below HR0_3.out HB.out) | (with_reducible refine Kd.C_alloc ?_ _) | (with_reducible refine Kd.C_drewN ?_ _) | (with_reducible refine Kd.C_drew ?_))); (case side2 => exact HC0_3.out); rintro e w31 ⟨rfl, hb⟩; refine ⟨_, rfl, ?_⟩; replace BK217 := Zaa.mk (Zah (g := gb217) (o := .cells #[.int .i64 a0_0, .int .i64 a0_1, .int .i64 a0_2, .slice A0_3 l0_3.length c0_3] 51 (0, 0)) (zbk BK217) hb); replace HB := Zaa.mk (Zae (zb2 HB GE217.out) hb); (try clear hb)))
  go_ret2
  exact ⟨by first | rfl | (simp [errW_none, errW_some] <;> rfl) | (simp [*, errW_none, errW_some] <;> rfl), (zb2 HB GE217.out)⟩
-- EXTERNAL: function 23 (record_Format)
-- EXTERNAL: function 41 (record_Check)
end Go.Proofs.YtodbabeldolcbaaGreatDoor.PA
