/- Contracts of functions of the program: written by pr2.py (ours, round the print of the kit) out of the translation; conditions: each contract names its own. -/
import Derived.Test.YtkfddpbmclbdhaaDoorZAPAxvalueCheck
import Derived.Test.YtkfddpbmclbdhaaDoorZAEQuote
import Derived.Test.YtkfddpbmclbdhaaDoorZAEItoa
section
namespace Go.Proofs.YtkfddpbmclbdhaaDoor.PA
open Go.RowKit Go.Proofs.YtkfddpbmclbdhaaDoorW.PrintWords Go.Proofs.YtkfddpbmclbdhaaDoorW.PrintLast Go.Proofs.YtkfddpbmclbdhaaDoorW.PrintMore
attribute [local go_sem] Zaz Zax Za5 Za4 Zas Zar Zay Zaw   -- for this text's walks alone
set_option linter.unusedVariables false
set_option linter.unusedSimpArgs false
def value_Format.f (k : Nat) (a0_0 : ByteArray) (a0_1 : Int) (a0_2 : Int) (a0_3 : ByteArray) : Option (ByteArray × Int) := (value_Check.f k a0_0 a0_1 a0_2 a0_3).bind fun t157 => (if t157 = 0 then (if a0_1 = 1 then ((strconv_Itoa.f a0_2).bind fun t158 => (if a0_0.size + 1 ≤ 9223372036854775807 then (if (a0_0 ++ (⟨#[61]⟩ : ByteArray)).size + t158.size ≤ 9223372036854775807 then (some ((a0_0 ++ (⟨#[61]⟩ : ByteArray)) ++ t158, 0)) else (none)) else (none))) else (if a0_1 = 2 then ((value_Quote.f a0_3).bind fun bt159 => (if a0_0.size + 1 ≤ 9223372036854775807 then (if (a0_0 ++ (⟨#[61]⟩ : ByteArray)).size + bt159.1.size ≤ 9223372036854775807 then (some ((a0_0 ++ (⟨#[61]⟩ : ByteArray)) ++ bt159.1, 0)) else (none)) else (none))) else (if a0_0.size + 1 ≤ 9223372036854775807 then (if (a0_0 ++ (⟨#[61]⟩ : ByteArray)).size + 6 ≤ 9223372036854775807 then (some ((a0_0 ++ (⟨#[61]⟩ : ByteArray)) ++ (⟨#[40, 110, 117, 108, 108, 41]⟩ : ByteArray), 0)) else (none)) else (none)))) else (some ((⟨#[]⟩ : ByteArray), t157)))
theorem value_Format.mono : ∀ a0 a1 a2 a3 k, LeO (value_Format.f k a0 a1 a2 a3) (value_Format.f (k + 1) a0 a1 a2 a3) := by
 intro a0 a1 a2 a3 k
 unfold value_Format.f
 repeat' first
   | (with_reducible exact value_Check.mono _ _ _ _ _)
   | (with_reducible exact LeO.refl _)
   | (with_reducible exact LeO.none _)
   | (with_reducible refine LeO.ite ?_ ?_)
   | (with_reducible refine LeO.bind ?_ (fun _ => ?_))
   | exact value_Check.mono _ _ _ _ _
   | exact LeO.none _
   | refine LeO.ite ?_ ?_
   | refine LeO.bind ?_ (fun _ => ?_)
set_option maxHeartbeats 8000000 in
set_option maxRecDepth 100000 in
theorem value_Format.calls (k : Nat) (a0_0 : ByteArray) (a0_1 : Int) (a0_2 : Int) (a0_3 : ByteArray) (r1 : ByteArray) (r2 : Int) (w : World) (hG : GT 1 w) (h : value_Format.f k a0_0 a0_1 a0_2 a0_3 = some (r1, r2)) :
  Calls Tryd.prog 24 #[.agg #[.string a0_0, .int .i64 a0_1, .int .i64 a0_2, .string a0_3]] w fun e w' => e = .returned (.tuple #[.string r1, .int .i64 r2]) ∧ Below w.heap.size w w' := by
 have hu31 := Tryd.underlying31
 have HG := Zaa.mk hG
 clear hG
 have HB := Zaa.mk (Below.refl w.heap.size w)
 unfold value_Format.f at h
 have H := h
 clear h
 replace H := Option.bind_eq_some_iff.mp H
 obtain ⟨t157, A20, H⟩ := H
 try dsimp only at H
 have A2 := Zaa.mk A20
 clear A20
 by_cases c3 : t157 = 0
 ·rw [if_pos c3] at H
  have c3b0 : (t157 == 0) = true := beq_iff_eq.mpr c3
  have c3b1 : (t157 != 0) = false := bne_eq_false_iff_eq.mpr c3
  clear c3
  by_cases c4 : a0_1 = 1
  ·rw [if_pos c4] at H
   have c4b0 : (a0_1 == 1) = true := beq_iff_eq.mpr c4
   have c4b1 : (a0_1 != 1) = false := bne_eq_false_iff_eq.mpr c4
   clear c4
   replace H := Option.bind_eq_some_iff.mp H
   obtain ⟨t158, A50, H⟩ := H
   try dsimp only at H
   have A5 := Zaa.mk A50
   clear A50
   by_cases c6 : a0_0.size + 1 ≤ 9223372036854775807
   ·rw [if_pos c6] at H
    have c6b0 := eq_true c6
    have c6b1 : decide (a0_0.size + 1 ≤ 9223372036854775807) = true := decide_eq_true c6
    try have c6b2 : (9223372036854775807 < a0_0.size + 1) = False := eq_false (Nat.not_lt.2 c6)
    by_cases c7 : (a0_0 ++ (⟨#[61]⟩ : ByteArray)).size + t158.size ≤ 9223372036854775807
    ·rw [if_pos c7] at H
     have c7b0 := eq_true c7
     have c7b1 : decide ((a0_0 ++ (⟨#[61]⟩ : ByteArray)).size + t158.size ≤ 9223372036854775807) = true := decide_eq_true c7
     try have c7b2 : (9223372036854775807 < (a0_0 ++ (⟨#[61]⟩ : ByteArray)).size + t158.size) = False := eq_false (Nat.not_lt.2 c7)
     try (have c7b3 := c7; simp only [ByteArray.size_append, Go.Proofs.YtkfddpbmclbdhaaDoor.PW.size_mk, List.size_toArray, List.length_cons, List.length_nil, Nat.reduceAdd] at c7b3; have c7b4 := eq_false (Nat.not_lt.2 c7b3))
     simp only [Option.some.injEq, Prod.mk.injEq] at H
     obtain ⟨rfl, rfl⟩ := H
     go_enter Tryd.func24, Tryd.ntmps24
     go_wp2_with (first | ((with_reducible refine Zao (N := 1) rfl ?_); refine Zap ?hg (N := 1) ?hd (cs := #[.string a0_0, .int .i64 a0_1, .int .i64 a0_2, .string a0_3]) (t := 31) ?hr ?_; (case hd => rfl); (case hg => rfl); (case hr => first | (go_simp; done) | (go_simp; rfl)); intro gb156 hg w8 hbox hb; have BK156 := Zaa.mk (hbox); have GW156 := Zaa.mk ((by rw [hg]; exact (Zae (zb1 HB)) : w.heap.size ≤ gb156)); have GE156 := Zaa.mk ((by rw [hg]; exact (Zae (zb1 HB)) : w.heap.size ≤ gb156)); replace HB := Zaa.mk (Zaf (zb1 HB) hb); clear hb hbox hg; obtain ⟨hcz9_0, hcz9_1, hcz9_2, hcz9_3⟩ := bc4 BK156.out; obtain ⟨hfz9_0, hfz9_1, hfz9_2, hfz9_3⟩ := bf4 BK156.out) | ((with_reducible refine Zal (f := 26) rfl ?_); refine Za2 (some 7) rfl rfl Tryd.func26 (by kernel_rfl) rfl #[.agg #[.string a0_0, .int .i64 a0_1, .int .i64 a0_2, .string a0_3]] rfl zam ?_; (with_reducible refine (value_Check.calls k a0_0 a0_1 a0_2 a0_3 t157 _ A2.out).mono ?_); rintro e w10 ⟨rfl, hb⟩; refine ⟨_, rfl, ?_⟩; replace BK156 := Zaa.mk (Zah (g := gb156) (o := .cells #[.string a0_0, .int .i64 a0_1, .int .i64 a0_2, .string a0_3] 31 (0, 0)) (zbk BK156) hb); replace HB := Zaa.mk (Zaf (zb2 HB GE156.out) hb); (try clear hb); obtain ⟨hcz11_0, hcz11_1, hcz11_2, hcz11_3⟩ := bc4 BK156.out; obtain ⟨hfz11_0, hfz11_1, hfz11_2, hfz11_3⟩ := bf4 BK156.out) | ((with_reducible refine Zal (f := 73) rfl ?_); refine Za2 (some 17) rfl rfl Tryd.func73 (by kernel_rfl) rfl #[.int .i64 a0_2] rfl zam ?_; (with_reducible refine (strconv_Itoa.calls a0_2 t158 _ ?side1 A5.out).mono ?_); (case side1 => exact GT.below (by decide) HG.out (zb2 HB GE156.out)); rintro e w12 ⟨rfl, hb⟩; refine ⟨_, rfl, ?_⟩; replace BK156 := Zaa.mk (Zah (g := gb156) (o := .cells #[.string a0_0, .int .i64 a0_1, .int .i64 a0_2, .string a0_3] 31 (0, 0)) (zbk BK156) hb); replace HB := Zaa.mk (Zaf (zb2 HB GE156.out) hb); (try clear hb); obtain ⟨hcz13_0, hcz13_1, hcz13_2, hcz13_3⟩ := bc4 BK156.out; obtain ⟨hfz13_0, hfz13_1, hfz13_2, hfz13_3⟩ := bf4 BK156.out))
     go_ret2
     exact ⟨by first | rfl | (simp [errW_none, errW_some] <;> rfl) | (simp [*, errW_none, errW_some] <;> rfl), (zb2 HB GE156.out)⟩
    ·rw [if_neg c7] at H
     exact absurd H (by simp)
   ·rw [if_neg c6] at H
    exact absurd H (by simp)
  ·rw [if_neg c4] at H
   have c4b0 : (a0_1 == 1) = false := beq_eq_false_iff_ne.mpr c4
   have c4b1 : (a0_1 != 1) = true := bne_iff_ne.mpr c4
   by_cases c14 : a0_1 = 2
   ·rw [if_pos c14] at H
    have c14b0 : (a0_1 == 2) = true := beq_iff_eq.mpr c14
    have c14b1 : (a0_1 != 2) = false := bne_eq_false_iff_eq.mpr c14
    clear c14
    replace H := Option.bind_eq_some_iff.mp H
    obtain ⟨⟨t159, t160⟩, A150, H⟩ := H
    try dsimp only at H
    have A15 := Zaa.mk A150
    clear A150
    by_cases c16 : a0_0.size + 1 ≤ 9223372036854775807
    ·rw [if_pos c16] at H
     have c16b0 := eq_true c16
     have c16b1 : decide (a0_0.size + 1 ≤ 9223372036854775807) = true := decide_eq_true c16
     try have c16b2 : (9223372036854775807 < a0_0.size + 1) = False := eq_false (Nat.not_lt.2 c16)
     by_cases c17 : (a0_0 ++ (⟨#[61]⟩ : ByteArray)).size + t159.size ≤ 9223372036854775807
     ·rw [if_pos c17] at H
      have c17b0 := eq_true c17
      have c17b1 : decide ((a0_0 ++ (⟨#[61]⟩ : ByteArray)).size + t159.size ≤ 9223372036854775807) = true := decide_eq_true c17
      try have c17b2 : (9223372036854775807 < (a0_0 ++ (⟨#[61]⟩ : ByteArray)).size + t159.size) = False := eq_false (Nat.not_lt.2 c17)
      try (have c17b3 := c17; simp only [ByteArray.size_append, Go.Proofs.YtkfddpbmclbdhaaDoor.PW.size_mk, List.size_toArray, List.length_cons, List.length_nil, Nat.reduceAdd] at c17b3; have c17b4 := eq_false (Nat.not_lt.2 c17b3))
      simp only [Option.some.injEq, Prod.mk.injEq] at H
      obtain ⟨rfl, rfl⟩ := H
      go_enter Tryd.func24, Tryd.ntmps24
      go_wp2_with (first | ((with_reducible refine Zao (N := 1) rfl ?_); refine Zap ?hg (N := 1) ?hd (cs := #[.string a0_0, .int .i64 a0_1, .int .i64 a0_2, .string a0_3]) (t := 31) ?hr ?_; (case hd => rfl); (case hg => rfl); (case hr => first | (go_simp; done) | (go_simp; rfl)); intro gb156 hg w18 hbox hb; have BK156 := Zaa.mk (hbox); have GW156 := Zaa.mk ((by rw [hg]; exact (Zae (zb1 HB)) : w.heap.size ≤ gb156)); have GE156 := Zaa.mk ((by rw [hg]; exact (Zae (zb1 HB)) : w.heap.size ≤ gb156)); replace HB := Zaa.mk (Zaf (zb1 HB) hb); clear hb hbox hg; obtain ⟨hcz19_0, hcz19_1, hcz19_2, hcz19_3⟩ := bc4 BK156.out; obtain ⟨hfz19_0, hfz19_1, hfz19_2, hfz19_3⟩ := bf4 BK156.out) | ((with_reducible refine Zal (f := 26) rfl ?_); refine Za2 (some 7) rfl rfl Tryd.func26 (by kernel_rfl) rfl #[.agg #[.string a0_0, .int .i64 a0_1, .int .i64 a0_2, .string a0_3]] rfl zam ?_; (with_reducible refine (value_Check.calls k a0_0 a0_1 a0_2 a0_3 t157 _ A2.out).mono ?_); rintro e w20 ⟨rfl, hb⟩; refine ⟨_, rfl, ?_⟩; replace BK156 := Zaa.mk (Zah (g := gb156) (o := .cells #[.string a0_0, .int .i64 a0_1, .int .i64 a0_2, .string a0_3] 31 (0, 0)) (zbk BK156) hb); replace HB := Zaa.mk (Zaf (zb2 HB GE156.out) hb); (try clear hb); obtain ⟨hcz21_0, hcz21_1, hcz21_2, hcz21_3⟩ := bc4 BK156.out; obtain ⟨hfz21_0, hfz21_1, hfz21_2, hfz21_3⟩ := bf4 BK156.out) | ((with_reducible refine Zal (f := 20) rfl ?_); refine Za2 (some 25) rfl rfl Tryd.func20 (by kernel_rfl) rfl #[.string a0_3] rfl zam ?_; (with_reducible refine (value_Quote.calls a0_3 t159 t160 _ ?side1 A15.out).mono ?_); (case side1 => exact GT.below (by decide) HG.out (zb2 HB GE156.out)); rintro e w22 ⟨rfl, hb⟩; refine ⟨_, rfl, ?_⟩; replace BK156 := Zaa.mk (Zah (g := gb156) (o := .cells #[.string a0_0, .int .i64 a0_1, .int .i64 a0_2, .string a0_3] 31 (0, 0)) (zbk BK156) hb); replace HB := Zaa.mk (Zaf (zb2 HB GE156.out) hb); (try clear hb); obtain ⟨hcz23_0, hcz23_1, hcz23_2, hcz23_3⟩ := bc4 BK156.out; obtain ⟨hfz23_0, hfz23_1, hfz23_2, hfz23_3⟩ := bf4 BK156.out))
      go_ret2
      exact ⟨by first | rfl | (simp [errW_none, errW_some] <;> rfl) | (simp [*, errW_none, errW_some] <;> rfl), (zb2 HB GE156.out)⟩
     ·rw [if_neg c17] at H
      exact absurd H (by simp)
    ·rw [if_neg c16] at H
     exact absurd H (by simp)
   ·rw [if_neg c14] at H
    have c14b0 : (a0_1 == 2) = false := beq_eq_false_iff_ne.mpr c14
    have c14b1 : (a0_1 != 2) = true := bne_iff_ne.mpr c14
    by_cases c24 : a0_0.size + 1 ≤ 9223372036854775807
    ·rw [if_pos c24] at H
     have c24b0 := eq_true c24
     have c24b1 : decide (a0_0.size + 1 ≤ 9223372036854775807) = true := decide_eq_true c24
     try have c24b2 : (9223372036854775807 < a0_0.size + 1) = False := eq_false (Nat.not_lt.2 c24)
     by_cases c25 : (a0_0 ++ (⟨#[61]⟩ : ByteArray)).size + 6 ≤ 9223372036854775807
     ·rw [if_pos c25] at H
      have c25b0 := eq_true c25
      have c25b1 : decide ((a0_0 ++ (⟨#[61]⟩ : ByteArray)).size + 6 ≤ 9223372036854775807) = true := decide_eq_true c25
      try have c25b2 : (9223372036854775807 < (a0_0 ++ (⟨#[61]⟩ : ByteArray)).size + 6) = False := eq_false (Nat.not_lt.2 c25)
      try (have c25b3 := c25; simp only [ByteArray.size_append, Go.Proofs.YtkfddpbmclbdhaaDoor.PW.size_mk, List.size_toArray, List.length_cons, List.length_nil, Nat.reduceAdd] at c25b3; have c25b4 := eq_false (Nat.not_lt.2 c25b3))
      simp only [Option.some.injEq, Prod.mk.injEq] at H
      obtain ⟨rfl, rfl⟩ := H
      go_enter Tryd.func24, Tryd.ntmps24
      go_wp2_with (first | ((with_reducible refine Zao (N := 1) rfl ?_); refine Zap ?hg (N := 1) ?hd (cs := #[.string a0_0, .int .i64 a0_1, .int .i64 a0_2, .string a0_3]) (t := 31) ?hr ?_; (case hd => rfl); (case hg => rfl); (case hr => first | (go_simp; done) | (go_simp; rfl)); intro gb156 hg w26 hbox hb; have BK156 := Zaa.mk (hbox); have GW156 := Zaa.mk ((by rw [hg]; exact (Zae (zb1 HB)) : w.heap.size ≤ gb156)); have GE156 := Zaa.mk ((by rw [hg]; exact (Zae (zb1 HB)) : w.heap.size ≤ gb156)); replace HB := Zaa.mk (Zaf (zb1 HB) hb); clear hb hbox hg; obtain ⟨hcz27_0, hcz27_1, hcz27_2, hcz27_3⟩ := bc4 BK156.out; obtain ⟨hfz27_0, hfz27_1, hfz27_2, hfz27_3⟩ := bf4 BK156.out) | ((with_reducible refine Zal (f := 26) rfl ?_); refine Za2 (some 7) rfl rfl Tryd.func26 (by kernel_rfl) rfl #[.agg #[.string a0_0, .int .i64 a0_1, .int .i64 a0_2, .string a0_3]] rfl zam ?_; (with_reducible refine (value_Check.calls k a0_0 a0_1 a0_2 a0_3 t157 _ A2.out).mono ?_); rintro e w28 ⟨rfl, hb⟩; refine ⟨_, rfl, ?_⟩; replace BK156 := Zaa.mk (Zah (g := gb156) (o := .cells #[.string a0_0, .int .i64 a0_1, .int .i64 a0_2, .string a0_3] 31 (0, 0)) (zbk BK156) hb); replace HB := Zaa.mk (Zaf (zb2 HB GE156.out) hb); (try clear hb); obtain ⟨hcz29_0, hcz29_1, hcz29_2, hcz29_3⟩ := bc4 BK156.out; obtain ⟨hfz29_0, hfz29_1, hfz29_2, hfz29_3⟩ := bf4 BK156.out))
      go_ret2
      exact ⟨by first | rfl | (simp [errW_none, errW_some] <;> rfl) | (simp [*, errW_none, errW_some] <;> rfl), (zb2 HB GE156.out)⟩
     ·rw [if_neg c25] at H
      exact absurd H (by simp)
    ·rw [if_neg c24] at H
     exact absurd H (by simp)
 ·rw [if_neg c3] at H
  have c3b0 : (t157 == 0) = false := beq_eq_false_iff_ne.mpr c3
  have c3b1 : (t157 != 0) = true := bne_iff_ne.mpr c3
  simp only [Option.some.injEq, Prod.mk.injEq] at H
  obtain ⟨rfl, rfl⟩ := H
  go_enter Tryd.func24, Tryd.ntmps24
  go_wp2_with (first | ((with_reducible refine Zao (N := 1) rfl ?_); refine Zap ?hg (N := 1) ?hd (cs := #[.string a0_0, .int .i64 a0_1, .int .i64 a0_2, .string a0_3]) (t := 31) ?hr ?_; (case hd => rfl); (case hg => rfl); (case hr => first | (go_simp; done) | (go_simp; rfl)); intro gb156 hg w30 hbox hb; have BK156 := Zaa.mk (hbox); have GW156 := Zaa.mk ((by rw [hg]; exact (Zae (zb1 HB)) : w.heap.size ≤ gb156)); have GE156 := Zaa.mk ((by rw [hg]; exact (Zae (zb1 HB)) : w.heap.size ≤ gb156)); replace HB := Zaa.mk (Zaf (zb1 HB) hb); clear hb hbox hg; obtain ⟨hcz31_0, hcz31_1, hcz31_2, hcz31_3⟩ := bc4 BK156.out; obtain ⟨hfz31_0, hfz31_1, hfz31_2, hfz31_3⟩ := bf4 BK156.out) | ((with_reducible refine Zal (f := 26) rfl ?_); refine Za2 (some 7) rfl rfl Tryd.func26 (by kernel_rfl) rfl #[.agg #[.string a0_0, .int .i64 a0_1, .int .i64 a0_2, .string a0_3]] rfl zam ?_; (with_reducible refine (value_Check.calls k a0_0 a0_1 a0_2 a0_3 t157 _ A2.out).mono ?_); rintro e w32 ⟨rfl, hb⟩; refine ⟨_, rfl, ?_⟩; replace BK156 := Zaa.mk (Zah (g := gb156) (o := .cells #[.string a0_0, .int .i64 a0_1, .int .i64 a0_2, .string a0_3] 31 (0, 0)) (zbk BK156) hb); replace HB := Zaa.mk (Zaf (zb2 HB GE156.out) hb); (try clear hb)))
  go_ret2
  exact ⟨by first | rfl | (simp [errW_none, errW_some] <;> rfl) | (simp [*, errW_none, errW_some] <;> rfl), (zb2 HB GE156.out)⟩
end Go.Proofs.YtkfddpbmclbdhaaDoor.PA
end
section
namespace Go.Proofs.YtkfddpbmclbdhaaDoor.PA
open Go.RowKit Go.Proofs.YtkfddpbmclbdhaaDoorW.PrintWords Go.Proofs.YtkfddpbmclbdhaaDoorW.PrintLast Go.Proofs.YtkfddpbmclbdhaaDoorW.PrintMore
attribute [local go_sem] Zaz Zax Za5 Za4 Zas Zar Zay Zaw   -- for this text's walks alone
set_option linter.unusedVariables false
set_option linter.unusedSimpArgs false
mutual
def kauditref02_name.j0 : Nat → ByteArray → Bool → Option (Bool)
 | 0, _, _ => none
 | k + 1, x0, x12 => if x12 = true then (some false) else (kauditref02_name.l0 k x0 0)
def kauditref02_name.l0 : Nat → ByteArray → Int → Option (Bool)
 | 0, _, _ => none
 | k + 1, x0, x3 => if x3 < (x0.size : Int) then (if 0 ≤ x3 then (if (bt x0 x3) ≥ 97 then (if (bt x0 x3) ≤ 122 then (kauditref02_name.l0 k x0 (wrap64 (x3 + 1))) else (if x3 > 0 then (if (bt x0 x3) ≥ 48 then (if (bt x0 x3) ≤ 57 then (kauditref02_name.l0 k x0 (wrap64 (x3 + 1))) else (if ((bt x0 x3) = 95) then (kauditref02_name.l0 k x0 (wrap64 (x3 + 1))) else (some false))) else (if ((bt x0 x3) = 95) then (kauditref02_name.l0 k x0 (wrap64 (x3 + 1))) else (some false))) else (some false))) else (if x3 > 0 then (if (bt x0 x3) ≥ 48 then (if (bt x0 x3) ≤ 57 then (kauditref02_name.l0 k x0 (wrap64 (x3 + 1))) else (if ((bt x0 x3) = 95) then (kauditref02_name.l0 k x0 (wrap64 (x3 + 1))) else (some false))) else (if ((bt x0 x3) = 95) then (kauditref02_name.l0 k x0 (wrap64 (x3 + 1))) else (some false))) else (some false))) else (none)) else (some true)
end
def kauditref02_name.f (k : Nat) (a0 : ByteArray) : Option (Bool) := if (a0.size : Int) < 1 then (kauditref02_name.j0 k a0 true) else (kauditref02_name.j0 k a0 (decide ((a0.size : Int) > 16)))
theorem kauditref02_name.mono_l : ∀ k, (∀ y0 y1, LeO (kauditref02_name.j0 k y0 y1) (kauditref02_name.j0 (k + 1) y0 y1)) ∧ (∀ y0 y1, LeO (kauditref02_name.l0 k y0 y1) (kauditref02_name.l0 (k + 1) y0 y1))
 | 0 => ⟨fun _ _ r h => by simp [kauditref02_name.j0] at h, fun _ _ r h => by simp [kauditref02_name.l0] at h⟩
 | k + 1 => by
  obtain ⟨ih0, ih1⟩ := kauditref02_name.mono_l k
  refine ⟨?_, ?_⟩
  ·intro y0 y1
   unfold kauditref02_name.j0
   repeat' first
   | (with_reducible exact ih0 _ _)
   | (with_reducible exact ih1 _ _)
   | (with_reducible exact LeO.refl _)
   | (with_reducible exact LeO.none _)
   | (with_reducible refine LeO.ite ?_ ?_)
   | (with_reducible refine LeO.bind ?_ (fun _ => ?_))
   | exact ih0 _ _
   | exact ih1 _ _
   | exact LeO.none _
   | refine LeO.ite ?_ ?_
   | refine LeO.bind ?_ (fun _ => ?_)
  ·intro y0 y1
   unfold kauditref02_name.l0
   repeat' first
   | (with_reducible exact ih0 _ _)
   | (with_reducible exact ih1 _ _)
   | (with_reducible exact LeO.refl _)
   | (with_reducible exact LeO.none _)
   | (with_reducible refine LeO.ite ?_ ?_)
   | (with_reducible refine LeO.bind ?_ (fun _ => ?_))
   | exact ih0 _ _
   | exact ih1 _ _
   | exact LeO.none _
   | refine LeO.ite ?_ ?_
   | refine LeO.bind ?_ (fun _ => ?_)
theorem kauditref02_name.mono : ∀ a0 k, LeO (kauditref02_name.f k a0) (kauditref02_name.f (k + 1) a0) := by
 intro a0 k
 obtain ⟨ih0, ih1⟩ := kauditref02_name.mono_l k
 unfold kauditref02_name.f
 repeat' first
   | (with_reducible exact ih0 _ _)
   | (with_reducible exact ih1 _ _)
   | (with_reducible exact LeO.refl _)
   | (with_reducible exact LeO.none _)
   | (with_reducible refine LeO.ite ?_ ?_)
   | (with_reducible refine LeO.bind ?_ (fun _ => ?_))
   | exact ih0 _ _
   | exact ih1 _ _
   | exact LeO.none _
   | refine LeO.ite ?_ ?_
   | refine LeO.bind ?_ (fun _ => ?_)
end Go.Proofs.YtkfddpbmclbdhaaDoor.PA
end
section
namespace Go.Proofs.YtkfddpbmclbdhaaDoor.PA
open Go.RowKit Go.Proofs.YtkfddpbmclbdhaaDoorW.PrintWords Go.Proofs.YtkfddpbmclbdhaaDoorW.PrintLast Go.Proofs.YtkfddpbmclbdhaaDoorW.PrintMore
attribute [local go_sem] Zaz Zax Za5 Za4 Zas Zar Zay Zaw   -- for this text's walks alone
set_option linter.unusedVariables false
set_option linter.unusedSimpArgs false
def kauditref02_Check.j0 : Nat → Bool → ByteArray → Int → Int → ByteArray → Option (Int)
 | 0, _, _, _, _, _ => none
 | k + 1, x34, x162000, x162001, x162002, x162003 => if x34 = true then (some 23) else (if (x162003.size : Int) > 640 then (some 20) else (some 0))
def kauditref02_Check.f (k : Nat) (a0_0 : ByteArray) (a0_1 : Int) (a0_2 : Int) (a0_3 : ByteArray) : Option (Int) := (kauditref02_name.f k a0_0).bind fun t162 => (if t162 = true then (if a0_1 < 1 then (kauditref02_Check.j0 k true a0_0 a0_1 a0_2 a0_3) else (if a0_1 > 3 then (kauditref02_Check.j0 k true a0_0 a0_1 a0_2 a0_3) else (if a0_1 = 1 then (if a0_1 = 2 then (kauditref02_Check.j0 k false a0_0 a0_1 a0_2 a0_3) else (kauditref02_Check.j0 k (a0_3.toList != ([] : List UInt8)) a0_0 a0_1 a0_2 a0_3)) else (if a0_2 = 0 then (if a0_1 = 2 then (kauditref02_Check.j0 k false a0_0 a0_1 a0_2 a0_3) else (kauditref02_Check.j0 k (a0_3.toList != ([] : List UInt8)) a0_0 a0_1 a0_2 a0_3)) else (kauditref02_Check.j0 k true a0_0 a0_1 a0_2 a0_3))))) else (some 22))
theorem kauditref02_Check.mono_l : ∀ k, (∀ y0 y1 y2 y3 y4, LeO (kauditref02_Check.j0 k y0 y1 y2 y3 y4) (kauditref02_Check.j0 (k + 1) y0 y1 y2 y3 y4))
 | 0 => fun _ _ _ _ _ r h => by simp [kauditref02_Check.j0] at h
 | k + 1 => by
  have ih0 := kauditref02_Check.mono_l k
  ·intro y0 y1 y2 y3 y4
   unfold kauditref02_Check.j0
   repeat' first
   | (with_reducible exact ih0 _ _ _ _ _)
   | (with_reducible exact kauditref02_name.mono _ _)
   | (with_reducible exact LeO.refl _)
   | (with_reducible exact LeO.none _)
   | (with_reducible refine LeO.ite ?_ ?_)
   | (with_reducible refine LeO.bind ?_ (fun _ => ?_))
   | exact ih0 _ _ _ _ _
   | exact kauditref02_name.mono _ _
   | exact LeO.none _
   | refine LeO.ite ?_ ?_
   | refine LeO.bind ?_ (fun _ => ?_)
theorem kauditref02_Check.mono : ∀ a0 a1 a2 a3 k, LeO (kauditref02_Check.f k a0 a1 a2 a3) (kauditref02_Check.f (k + 1) a0 a1 a2 a3) := by
 intro a0 a1 a2 a3 k
 have ih0 := kauditref02_Check.mono_l k
 unfold kauditref02_Check.f
 repeat' first
   | (with_reducible exact ih0 _ _ _ _ _)
   | (with_reducible exact kauditref02_name.mono _ _)
   | (with_reducible exact LeO.refl _)
   | (with_reducible exact LeO.none _)
   | (with_reducible refine LeO.ite ?_ ?_)
   | (with_reducible refine LeO.bind ?_ (fun _ => ?_))
   | exact ih0 _ _ _ _ _
   | exact kauditref02_name.mono _ _
   | exact LeO.none _
   | refine LeO.ite ?_ ?_
   | refine LeO.bind ?_ (fun _ => ?_)
end Go.Proofs.YtkfddpbmclbdhaaDoor.PA
end
