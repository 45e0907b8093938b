/- Contracts of functions of the program: written by pr2.py (ours, round the print of the kit) out of the translation; conditions: each contract names its own. -/
import Derived.Test.YtkfddpbmclbdhaaDoorZ5PAx0
import Derived.Test.YtkfddpbmclbdhaaDoorZ5GT
import Derived.Test.YtkfddpbmclbdhaaDoorZ5EQuote
namespace Go.Proofs.YtkfddpbmclbdhaaDoor.PA
open Go.RowKit Go.Proofs.YtkfddpbmclbdhaaDoorW.PrintWords Go.Proofs.YtkfddpbmclbdhaaDoorW.PrintLast Go.Proofs.YtkfddpbmclbdhaaDoorW.PrintMore
attribute [local go_sem] max2_int min2_int max_two min_two max_three min_three max_four min_four   -- for this text's walks alone
set_option linter.unusedVariables false
set_option linter.unusedSimpArgs false
-- EXTERNAL: function 20 (value_Quote)
/-! ### kauditlaw02_awake: function 19 -/
def kauditlaw02_awake.f  : Option (Bool) := (value_Quote.f (⟨#[97, 32, 98]⟩ : ByteArray)).bind fun bt101 => (if bt101.2 = 0 then (some (bt101.1.toList == ([120, 54, 49, 50, 48, 54, 50] : List UInt8))) else (some false))
set_option maxHeartbeats 8000000 in
set_option maxRecDepth 100000 in
theorem kauditlaw02_awake.calls  (r : Bool) (w : World) (hG : GT 0 w) (h : kauditlaw02_awake.f  = some r) :
    Calls Tryd.prog 19 #[] w fun e w' => e = .returned (.bool r) ∧ Below w.heap.size w w' := by
  have HG := Aside0.mk hG
  clear hG
  have HB := Aside0.mk (Below.refl w.heap.size w)
  have H : ((value_Quote.f (⟨#[97, 32, 98]⟩ : ByteArray)).bind fun bt101 => (if bt101.2 = 0 then (some (bt101.1.toList == ([120, 54, 49, 50, 48, 54, 50] : List UInt8))) else (some false))) = some r := h
  clear h
  replace H := Option.bind_eq_some_iff.mp H
  obtain ⟨⟨t101, t102⟩, A10, H⟩ := H
  replace H : (if t102 = 0 then (some (t101.toList == ([120, 54, 49, 50, 48, 54, 50] : List UInt8))) else (some false)) = some r := H
  have A1 := Aside0.mk A10
  clear A10
  by_cases c2 : t102 = 0
  · rw [if_pos c2] at H
    have c2b0 : (t102 == 0) = true := beq_iff_eq.mpr c2
    have c2b1 : (t102 != 0) = false := bne_eq_false_iff_eq.mpr c2
    clear c2
    obtain rfl := Option.some.inj H
    go_enter Tryd.func19, Tryd.ntmps19
    go_wp2_with (first | ((with_reducible refine gate_callee (f := 20) rfl ?_); refine goesL_ (some 4) rfl rfl Tryd.func20 (by kernel_rfl) rfl #[.string (⟨#[97, 32, 98]⟩ : ByteArray)] rfl (by (try simp only [List.map_toArray, List.map_cons, List.map_nil]); first | done | rfl | (simp only [List.length_drop, List.length_take]; rfl)) ?_; (with_reducible refine (value_Quote.calls (⟨#[97, 32, 98]⟩ : ByteArray) t101 t102 _ ?side1 A1.out).mono ?_); (case side1 => exact GT.below (by decide) HG.out (by repeat (first | (with_reducible first | exact HB.out | apply below_alloc | apply pw_below_drewN | apply below_drew1) | exact HB.out))); rintro e w3 ⟨rfl, hb⟩; refine ⟨_, rfl, ?_⟩; have n0_ := Aside0.mk (below_step (by repeat (first | (with_reducible first | exact HB.out | apply below_alloc | apply pw_below_drewN | apply below_drew1) | exact HB.out)) hb); clear HB; have HB := n0_; clear n0_; (try clear hb); (try clear hb2); (try clear hk); (try clear hi)))
    go_ret
    exact ⟨by first | rfl | (simp [errW_none, errW_some] <;> rfl) | (simp [*, errW_none, errW_some] <;> rfl), by repeat (first | (with_reducible first | exact HB.out | apply below_alloc | apply pw_below_drewN | apply below_drew1) | exact HB.out)⟩
  · rw [if_neg c2] at H
    have c2b0 : (t102 == 0) = false := beq_eq_false_iff_ne.mpr c2
    have c2b1 : (t102 != 0) = true := bne_iff_ne.mpr c2
    obtain rfl := Option.some.inj H
    go_enter Tryd.func19, Tryd.ntmps19
    go_wp2_with (first | ((with_reducible refine gate_callee (f := 20) rfl ?_); refine goesL_ (some 4) rfl rfl Tryd.func20 (by kernel_rfl) rfl #[.string (⟨#[97, 32, 98]⟩ : ByteArray)] rfl (by (try simp only [List.map_toArray, List.map_cons, List.map_nil]); first | done | rfl | (simp only [List.length_drop, List.length_take]; rfl)) ?_; (with_reducible refine (value_Quote.calls (⟨#[97, 32, 98]⟩ : ByteArray) t101 t102 _ ?side1 A1.out).mono ?_); (case side1 => exact GT.below (by decide) HG.out (by repeat (first | (with_reducible first | exact HB.out | apply below_alloc | apply pw_below_drewN | apply below_drew1) | exact HB.out))); rintro e w4 ⟨rfl, hb⟩; refine ⟨_, rfl, ?_⟩; have n0_ := Aside0.mk (below_step (by repeat (first | (with_reducible first | exact HB.out | apply below_alloc | apply pw_below_drewN | apply below_drew1) | exact HB.out)) hb); clear HB; have HB := n0_; clear n0_; (try clear hb); (try clear hb2); (try clear hk); (try clear hi)))
    go_ret
    exact ⟨by first | rfl | (simp [errW_none, errW_some] <;> rfl) | (simp [*, errW_none, errW_some] <;> rfl), by repeat (first | (with_reducible first | exact HB.out | apply below_alloc | apply pw_below_drewN | apply below_drew1) | exact HB.out)⟩
/-! ### kauditref02_safe: function 70 -/
def kauditref02_safe.l0 : Nat → ByteArray → Int → Option (Bool)
  | 0, _, _ => none
  | k + 1, x0, x3 => if x3 < (x0.size : Int) then (if 0 ≤ x3 then (if (bt x0 x3) < 33 then (some false) else (if (bt x0 x3) > 126 then (some false) else (if (bt x0 x3) = 34 then (some false) else (kauditref02_safe.l0 k x0 (wrap64 (x3 + 1)))))) else (none)) else (some true)
def kauditref02_safe.f (k : Nat) (a0 : ByteArray) : Option (Bool) := kauditref02_safe.l0 k a0 0
theorem kauditref02_safe.mono_l : ∀ k, (∀ y0 y1, LeO (kauditref02_safe.l0 k y0 y1) (kauditref02_safe.l0 (k + 1) y0 y1))
  | 0 => fun _ _ r h => by simp [kauditref02_safe.l0] at h
  | k + 1 => by
    have ih0 := kauditref02_safe.mono_l k
    · intro y0 y1
      unfold kauditref02_safe.l0
      repeat' first
      | (with_reducible exact ih0 _ _)
      | (with_reducible exact LeO.refl _)
      | (with_reducible exact LeO.none _)
      | (with_reducible refine LeO.ite ?_ ?_)
      | (with_reducible refine LeO.bind ?_ (fun _ => ?_))
      | exact ih0 _ _
      | exact LeO.none _
      | refine LeO.ite ?_ ?_
      | refine LeO.bind ?_ (fun _ => ?_)
theorem kauditref02_safe.mono : ∀ a0 k, LeO (kauditref02_safe.f k a0) (kauditref02_safe.f (k + 1) a0) := by
  intro a0 k
  have ih0 := kauditref02_safe.mono_l k
  unfold kauditref02_safe.f
  repeat' first
      | (with_reducible exact ih0 _ _)
      | (with_reducible exact LeO.refl _)
      | (with_reducible exact LeO.none _)
      | (with_reducible refine LeO.ite ?_ ?_)
      | (with_reducible refine LeO.bind ?_ (fun _ => ?_))
      | exact ih0 _ _
      | exact LeO.none _
      | refine LeO.ite ?_ ?_
      | refine LeO.bind ?_ (fun _ => ?_)
/-! ### kauditref02_Quote: function 21 -/
def kauditref02_Quote.l0 : Nat → ByteArray → ByteArray → Int → Option (ByteArray × Int)
  | 0, _, _, _ => none
  | k + 1, x0, x4, x5 => if x5 < (x0.size : Int) then (if 0 ≤ x5 then (if 0 ≤ ((bt x0 x5) / 16) then (if ((bt x0 x5) / 16) ≤ ((((bt x0 x5) / 16) + 1) % 256) then (if ((((bt x0 x5) / 16) + 1) % 256) ≤ 16 then (if 0 ≤ (Go.bits .and .u8 (bt x0 x5) 15) then (if (Go.bits .and .u8 (bt x0 x5) 15) ≤ (((Go.bits .and .u8 (bt x0 x5) 15) + 1) % 256) then (if (((Go.bits .and .u8 (bt x0 x5) 15) + 1) % 256) ≤ 16 then (if ((⟨#[48, 49, 50, 51, 52, 53, 54, 55, 56, 57, 97, 98, 99, 100, 101, 102]⟩ : ByteArray).extract (((bt x0 x5) / 16) : Int).toNat (((((bt x0 x5) / 16) + 1) % 256) : Int).toNat).size + ((⟨#[48, 49, 50, 51, 52, 53, 54, 55, 56, 57, 97, 98, 99, 100, 101, 102]⟩ : ByteArray).extract ((Go.bits .and .u8 (bt x0 x5) 15) : Int).toNat ((((Go.bits .and .u8 (bt x0 x5) 15) + 1) % 256) : Int).toNat).size ≤ 9223372036854775807 then (if x4.size + (((⟨#[48, 49, 50, 51, 52, 53, 54, 55, 56, 57, 97, 98, 99, 100, 101, 102]⟩ : ByteArray).extract (((bt x0 x5) / 16) : Int).toNat (((((bt x0 x5) / 16) + 1) % 256) : Int).toNat) ++ ((⟨#[48, 49, 50, 51, 52, 53, 54, 55, 56, 57, 97, 98, 99, 100, 101, 102]⟩ : ByteArray).extract ((Go.bits .and .u8 (bt x0 x5) 15) : Int).toNat ((((Go.bits .and .u8 (bt x0 x5) 15) + 1) % 256) : Int).toNat)).size ≤ 9223372036854775807 then (kauditref02_Quote.l0 k x0 (x4 ++ (((⟨#[48, 49, 50, 51, 52, 53, 54, 55, 56, 57, 97, 98, 99, 100, 101, 102]⟩ : ByteArray).extract (((bt x0 x5) / 16) : Int).toNat (((((bt x0 x5) / 16) + 1) % 256) : Int).toNat) ++ ((⟨#[48, 49, 50, 51, 52, 53, 54, 55, 56, 57, 97, 98, 99, 100, 101, 102]⟩ : ByteArray).extract ((Go.bits .and .u8 (bt x0 x5) 15) : Int).toNat ((((Go.bits .and .u8 (bt x0 x5) 15) + 1) % 256) : Int).toNat))) (wrap64 (x5 + 1))) else (none)) else (none)) else (none)) else (none)) else (none)) else (none)) else (none)) else (none)) else (none)) else (some (x4, 0))
def kauditref02_Quote.f (k : Nat) (a0 : ByteArray) : Option (ByteArray × Int) := if (a0.size : Int) > 640 then (some ((⟨#[]⟩ : ByteArray), 20)) else ((kauditref02_safe.f k a0).bind fun t103 => (if t103 = true then (if 1 + a0.size ≤ 9223372036854775807 then (if ((⟨#[34]⟩ : ByteArray) ++ a0).size + 1 ≤ 9223372036854775807 then (some (((⟨#[34]⟩ : ByteArray) ++ a0) ++ (⟨#[34]⟩ : ByteArray), 0)) else (none)) else (none)) else (kauditref02_Quote.l0 k a0 (⟨#[120]⟩ : ByteArray) 0)))
theorem kauditref02_Quote.mono_l : ∀ k, (∀ y0 y1 y2, LeO (kauditref02_Quote.l0 k y0 y1 y2) (kauditref02_Quote.l0 (k + 1) y0 y1 y2))
  | 0 => fun _ _ _ r h => by simp [kauditref02_Quote.l0] at h
  | k + 1 => by
    have ih0 := kauditref02_Quote.mono_l k
    · intro y0 y1 y2
      unfold kauditref02_Quote.l0
      repeat' first
      | (with_reducible exact ih0 _ _ _)
      | (with_reducible exact kauditref02_safe.mono _ _)
      | (with_reducible exact LeO.refl _)
      | (with_reducible exact LeO.none _)
      | (with_reducible refine LeO.ite ?_ ?_)
      | (with_reducible refine LeO.bind ?_ (fun _ => ?_))
      | exact ih0 _ _ _
      | exact kauditref02_safe.mono _ _
      | exact LeO.none _
      | refine LeO.ite ?_ ?_
      | refine LeO.bind ?_ (fun _ => ?_)
theorem kauditref02_Quote.mono : ∀ a0 k, LeO (kauditref02_Quote.f k a0) (kauditref02_Quote.f (k + 1) a0) := by
  intro a0 k
  have ih0 := kauditref02_Quote.mono_l k
  unfold kauditref02_Quote.f
  repeat' first
      | (with_reducible exact ih0 _ _ _)
      | (with_reducible exact kauditref02_safe.mono _ _)
      | (with_reducible exact LeO.refl _)
      | (with_reducible exact LeO.none _)
      | (with_reducible refine LeO.ite ?_ ?_)
      | (with_reducible refine LeO.bind ?_ (fun _ => ?_))
      | exact ih0 _ _ _
      | exact kauditref02_safe.mono _ _
      | exact LeO.none _
      | refine LeO.ite ?_ ?_
      | refine LeO.bind ?_ (fun _ => ?_)
/-! ### kauditlaw02_ValueQuotes: function 3 -/
def kauditlaw02_ValueQuotes.f (k : Nat) (a0 : ByteArray) : Option (Bool) := if (a0.size : Int) > 1000 then ((kauditlaw02_awake.f).bind fun t104 => (some t104)) else ((value_Quote.f a0).bind fun bt105 => ((kauditref02_Quote.f k a0).bind fun bt107 => (if bt105.2 = bt107.2 then (if bt105.1.toList = bt107.1.toList then ((kauditlaw02_awake.f).bind fun t109 => (some t109)) else (some false)) else (some false))))
theorem kauditlaw02_ValueQuotes.mono : ∀ a0 k, LeO (kauditlaw02_ValueQuotes.f k a0) (kauditlaw02_ValueQuotes.f (k + 1) a0) := by
  intro a0 k
  unfold kauditlaw02_ValueQuotes.f
  repeat' first
      | (with_reducible exact kauditref02_Quote.mono _ _)
      | (with_reducible exact LeO.refl _)
      | (with_reducible exact LeO.none _)
      | (with_reducible refine LeO.ite ?_ ?_)
      | (with_reducible refine LeO.bind ?_ (fun _ => ?_))
      | exact kauditref02_Quote.mono _ _
      | exact LeO.none _
      | refine LeO.ite ?_ ?_
      | refine LeO.bind ?_ (fun _ => ?_)
end Go.Proofs.YtkfddpbmclbdhaaDoor.PA
