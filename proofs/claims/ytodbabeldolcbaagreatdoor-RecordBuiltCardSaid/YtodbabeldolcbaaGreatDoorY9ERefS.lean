/- kauditref03.Parse: the definitions and the contract that the print wrote (the text of its second word made one name ahead of the loops). Condition: its printed form answers. -/
import Derived.Test.YtodbabeldolcbaaGreatDoorY9PAx7
import Derived.Test.YtodbabeldolcbaaGreatDoorY9PAx17
import Derived.Test.YtodbabeldolcbaaGreatDoorY9ERefP
noncomputable section
namespace Go.Proofs.YtodbabeldolcbaaGreatDoor.PA
open Go.RowKit Go.Proofs.YtodbabeldolcbaaGreatDoorW.PrintWords Go.Proofs.YtodbabeldolcbaaGreatDoorW.PrintLast Go.Proofs.YtodbabeldolcbaaGreatDoorW.PrintMore
attribute [local go_sem] Zbg Zbe Zbs Zbr Za8 Za7 Zbf Zbd   -- for this text's walks alone
set_option linter.unusedVariables false
set_option linter.unusedSimpArgs false
mutual
def kauditref03_Scan.j0 : Nat → ByteArray → List ByteArray → Bool → Option (Int × Int × Int × (List (S88)) × Int)
 | 0, _, _, _ => none
 | k + 1, x0, x4, x48 => if x48 = true then (some (0, 0, 0, ([] : List (S88)), 34)) else (if 0 < (x4.length : Int) then (if 5 ≤ ((rdOf ByteArray.empty x4 0).size : Int) then ((kauditref03_Number.f k ((rdOf ByteArray.empty x4 0).extract 5 (rdOf ByteArray.empty x4 0).size)).bind fun t168 => (if 1 < (x4.length : Int) then (if 10 ≤ ((rdOf ByteArray.empty x4 1).size : Int) then (kauditref03_Scan.l0 k x0 x4 ((rdOf ByteArray.empty x4 1).extract 10 (rdOf ByteArray.empty x4 1).size) 0 0 t168 0 0) else (none)) else (none))) else (none)) else (none))
def kauditref03_Scan.l0 : Nat → ByteArray → List ByteArray → ByteArray → Int → Int → Int → Int → Int → Option (Int × Int × Int × (List (S88)) × Int)
 | 0, _, _, _, _, _, _, _, _ => none
 | k + 1, x0, x4, x6, x7, x8, x170000, x170001, x170002 => if x8 < (x6.size : Int) then (if 0 ≤ x8 then (kauditref03_Scan.j2 k x0 x4 x6 x7 x8 ((bt x6 x8) != 58) x170000 x170001 x170002) else (none)) else (kauditref03_Scan.j2 k x0 x4 x6 x7 x8 false x170000 x170001 x170002)
def kauditref03_Scan.j2 : Nat → ByteArray → List ByteArray → ByteArray → Int → Int → Bool → Int → Int → Int → Option (Int × Int × Int × (List (S88)) × Int)
 | 0, _, _, _, _, _, _, _, _, _ => none
 | k + 1, x0, x4, x6, x7, x8, x69, x170000, x170001, x170002 => if x69 = true then (if 0 ≤ x8 then (if x8 < (x6.size : Int) then (if (bt x6 x8) ≥ 48 then (if (bt x6 x8) ≤ 57 then (if x7 ≤ 1099511627776 then (kauditref03_Scan.l0 k x0 x4 x6 (wrap64 ((wrap64 (x7 * 10)) + (((bt x6 x8) - 48) % 256))) (wrap64 (x8 + 1)) x170000 x170001 x170002) else (kauditref03_Scan.l0 k x0 x4 x6 x7 (wrap64 (x8 + 1)) x170000 x170001 x170002)) else (kauditref03_Scan.l0 k x0 x4 x6 x7 (wrap64 (x8 + 1)) x170000 x170001 x170002)) else (kauditref03_Scan.l0 k x0 x4 x6 x7 (wrap64 (x8 + 1)) x170000 x170001 x170002)) else (none)) else (none)) else (kauditref03_Scan.l1 k x0 x4 x6 x8 x170000 x7 x170002)
def kauditref03_Scan.l1 : Nat → ByteArray → List ByteArray → ByteArray → Int → Int → Int → Int → Option (Int × Int × Int × (List (S88)) × Int)
 | 0, _, _, _, _, _, _, _ => none
 | k + 1, x0, x4, x6, x8, x170000, x170001, x170002 => if x8 < (x6.size : Int) then (kauditref03_Scan.j4 k x0 x4 x6 x8 (decide (x170002 ≤ 1073741824)) x170000 x170001 x170002) else (kauditref03_Scan.j4 k x0 x4 x6 x8 false x170000 x170001 x170002)
def kauditref03_Scan.j4 : Nat → ByteArray → List ByteArray → ByteArray → Int → Bool → Int → Int → Int → Option (Int × Int × Int × (List (S88)) × Int)
 | 0, _, _, _, _, _, _, _, _ => none
 | k + 1, x0, x4, x6, x8, x104, x170000, x170001, x170002 => if x104 = true then (if 0 ≤ x8 then (if x8 < (x6.size : Int) then (if (bt x6 x8) ≥ 48 then (if (bt x6 x8) ≤ 57 then (kauditref03_Scan.l1 k x0 x4 x6 (wrap64 (x8 + 1)) x170000 x170001 (wrap64 ((wrap64 (x170002 * 10)) + (((bt x6 x8) - 48) % 256)))) else (kauditref03_Scan.l1 k x0 x4 x6 (wrap64 (x8 + 1)) x170000 x170001 x170002)) else (kauditref03_Scan.l1 k x0 x4 x6 (wrap64 (x8 + 1)) x170000 x170001 x170002)) else (none)) else (none)) else (kauditref03_Scan.l2 k x0 x4 2 x170000 x170001 x170002 ([] : List (S88)))
def kauditref03_Scan.l2 : Nat → ByteArray → List ByteArray → Int → Int → Int → Int → List (S88) → Option (Int × Int × Int × (List (S88)) × Int)
 | 0, _, _, _, _, _, _, _ => none
 | k + 1, x0, x4, x9, x170000, x170001, x170002, x170003 => if x9 < (x4.length : Int) then (if 0 ≤ x9 then ((kauditref02_Parse.f (rdOf ByteArray.empty x4 x9)).bind fun bt172 => (if bt172.2.2.2.2 = 0 then (if x170003.length < 2932031007402 then (kauditref03_Scan.l2 k x0 x4 (wrap64 (x9 + 1)) x170000 x170001 x170002 (x170003 ++ [(⟨bt172.1, bt172.2.1, bt172.2.2.1, bt172.2.2.2.1⟩ : S88)])) else (none)) else (some (0, 0, 0, ([] : List (S88)), 34)))) else (none)) else ((kauditref03_Format.f k x170000 x170001 x170002 x170003).bind fun bt181 => (if bt181.2 = 0 then (if bt181.1.toList = x0.toList then (some (x170000, x170001, x170002, x170003, 0)) else (some (0, 0, 0, ([] : List (S88)), 34))) else (some (0, 0, 0, ([] : List (S88)), 34))))
end
def kauditref03_Scan.f (k : Nat) (a0 : ByteArray) : Option (Int × Int × Int × (List (S88)) × Int) := if (a0.size : Int) > 31240 then (some (0, 0, 0, ([] : List (S88)), 34)) else ((kauditref01_Cut.f k a0 32).bind fun t161 => (if (t161.length : Int) < 2 then (kauditref03_Scan.j0 k a0 t161 true) else (if (t161.length : Int) > 26 then (kauditref03_Scan.j0 k a0 t161 true) else (if 0 < (t161.length : Int) then (if ((rdOf ByteArray.empty t161 0).size : Int) < 5 then (kauditref03_Scan.j0 k a0 t161 true) else (if 1 < (t161.length : Int) then (if ((rdOf ByteArray.empty t161 1).size : Int) < 12 then (kauditref03_Scan.j0 k a0 t161 true) else (kauditref03_Scan.j0 k a0 t161 (decide (((rdOf ByteArray.empty t161 1).size : Int) > 60)))) else (none))) else (none)))))
theorem kauditref03_Scan.mono_l : ∀ k, (∀ y0 y1 y2, LeO (kauditref03_Scan.j0 k y0 y1 y2) (kauditref03_Scan.j0 (k + 1) y0 y1 y2)) ∧ (∀ y0 y1 y2 y3 y4 y5 y6 y7, LeO (kauditref03_Scan.l0 k y0 y1 y2 y3 y4 y5 y6 y7) (kauditref03_Scan.l0 (k + 1) y0 y1 y2 y3 y4 y5 y6 y7)) ∧ (∀ y0 y1 y2 y3 y4 y5 y6 y7 y8, LeO (kauditref03_Scan.j2 k y0 y1 y2 y3 y4 y5 y6 y7 y8) (kauditref03_Scan.j2 (k + 1) y0 y1 y2 y3 y4 y5 y6 y7 y8)) ∧ (∀ y0 y1 y2 y3 y4 y5 y6, LeO (kauditref03_Scan.l1 k y0 y1 y2 y3 y4 y5 y6) (kauditref03_Scan.l1 (k + 1) y0 y1 y2 y3 y4 y5 y6)) ∧ (∀ y0 y1 y2 y3 y4 y5 y6 y7, LeO (kauditref03_Scan.j4 k y0 y1 y2 y3 y4 y5 y6 y7) (kauditref03_Scan.j4 (k + 1) y0 y1 y2 y3 y4 y5 y6 y7)) ∧ (∀ y0 y1 y2 y3 y4 y5 y6, LeO (kauditref03_Scan.l2 k y0 y1 y2 y3 y4 y5 y6) (kauditref03_Scan.l2 (k + 1) y0 y1 y2 y3 y4 y5 y6))
 | 0 => ⟨fun _ _ _ r h => by simp [kauditref03_Scan.j0] at h, fun _ _ _ _ _ _ _ _ r h => by simp [kauditref03_Scan.l0] at h, fun _ _ _ _ _ _ _ _ _ r h => by simp [kauditref03_Scan.j2] at h, fun _ _ _ _ _ _ _ r h => by simp [kauditref03_Scan.l1] at h, fun _ _ _ _ _ _ _ _ r h => by simp [kauditref03_Scan.j4] at h, fun _ _ _ _ _ _ _ r h => by simp [kauditref03_Scan.l2] at h⟩
 | k + 1 => by
  obtain ⟨ih0, ih1, ih2, ih3, ih4, ih5⟩ := kauditref03_Scan.mono_l k
  refine ⟨?_, ?_, ?_, ?_, ?_, ?_⟩
  ·intro y0 y1 y2
   unfold kauditref03_Scan.j0
   repeat' first
   | (with_reducible exact ih0 _ _ _)
   | (with_reducible exact ih1 _ _ _ _ _ _ _ _)
   | (with_reducible exact ih2 _ _ _ _ _ _ _ _ _)
   | (with_reducible exact ih3 _ _ _ _ _ _ _)
   | (with_reducible exact ih4 _ _ _ _ _ _ _ _)
   | (with_reducible exact ih5 _ _ _ _ _ _ _)
   | (with_reducible exact kauditref01_Cut.mono _ _ _)
   | (with_reducible exact kauditref03_Format.mono _ _ _ _ _)
   | (with_reducible exact kauditref03_Number.mono _ _)
   | (with_reducible exact LeO.refl _)
   | (with_reducible exact LeO.none _)
   | (with_reducible refine LeO.ite ?_ ?_)
   | (with_reducible refine LeO.bind ?_ (fun _ => ?_))
   | exact ih0 _ _ _
   | exact ih1 _ _ _ _ _ _ _ _
   | exact ih2 _ _ _ _ _ _ _ _ _
   | exact ih3 _ _ _ _ _ _ _
   | exact ih4 _ _ _ _ _ _ _ _
   | exact ih5 _ _ _ _ _ _ _
   | exact kauditref01_Cut.mono _ _ _
   | exact kauditref03_Format.mono _ _ _ _ _
   | exact kauditref03_Number.mono _ _
   | exact LeO.none _
   | refine LeO.ite ?_ ?_
   | refine LeO.bind ?_ (fun _ => ?_)
  ·intro y0 y1 y2 y3 y4 y5 y6 y7
   unfold kauditref03_Scan.l0
   repeat' first
   | (with_reducible exact ih0 _ _ _)
   | (with_reducible exact ih1 _ _ _ _ _ _ _ _)
   | (with_reducible exact ih2 _ _ _ _ _ _ _ _ _)
   | (with_reducible exact ih3 _ _ _ _ _ _ _)
   | (with_reducible exact ih4 _ _ _ _ _ _ _ _)
   | (with_reducible exact ih5 _ _ _ _ _ _ _)
   | (with_reducible exact kauditref01_Cut.mono _ _ _)
   | (with_reducible exact kauditref03_Format.mono _ _ _ _ _)
   | (with_reducible exact kauditref03_Number.mono _ _)
   | (with_reducible exact LeO.refl _)
   | (with_reducible exact LeO.none _)
   | (with_reducible refine LeO.ite ?_ ?_)
   | (with_reducible refine LeO.bind ?_ (fun _ => ?_))
   | exact ih0 _ _ _
   | exact ih1 _ _ _ _ _ _ _ _
   | exact ih2 _ _ _ _ _ _ _ _ _
   | exact ih3 _ _ _ _ _ _ _
   | exact ih4 _ _ _ _ _ _ _ _
   | exact ih5 _ _ _ _ _ _ _
   | exact kauditref01_Cut.mono _ _ _
   | exact kauditref03_Format.mono _ _ _ _ _
   | exact kauditref03_Number.mono _ _
   | exact LeO.none _
   | refine LeO.ite ?_ ?_
   | refine LeO.bind ?_ (fun _ => ?_)
  ·intro y0 y1 y2 y3 y4 y5 y6 y7 y8
   unfold kauditref03_Scan.j2
   repeat' first
   | (with_reducible exact ih0 _ _ _)
   | (with_reducible exact ih1 _ _ _ _ _ _ _ _)
   | (with_reducible exact ih2 _ _ _ _ _ _ _ _ _)
   | (with_reducible exact ih3 _ _ _ _ _ _ _)
   | (with_reducible exact ih4 _ _ _ _ _ _ _ _)
   | (with_reducible exact ih5 _ _ _ _ _ _ _)
   | (with_reducible exact kauditref01_Cut.mono _ _ _)
   | (with_reducible exact kauditref03_Format.mono _ _ _ _ _)
   | (with_reducible exact kauditref03_Number.mono _ _)
   | (with_reducible exact LeO.refl _)
   | (with_reducible exact LeO.none _)
   | (with_reducible refine LeO.ite ?_ ?_)
   | (with_reducible refine LeO.bind ?_ (fun _ => ?_))
   | exact ih0 _ _ _
   | exact ih1 _ _ _ _ _ _ _ _
   | exact ih2 _ _ _ _ _ _ _ _ _
   | exact ih3 _ _ _ _ _ _ _
   | exact ih4 _ _ _ _ _ _ _ _
   | exact ih5 _ _ _ _ _ _ _
   | exact kauditref01_Cut.mono _ _ _
   | exact kauditref03_Format.mono _ _ _ _ _
   | exact kauditref03_Number.mono _ _
   | exact LeO.none _
   | refine LeO.ite ?_ ?_
   | refine LeO.bind ?_ (fun _ => ?_)
  ·intro y0 y1 y2 y3 y4 y5 y6
   unfold kauditref03_Scan.l1
   repeat' first
   | (with_reducible exact ih0 _ _ _)
   | (with_reducible exact ih1 _ _ _ _ _ _ _ _)
   | (with_reducible exact ih2 _ _ _ _ _ _ _ _ _)
   | (with_reducible exact ih3 _ _ _ _ _ _ _)
   | (with_reducible exact ih4 _ _ _ _ _ _ _ _)
   | (with_reducible exact ih5 _ _ _ _ _ _ _)
   | (with_reducible exact kauditref01_Cut.mono _ _ _)
   | (with_reducible exact kauditref03_Format.mono _ _ _ _ _)
   | (with_reducible exact kauditref03_Number.mono _ _)
   | (with_reducible exact LeO.refl _)
   | (with_reducible exact LeO.none _)
   | (with_reducible refine LeO.ite ?_ ?_)
   | (with_reducible refine LeO.bind ?_ (fun _ => ?_))
   | exact ih0 _ _ _
   | exact ih1 _ _ _ _ _ _ _ _
   | exact ih2 _ _ _ _ _ _ _ _ _
   | exact ih3 _ _ _ _ _ _ _
   | exact ih4 _ _ _ _ _ _ _ _
   | exact ih5 _ _ _ _ _ _ _
   | exact kauditref01_Cut.mono _ _ _
   | exact kauditref03_Format.mono _ _ _ _ _
   | exact kauditref03_Number.mono _ _
   | exact LeO.none _
   | refine LeO.ite ?_ ?_
   | refine LeO.bind ?_ (fun _ => ?_)
  ·intro y0 y1 y2 y3 y4 y5 y6 y7
   unfold kauditref03_Scan.j4
   repeat' first
   | (with_reducible exact ih0 _ _ _)
   | (with_reducible exact ih1 _ _ _ _ _ _ _ _)
   | (with_reducible exact ih2 _ _ _ _ _ _ _ _ _)
   | (with_reducible exact ih3 _ _ _ _ _ _ _)
   | (with_reducible exact ih4 _ _ _ _ _ _ _ _)
   | (with_reducible exact ih5 _ _ _ _ _ _ _)
   | (with_reducible exact kauditref01_Cut.mono _ _ _)
   | (with_reducible exact kauditref03_Format.mono _ _ _ _ _)
   | (with_reducible exact kauditref03_Number.mono _ _)
   | (with_reducible exact LeO.refl _)
   | (with_reducible exact LeO.none _)
   | (with_reducible refine LeO.ite ?_ ?_)
   | (with_reducible refine LeO.bind ?_ (fun _ => ?_))
   | exact ih0 _ _ _
   | exact ih1 _ _ _ _ _ _ _ _
   | exact ih2 _ _ _ _ _ _ _ _ _
   | exact ih3 _ _ _ _ _ _ _
   | exact ih4 _ _ _ _ _ _ _ _
   | exact ih5 _ _ _ _ _ _ _
   | exact kauditref01_Cut.mono _ _ _
   | exact kauditref03_Format.mono _ _ _ _ _
   | exact kauditref03_Number.mono _ _
   | exact LeO.none _
   | refine LeO.ite ?_ ?_
   | refine LeO.bind ?_ (fun _ => ?_)
  ·intro y0 y1 y2 y3 y4 y5 y6
   unfold kauditref03_Scan.l2
   repeat' first
   | (with_reducible exact ih0 _ _ _)
   | (with_reducible exact ih1 _ _ _ _ _ _ _ _)
   | (with_reducible exact ih2 _ _ _ _ _ _ _ _ _)
   | (with_reducible exact ih3 _ _ _ _ _ _ _)
   | (with_reducible exact ih4 _ _ _ _ _ _ _ _)
   | (with_reducible exact ih5 _ _ _ _ _ _ _)
   | (with_reducible exact kauditref01_Cut.mono _ _ _)
   | (with_reducible exact kauditref03_Format.mono _ _ _ _ _)
   | (with_reducible exact kauditref03_Number.mono _ _)
   | (with_reducible exact LeO.refl _)
   | (with_reducible exact LeO.none _)
   | (with_reducible refine LeO.ite ?_ ?_)
   | (with_reducible refine LeO.bind ?_ (fun _ => ?_))
   | exact ih0 _ _ _
   | exact ih1 _ _ _ _ _ _ _ _
   | exact ih2 _ _ _ _ _ _ _ _ _
   | exact ih3 _ _ _ _ _ _ _
   | exact ih4 _ _ _ _ _ _ _ _
   | exact ih5 _ _ _ _ _ _ _
   | exact kauditref01_Cut.mono _ _ _
   | exact kauditref03_Format.mono _ _ _ _ _
   | exact kauditref03_Number.mono _ _
   | exact LeO.none _
   | refine LeO.ite ?_ ?_
   | refine LeO.bind ?_ (fun _ => ?_)
theorem kauditref03_Scan.mono : ∀ a0 k, LeO (kauditref03_Scan.f k a0) (kauditref03_Scan.f (k + 1) a0) := by
 intro a0 k
 obtain ⟨ih0, ih1, ih2, ih3, ih4, ih5⟩ := kauditref03_Scan.mono_l k
 unfold kauditref03_Scan.f
 repeat' first
   | (with_reducible exact ih0 _ _ _)
   | (with_reducible exact ih1 _ _ _ _ _ _ _ _)
   | (with_reducible exact ih2 _ _ _ _ _ _ _ _ _)
   | (with_reducible exact ih3 _ _ _ _ _ _ _)
   | (with_reducible exact ih4 _ _ _ _ _ _ _ _)
   | (with_reducible exact ih5 _ _ _ _ _ _ _)
   | (with_reducible exact kauditref01_Cut.mono _ _ _)
   | (with_reducible exact kauditref03_Format.mono _ _ _ _ _)
   | (with_reducible exact kauditref03_Number.mono _ _)
   | (with_reducible exact LeO.refl _)
   | (with_reducible exact LeO.none _)
   | (with_reducible refine LeO.ite ?_ ?_)
   | (with_reducible refine LeO.bind ?_ (fun _ => ?_))
   | exact ih0 _ _ _
   | exact ih1 _ _ _ _ _ _ _ _
   | exact ih2 _ _ _ _ _ _ _ _ _
   | exact ih3 _ _ _ _ _ _ _
   | exact ih4 _ _ _ _ _ _ _ _
   | exact ih5 _ _ _ _ _ _ _
   | exact kauditref01_Cut.mono _ _ _
   | exact kauditref03_Format.mono _ _ _ _ _
   | exact kauditref03_Number.mono _ _
   | exact LeO.none _
   | refine LeO.ite ?_ ?_
   | refine LeO.bind ?_ (fun _ => ?_)
def kauditref03_Scan.T16 : Bool × List (List Nat × List Nat) := (true, [([], []), ([0], [0]), ([1], [1]), ([], []), ([], []), ([3, 4], [3, 4]), ([5], [5]), ([6], [6]), ([2, 7], [2, 7]), ([0, 1, 2, 3, 4, 5, 6, 7, 8], []), ([9, 8, 0, 1, 2, 3, 4, 5, 6, 7, 8], [8, 9])])
def kauditref03_Scan.B16 : List Nat := [0, 1, 3, 0, 0, 24, 56, 120, 255, 511, 1023]
theorem kauditref03_Scan.tab16 : rtab .any (opsOf Tryz.f48 16) = kauditref03_Scan.T16 := by kernel_rfl
theorem kauditref03_Scan.bits16 : waitsOk kauditref03_Scan.T16.2 kauditref03_Scan.B16 = true := by kernel_rfl
set_option maxHeartbeats 0 in
set_option maxRecDepth 100000 in
theorem kauditref03_Scan.calls (k : Nat) (a0 : ByteArray) (r1 : Int) (r2 : Int) (r3 : Int) (r4 : List (S88)) (r5 : Int) (w : World) (h : kauditref03_Scan.f k a0 = some (r1, r2, r3, r4, r5)) :
  Calls Tryz.prog 48 #[.string a0] w fun e w' => ∃ v3_ : Value, e = .returned (.tuple #[.agg #[.int .i64 r1, .int .i64 r2, .int .i64 r3, v3_], .int .i64 r5]) ∧ Kd.R k88 88 w' w.heap.size (fun _ => True) v3_ r4 ∧ Below w.heap.size w w' := by
 have hu51 := Tryz.underlying51
 have hu88 := Tryz.underlying88
 have HB := Zaa.mk (Below.refl w.heap.size w)
 unfold kauditref03_Scan.f at h
 have H := h
 clear h
 by_cases c2 : (a0.size : Int) > 31240
 ·rw [if_pos c2] at H
  have c2b0 : decide (31240 < (a0.size : Int)) = true := decide_eq_true c2
  have c2b1 : decide (31240 < a0.size) = true := decide_eq_true (by omega)
  clear c2
  simp only [Option.some.injEq, Prod.mk.injEq] at H
  obtain ⟨rfl, rfl, rfl, rfl, rfl⟩ := H
  go_enter Tryz.func48, Tryz.ntmps48
  go_wp2_with (first | ((with_reducible refine Zav (N := 2) rfl ?_); (try (refine Zbv (by rfl) ?_; dsimp only)); refine Zaw ?hg (N := 2) ?hd (cs := #[.int .i64 0, .int .i64 0, .int .i64 0, .slice none 0 0]) (t := 51) ?hr ?_; (case hd => rfl); (case hg => rfl); (case hr => first | (go_simp; done) | (go_simp; rfl)); intro gb160 hg w3 hbox hb; have BK160 := Zaa.mk (hbox); have GW160 := Zaa.mk ((by rw [hg]; exact (Zai (zb1 HB)) : w.heap.size ≤ gb160)); have GE160 := Zaa.mk ((by rw [hg]; exact (Zai (zb1 HB)) : w.heap.size ≤ gb160)); replace HB := Zaa.mk (Zae (zb1 HB) hb); clear hb hbox hg; obtain ⟨hcz4_0, hcz4_1, hcz4_2, hcz4_3⟩ := bc4 BK160.out; obtain ⟨hfz4_0, hfz4_1, hfz4_2, hfz4_3⟩ := bf4 BK160.out))
  refine bodyPost_ret (Za5 rfl _ _ gb160 51 #[.int .i64 0, .int .i64 0, .int .i64 0, .slice none 0 0] (0, 0) _ rfl (by (with_reducible repeat (first | refine Zac ?_ _ | refine Zad ?_ | refine Zab ?_ _)); refine Zas (cs := #[.int .i64 0, .int .i64 0, .int .i64 0, .slice none 0 0]) ?_ 3 _ rfl; (with_reducible repeat (first | refine Zac ?_ _ | refine Zad ?_ | refine Zab ?_ _)); refine Zas (cs := #[.int .i64 0, .int .i64 0, .int .i64 0, .slice none 0 0]) ?_ 2 _ rfl; (with_reducible repeat (first | refine Zac ?_ _ | refine Zad ?_ | refine Zab ?_ _)); refine Zas (cs := #[.int .i64 0, .int .i64 0, .int .i64 0, .slice none 0 0]) ?_ 1 _ rfl; (with_reducible repeat (first | refine Zac ?_ _ | refine Zad ?_ | refine Zab ?_ _)); refine Zas (cs := #[.int .i64 0, .int .i64 0, .int .i64 0, .slice none 0 0]) ?_ 0 _ rfl; (with_reducible repeat (first | refine Zac ?_ _ | refine Zad ?_ | refine Zab ?_ _)); exact BK160.out) Tryz.underlying51 rfl (by kernel_rfl)) rfl ?_
  exact ⟨_, by first | rfl | (simp [errW_none, errW_some] <;> rfl) | (simp [*, errW_none, errW_some] <;> rfl), by first | exact Kd.R_nil _ _ _ _ _ | exact Kd.N_nil _ _ _ _ _ | exact Kd.V_nil _ _ _ _ _ | exact Kd.Q_nil _ _ _ _ _ | exact Kd.S_nil _ _ _ _ _, (zb2 HB GE160.out)⟩
 ·rw [if_neg c2] at H
  have c2b0 : decide (31240 < (a0.size : Int)) = false := decide_eq_false c2
  have c2b1 : decide (31240 < a0.size) = false := decide_eq_false (by omega)
  clear c2
  replace H := Option.bind_eq_some_iff.mp H
  obtain ⟨t161, A50, H⟩ := H
  try dsimp only at H
  have A5 := Zaa.mk A50
  clear A50
  have HC6 := Zaa.mk H
  clear H
  go_enter Tryz.func48, Tryz.ntmps48
  go_upto_region 4 with (first | ((with_reducible refine Zav (N := 2) rfl ?_); (try (refine Zbv (by rfl) ?_; dsimp only)); refine Zaw ?hg (N := 2) ?hd (cs := #[.int .i64 0, .int .i64 0, .int .i64 0, .slice none 0 0]) (t := 51) ?hr ?_; (case hd => rfl); (case hg => rfl); (case hr => first | (go_simp; done) | (go_simp; rfl)); intro gb160 hg w7 hbox hb; have BK160 := Zaa.mk (hbox); have GW160 := Zaa.mk ((by rw [hg]; exact (Zai (zb1 HB)) : w.heap.size ≤ gb160)); have GE160 := Zaa.mk ((by rw [hg]; exact (Zai (zb1 HB)) : w.heap.size ≤ gb160)); replace HB := Zaa.mk (Zae (zb1 HB) hb); clear hb hbox hg) | ((with_reducible refine Zam (f := 95) rfl ?_); refine Za1 (some 19) rfl rfl Tryz.func95 (by kernel_rfl) rfl #[.string a0, .int .u8 32] rfl zam ?_; (with_reducible refine (kauditref01_Cut.calls k a0 32 t161 _ A5.out).mono ?_); rintro e w8 ⟨v162, rfl, ho0, hb⟩; refine ⟨_, rfl, ?_⟩; have HO163 := Zaa.mk (Kd.R_lower ho0 (Zai (zb2 HB GE160.out))); replace BK160 := Zaa.mk (Zah (g := gb160) (o := .cells #[.int .i64 0, .int .i64 0, .int .i64 0, .slice none 0 0] 51 (0, 0)) (zbk BK160) hb); replace HB := Zaa.mk (Zae (zb2 HB GE160.out) hb); (try clear hb); (try clear ho0)))
  (try simp only [Act.put, List.setIfInBounds_toArray, List.set_cons_zero, List.set_cons_succ])
  go_cut [48] (fun v48 wc => ∃ (kq : Nat) (x48_5 : Bool), v48 = .bool x48_5 ∧ Zaa (kauditref03_Scan.j0 kq a0 t161 x48_5 = some (r1, r2, r3, r4, r5)) ∧ Zaa (kq ≤ k) ∧ Zaa (Kd.R Kd.string 9 wc w.heap.size (fun _ => True) v162 t161) ∧ Zaa (wc.heap[gb160]? = some (.cells #[.int .i64 0, .int .i64 0, .int .i64 0, (.slice none 0 0)] 51 (0, 0))) ∧ Zaa (Below w.heap.size w wc))
  case first =>
   have H := HC6.out
   clear HC6
   by_cases c9 : (t161.length : Int) < 2
   ·rw [if_pos c9] at H
    have c9b0 : decide ((t161.length : Int) < 2) = true := decide_eq_true c9
    have c9b1 : decide (t161.length < 2) = true := decide_eq_true (by omega)
    clear c9
    (first | rw [c9b0] | (simp only [Zax, Zay]; rw [c9b0]) | skip)
    have H' := Zaa.mk H
    clear H
    obtain ⟨Ao10, co10, eo10⟩ := Kd.R_slice HO163.out
    subst eo10
    go_wp2
    go_meet
    case rel => exact ⟨_, (true), (by first | rfl | (simp; done) | (simp [*]; done)), H', ⟨by first | omega | exact Nat.le_refl _⟩, ⟨by (with_reducible repeat (first | apply Kd.R_alloc | apply Kd.R_drewN | apply Kd.R_drew)); exact HO163.out⟩, ⟨by (with_reducible repeat (first | refine Zac ?_ _ | refine Zad ?_ | refine Zab ?_ _)); exact BK160.out⟩, ⟨(zb2 HB GE160.out)⟩⟩
   ·rw [if_neg c9] at H
    have c9b0 : decide ((t161.length : Int) < 2) = false := decide_eq_false c9
    have c9b1 : decide (t161.length < 2) = false := decide_eq_false (by omega)
    clear c9
    (first | rw [c9b0] | (simp only [Zax, Zay]; rw [c9b0]) | skip)
    by_cases c11 : (t161.length : Int) > 26
    ·rw [if_pos c11] at H
     have c11b0 : decide (26 < (t161.length : Int)) = true := decide_eq_true c11
     have c11b1 : decide (26 < t161.length) = true := decide_eq_true (by omega)
     clear c11
     have H' := Zaa.mk H
     clear H
     obtain ⟨Ao12, co12, eo12⟩ := Kd.R_slice HO163.out
     subst eo12
     go_wp2
     go_meet
     case rel => exact ⟨_, (true), (by first | rfl | (simp; done) | (simp [*]; done)), H', ⟨by first | omega | exact Nat.le_refl _⟩, ⟨by (with_reducible repeat (first | apply Kd.R_alloc | apply Kd.R_drewN | apply Kd.R_drew)); exact HO163.out⟩, ⟨by (with_reducible repeat (first | refine Zac ?_ _ | refine Zad ?_ | refine Zab ?_ _)); exact BK160.out⟩, ⟨(zb2 HB GE160.out)⟩⟩
    ·rw [if_neg c11] at H
     have c11b0 : decide (26 < (t161.length : Int)) = false := decide_eq_false c11
     have c11b1 : decide (26 < t161.length) = false := decide_eq_false (by omega)
     clear c11
     by_cases c13 : 0 < (t161.length : Int)
     ·rw [if_pos c13] at H
      have c13b0 : decide (0 < (t161.length : Int)) = true := decide_eq_true c13
      have c13b1 : decide (0 < t161.length) = true := decide_eq_true (by omega)
      clear c13
      by_cases c14 : ((rdOf ByteArray.empty t161 0).size : Int) < 5
      ·rw [if_pos c14] at H
       have c14b0 : decide (((rdOf ByteArray.empty t161 0).size : Int) < 5) = true := decide_eq_true c14
       have c14b1 : decide ((rdOf ByteArray.empty t161 0).size < 5) = true := decide_eq_true (by omega)
       clear c14
       have H' := Zaa.mk H
       clear H
       obtain ⟨Ao15, co15, eo15⟩ := Kd.R_slice HO163.out
       subst eo15
       have p164 : 0 ≤ (0 : Int) := (by omega)
       have q164 : 0 < (t161.length : Int) := zod
       obtain ⟨ad164, e164, hx164_0⟩ := Kd.at_string (Kd.R_reads' HO163.out).2.2 0 p164 q164
       cases e164
       have qi164 : (0 < t161.length) = True := eq_true (by omega)
       (try rw [show ((0 : Int)).toNat = 0 from rfl] at hx164_0)
       (try rw [Addr.add_zero'] at hx164_0)
       replace p164 := eq_true p164
       replace q164 := eq_true q164
       go_wp2
       go_meet
       case rel => exact ⟨_, (true), (by first | rfl | (simp; done) | (simp [*]; done)), H', ⟨by first | omega | exact Nat.le_refl _⟩, ⟨by (with_reducible repeat (first | apply Kd.R_alloc | apply Kd.R_drewN | apply Kd.R_drew)); exact HO163.out⟩, ⟨by (with_reducible repeat (first | refine Zac ?_ _ | refine Zad ?_ | refine Zab ?_ _)); exact BK160.out⟩, ⟨(zb2 HB GE160.out)⟩⟩
      ·rw [if_neg c14] at H
       have c14b0 : decide (((rdOf ByteArray.empty t161 0).size : Int) < 5) = false := decide_eq_false c14
       have c14b1 : decide ((rdOf ByteArray.empty t161 0).size < 5) = false := decide_eq_false (by omega)
       clear c14
       by_cases c16 : 1 < (t161.length : Int)
       ·rw [if_pos c16] at H
        have c16b0 : decide (1 < (t161.length : Int)) = true := decide_eq_true c16
        have c16b1 : decide (1 < t161.length) = true := decide_eq_true (by omega)
        clear c16
        by_cases c17 : ((rdOf ByteArray.empty t161 1).size : Int) < 12
        ·rw [if_pos c17] at H
         have c17b0 : decide (((rdOf ByteArray.empty t161 1).size : Int) < 12) = true := decide_eq_true c17
         have c17b1 : decide ((rdOf ByteArray.empty t161 1).size < 12) = true := decide_eq_true (by omega)
         clear c17
         have H' := Zaa.mk H
         clear H
         obtain ⟨Ao18, co18, eo18⟩ := Kd.R_slice HO163.out
         subst eo18
         have p164 : 0 ≤ (0 : Int) := (by omega)
         have q164 : 0 < (t161.length : Int) := zod
         obtain ⟨ad164, e164, hx164_0⟩ := Kd.at_string (Kd.R_reads' HO163.out).2.2 0 p164 q164
         cases e164
         have qi164 : (0 < t161.length) = True := eq_true (by omega)
         (try rw [show ((0 : Int)).toNat = 0 from rfl] at hx164_0)
         (try rw [Addr.add_zero'] at hx164_0)
         replace p164 := eq_true p164
         replace q164 := eq_true q164
         have p165 : 0 ≤ (1 : Int) := (by omega)
         have q165 : 1 < (t161.length : Int) := zod
         obtain ⟨ad165, e165, hx165_0⟩ := Kd.at_string (Kd.R_reads' HO163.out).2.2 1 p165 q165
         obtain rfl : ad164 = ad165 := (by injection e165)
         (try simp only [show (1 : Int).toNat = 1 from rfl, Nat.reduceMul, Nat.reduceEqDiff, Go.Addr.add, ↓reduceIte] at hx165_0)
         have qi165 : (1 < t161.length) = True := eq_true (by omega)
         (try rw [show ((1 : Int)).toNat = 1 from rfl] at hx165_0)
         replace p165 := eq_true p165
         replace q165 := eq_true q165
         go_wp2
         go_meet
         case rel => exact ⟨_, (true), (by first | rfl | (simp; done) | (simp [*]; done)), H', ⟨by first | omega | exact Nat.le_refl _⟩, ⟨by (with_reducible repeat (first | apply Kd.R_alloc | apply Kd.R_drewN | apply Kd.R_drew)); exact HO163.out⟩, ⟨by (with_reducible repeat (first | refine Zac ?_ _ | refine Zad ?_ | refine Zab ?_ _)); exact BK160.out⟩, ⟨(zb2 HB GE160.out)⟩⟩
        ·rw [if_neg c17] at H
         have c17b0 : decide (((rdOf ByteArray.empty t161 1).size : Int) < 12) = false := decide_eq_false c17
         have c17b1 : decide ((rdOf ByteArray.empty t161 1).size < 12) = false := decide_eq_false (by omega)
         clear c17
         have H' := Zaa.mk H
         clear H
         obtain ⟨Ao19, co19, eo19⟩ := Kd.R_slice HO163.out
         subst eo19
         have p164 : 0 ≤ (0 : Int) := (by omega)
         have q164 : 0 < (t161.length : Int) := zod
         obtain ⟨ad164, e164, hx164_0⟩ := Kd.at_string (Kd.R_reads' HO163.out).2.2 0 p164 q164
         cases e164
         have qi164 : (0 < t161.length) = True := eq_true (by omega)
         (try rw [show ((0 : Int)).toNat = 0 from rfl] at hx164_0)
         (try rw [Addr.add_zero'] at hx164_0)
         replace p164 := eq_true p164
         replace q164 := eq_true q164
         have p165 : 0 ≤ (1 : Int) := (by omega)
         have q165 : 1 < (t161.length : Int) := zod
         obtain ⟨ad165, e165, hx165_0⟩ := Kd.at_string (Kd.R_reads' HO163.out).2.2 1 p165 q165
         obtain rfl : ad164 = ad165 := (by injection e165)
         (try simp only [show (1 : Int).toNat = 1 from rfl, Nat.reduceMul, Nat.reduceEqDiff, Go.Addr.add, ↓reduceIte] at hx165_0)
         have qi165 : (1 < t161.length) = True := eq_true (by omega)
         (try rw [show ((1 : Int)).toNat = 1 from rfl] at hx165_0)
         replace p165 := eq_true p165
         replace q165 := eq_true q165
         have p166 : 0 ≤ (1 : Int) := (by omega)
         have q166 : 1 < (t161.length : Int) := zod
         obtain ⟨ad166, e166, hx166_0⟩ := Kd.at_string (Kd.R_reads' HO163.out).2.2 1 p166 q166
         obtain rfl : ad164 = ad166 := (by injection e166)
         (try simp only [show (1 : Int).toNat = 1 from rfl, Nat.reduceMul, Nat.reduceEqDiff, Go.Addr.add, ↓reduceIte] at hx166_0)
         have qi166 : (1 < t161.length) = True := eq_true (by omega)
         (try rw [show ((1 : Int)).toNat = 1 from rfl] at hx166_0)
         replace p166 := eq_true p166
         replace q166 := eq_true q166
         go_wp2
         go_meet
         case rel => exact ⟨_, (decide (((rdOf ByteArray.empty t161 1).size : Int) > 60)), (by first | rfl | (simp; done) | (simp [*]; done)), H', ⟨by first | omega | exact Nat.le_refl _⟩, ⟨by (with_reducible repeat (first | apply Kd.R_alloc | apply Kd.R_drewN | apply Kd.R_drew)); exact HO163.out⟩, ⟨by (with_reducible repeat (first | refine Zac ?_ _ | refine Zad ?_ | refine Zab ?_ _)); exact BK160.out⟩, ⟨(zb2 HB GE160.out)⟩⟩
       ·rw [if_neg c16] at H
        exact absurd H (by simp)
     ·rw [if_neg c13] at H
      exact absurd H (by simp)
  case rest =>
   clear HC6
   (try clear c2); (try clear c2b0); (try clear c2b1)
   obtain ⟨kq, x48_5, rfl, HA, HJ5, HO_4, BK160, HB⟩ := hcut
   cases kq with
   | zero => exact absurd HA.out (by simp [kauditref03_Scan.j0])
   | succ kj5 =>
    have H := HA.out
    clear HA
    simp only [kauditref03_Scan.j0] at H
    by_cases c20 : x48_5 = true
    ·subst c20
     rw [if_pos rfl] at H
     simp only [Option.some.injEq, Prod.mk.injEq] at H
     obtain ⟨rfl, rfl, rfl, rfl, rfl⟩ := H
     obtain ⟨hcz21_0, hcz21_1, hcz21_2, hcz21_3⟩ := bc4 BK160.out
     obtain ⟨hfz21_0, hfz21_1, hfz21_2, hfz21_3⟩ := bf4 BK160.out
     go_wp2
     refine bodyPost_ret (Za5 rfl _ _ gb160 51 #[.int .i64 0, .int .i64 0, .int .i64 0, .slice none 0 0] (0, 0) _ rfl (by (with_reducible repeat (first | refine Zac ?_ _ | refine Zad ?_ | refine Zab ?_ _)); refine Zas (cs := #[.int .i64 0, .int .i64 0, .int .i64 0, .slice none 0 0]) ?_ 3 _ rfl; (with_reducible repeat (first | refine Zac ?_ _ | refine Zad ?_ | refine Zab ?_ _)); refine Zas (cs := #[.int .i64 0, .int .i64 0, .int .i64 0, .slice none 0 0]) ?_ 2 _ rfl; (with_reducible repeat (first | refine Zac ?_ _ | refine Zad ?_ | refine Zab ?_ _)); refine Zas (cs := #[.int .i64 0, .int .i64 0, .int .i64 0, .slice none 0 0]) ?_ 1 _ rfl; (with_reducible repeat (first | refine Zac ?_ _ | refine Zad ?_ | refine Zab ?_ _)); refine Zas (cs := #[.int .i64 0, .int .i64 0, .int .i64 0, .slice none 0 0]) ?_ 0 _ rfl; (with_reducible repeat (first | refine Zac ?_ _ | refine Zad ?_ | refine Zab ?_ _)); exact BK160.out) Tryz.underlying51 rfl (by kernel_rfl)) rfl ?_
     exact ⟨_, by first | rfl | (simp [errW_none, errW_some] <;> rfl) | (simp [*, errW_none, errW_some] <;> rfl), by first | exact Kd.R_nil _ _ _ _ _ | exact Kd.N_nil _ _ _ _ _ | exact Kd.V_nil _ _ _ _ _ | exact Kd.Q_nil _ _ _ _ _ | exact Kd.S_nil _ _ _ _ _, (zb2 HB GE160.out)⟩
    ·replace c20 := Bool.eq_false_iff.mpr c20
     subst c20
     rw [if_neg (show ¬ (false = true) by decide)] at H
     by_cases c22 : 0 < (t161.length : Int)
     ·rw [if_pos c22] at H
      have c22b0 : decide (0 < (t161.length : Int)) = true := decide_eq_true c22
      have c22b1 : decide (0 < t161.length) = true := decide_eq_true (by omega)
      clear c22
      by_cases c23 : 5 ≤ ((rdOf ByteArray.empty t161 0).size : Int)
      ·rw [if_pos c23] at H
       have c23b0 := eq_true c23
       have c23b1 : decide (5 ≤ ((rdOf ByteArray.empty t161 0).size : Int)) = true := decide_eq_true c23
       clear c23
       replace H := Option.bind_eq_some_iff.mp H
       obtain ⟨t168, A240, H⟩ := H
       try dsimp only at H
       have A24 := Zaa.mk A240
       clear A240
       by_cases c25 : 1 < (t161.length : Int)
       ·rw [if_pos c25] at H
        have c25b0 : decide (1 < (t161.length : Int)) = true := decide_eq_true c25
        have c25b1 : decide (1 < t161.length) = true := decide_eq_true (by omega)
        clear c25
        by_cases c26 : 10 ≤ ((rdOf ByteArray.empty t161 1).size : Int)
        ·rw [if_pos c26] at H
         have c26b0 := eq_true c26
         have c26b1 : decide (10 ≤ ((rdOf ByteArray.empty t161 1).size : Int)) = true := decide_eq_true c26
         clear c26
         have H' := Zaa.mk H
         clear H
         obtain ⟨Ao27, co27, eo27⟩ := Kd.R_slice HO_4.out
         subst eo27
         have p167 : 0 ≤ (0 : Int) := (by omega)
         have q167 : 0 < (t161.length : Int) := zod
         obtain ⟨ad167, e167, hx167_0⟩ := Kd.at_string (Kd.R_reads' HO_4.out).2.2 0 p167 q167
         cases e167
         have qi167 : (0 < t161.length) = True := eq_true (by omega)
         (try rw [show ((0 : Int)).toNat = 0 from rfl] at hx167_0)
         (try rw [Addr.add_zero'] at hx167_0)
         replace p167 := eq_true p167
         replace q167 := eq_true q167
         go_wp2_with (first | ((with_reducible refine Zam (f := 96) rfl ?_); refine Za1 (some 54) rfl rfl Tryz.func96 (by kernel_rfl) rfl #[.string ((rdOf ByteArray.empty t161 0).extract 5 (rdOf ByteArray.empty t161 0).size)] rfl zam ?_; (with_reducible refine (kauditref03_Number.calls kj5 ((rdOf ByteArray.empty t161 0).extract 5 (rdOf ByteArray.empty t161 0).size) t168 _ A24.out).mono ?_); rintro e w28 ⟨rfl, hb⟩; refine ⟨_, rfl, ?_⟩; replace HO_4 := Zaa.mk (Kd.R_below (zrk HO_4) hb); replace BK160 := Zaa.mk (Zah (g := gb160) (o := .cells #[.int .i64 0, .int .i64 0, .int .i64 0, .slice none 0 0] 51 (0, 0)) (zbk BK160) hb); replace HB := Zaa.mk (Zae (zb2 HB GE160.out) hb); (try clear hb)) | ((with_reducible refine Zav (N := 5) rfl ?_); (try (refine Zbv (by rfl) ?_; dsimp only)); refine Zaw ?hg (N := 5) ?hd (cs := #[.int .i64 0, .int .i64 0, .int .i64 0, .slice none 0 0]) (t := 51) ?hr ?_; (case hd => rfl); (case hg => rfl); (case hr => first | (go_simp; done) | (go_simp; rfl)); intro gb169 hg w29 hbox hb; replace HO_4 := Zaa.mk (Kd.R_below (zrk HO_4) hb); have BK169 := Zaa.mk (hbox); have GW169 := Zaa.mk ((by rw [hg]; exact (Zai (zb2 HB GE160.out)) : w.heap.size ≤ gb169)); have GE169 := Zaa.mk ((by rw [hg]; exact (Zai (zb2 HB GE160.out)) : w.heap.size ≤ gb169)); replace HB := Zaa.mk (Zae (zb2 HB GE160.out) hb); have NB160_169 := Zaa.mk ((by rw [hg]; exact Nat.ne_of_lt (Za3 (g := gb160) (o := .cells #[.int .i64 0, .int .i64 0, .int .i64 0, .slice none 0 0] 51 (0, 0)) (zbk BK160)) : gb160 ≠ gb169)); have NB169_160 := Zaa.mk ((by rw [hg]; exact Nat.ne_of_gt (Za3 (g := gb160) (o := .cells #[.int .i64 0, .int .i64 0, .int .i64 0, .slice none 0 0] 51 (0, 0)) (zbk BK160)) : gb169 ≠ gb160)); replace BK160 := Zaa.mk (Zah (g := gb160) (o := .cells #[.int .i64 0, .int .i64 0, .int .i64 0, .slice none 0 0] 51 (0, 0)) (zbk BK160) hb); clear hb hbox hg; have hnb30 := NB169_160.out; have hnc30 := NB160_169.out; obtain ⟨hcz31_0, hcz31_1, hcz31_2, hcz31_3⟩ := bc4 BK169.out; obtain ⟨hfz31_0, hfz31_1, hfz31_2, hfz31_3⟩ := bf4 BK169.out; have p170 : 0 ≤ (1 : Int) := (by omega); have q170 : 1 < (t161.length : Int) := zod; obtain ⟨ad170, e170, hx170_0⟩ := Kd.at_string (Kd.R_reads' HO_4.out).2.2 1 p170 q170; obtain rfl : ad167 = ad170 := (by injection e170); (try simp only [show (1 : Int).toNat = 1 from rfl, Nat.reduceMul, Nat.reduceEqDiff, Go.Addr.add, ↓reduceIte] at hx170_0); have qi170 : (1 < t161.length) = True := eq_true (by omega); (try rw [show ((1 : Int)).toNat = 1 from rfl] at hx170_0); have hn170_0 : ad167.block ≠ gb169 := Kd.own_blk (Kd.R_ne HO_4.out BK169.out (by decide)); have hn170_1 : ad167.block ≠ gb169 := Kd.own_blk (Kd.R_ne HO_4.out BK169.out (by decide)); have hn170_2 : ad167.block ≠ gb169 := Kd.own_blk (Kd.R_ne HO_4.out BK169.out (by decide)); have hn170_3 : ad167.block ≠ gb169 := Kd.own_blk (Kd.R_ne HO_4.out BK169.out (by decide)); replace hx170_0 := (cell_far (p := ⟨gb169, 0, none⟩) (by first | (rw [Zbj]; exact hn170_0) | (show (Addr.add _ _).block ≠ _; rw [Zbj]; exact hn170_0) | exact hn170_0) (.int .i64 t168)).trans hx170_0; replace hx170_0 := (cell_far (p := ⟨gb169, 1, none⟩) (by first | (rw [Zbj]; exact hn170_1) | (show (Addr.add _ _).block ≠ _; rw [Zbj]; exact hn170_1) | exact hn170_1) (.int .i64 0)).trans hx170_0; replace hx170_0 := (cell_far (p := ⟨gb169, 2, none⟩) (by first | (rw [Zbj]; exact hn170_2) | (show (Addr.add _ _).block ≠ _; rw [Zbj]; exact hn170_2) | exact hn170_2) (.int .i64 0)).trans hx170_0; replace hx170_0 := (cell_far (p := ⟨gb169, 3, none⟩) (by first | (rw [Zbj]; exact hn170_3) | (show (Addr.add _ _).block ≠ _; rw [Zbj]; exact hn170_3) | exact hn170_3) (.slice none 0 0)).trans hx170_0; clear hn170_0 hn170_1 hn170_2 hn170_3; replace p170 := eq_true p170; replace q170 := eq_true q170))
         generalize ((rdOf ByteArray.empty t161 1).extract 10 (rdOf ByteArray.empty t161 1).size) = x6 at H' ⊢
         go_loopg [7, 8] kj5 (fun kq v7 v8 w' => ∃ (x7_2 : Int) (x8_2 : Int), v7 = .int .i64 x7_2 ∧ v8 = .int .i64 x8_2 ∧ Zaa (kauditref03_Scan.l0 kq a0 t161 x6 x7_2 x8_2 t168 0 0 = some (r1, r2, r3, r4, r5)) ∧ Zaa (kq ≤ kj5) ∧ Zaa (Kd.R Kd.string 9 w' w.heap.size (fun _ => True) (.slice (some ad167) t161.length co27) t161) ∧ Zaa (w'.heap[gb160]? = some (.cells #[.int .i64 0, .int .i64 0, .int .i64 0, (.slice none 0 0)] 51 (0, 0))) ∧ Zaa (w'.heap[gb169]? = some (.cells #[.int .i64 t168, .int .i64 0, .int .i64 0, (.slice none 0 0)] 51 (0, 0))) ∧ Zaa (Below w.heap.size w w'))
         case atStart => exact ⟨(0), (0), (by first | rfl | (simp; done) | (simp [*]; done)), (by first | rfl | (simp; done) | (simp [*]; done)), H', ⟨Nat.le_refl _⟩, ⟨by (with_reducible repeat (first | apply Kd.R_alloc | apply Kd.R_drewN | apply Kd.R_drew)); exact Kd.R_mono (Kd.R_far (p := ⟨gb169, 3, none⟩) (Kd.R_far (p := ⟨gb169, 2, none⟩) (Kd.R_far (p := ⟨gb169, 1, none⟩) (Kd.R_far (p := ⟨gb169, 0, none⟩) (Kd.R_types HO_4.out BK169.out (by decide)) (fun _ hk => hk.2) (.int .i64 t168)) (fun _ hk => hk.2) (.int .i64 0)) (fun _ hk => hk.2) (.int .i64 0)) (fun _ hk => hk.2) (.slice none 0 0)) (fun _ hk => trivial)⟩, ⟨by (with_reducible repeat (first | refine Zac ?_ _ | refine Zad ?_ | refine Zab ?_ _)); refine Zaq ?_ NB160_169.out _; (with_reducible repeat (first | refine Zac ?_ _ | refine Zad ?_ | refine Zab ?_ _)); refine Zaq ?_ NB160_169.out _; (with_reducible repeat (first | refine Zac ?_ _ | refine Zad ?_ | refine Zab ?_ _)); refine Zaq ?_ NB160_169.out _; (with_reducible repeat (first | refine Zac ?_ _ | refine Zad ?_ | refine Zab ?_ _)); refine Zaq ?_ NB160_169.out _; (with_reducible repeat (first | refine Zac ?_ _ | refine Zad ?_ | refine Zab ?_ _)); exact BK160.out⟩, ⟨by (with_reducible repeat (first | refine Zac ?_ _ | refine Zad ?_ | refine Zab ?_ _)); refine Zas (cs := #[.int .i64 t168, .int .i64 0, .int .i64 0, .slice none 0 0]) ?_ 3 _ rfl; (with_reducible repeat (first | refine Zac ?_ _ | refine Zad ?_ | refine Zab ?_ _)); refine Zas (cs := #[.int .i64 t168, .int .i64 0, .int .i64 0, .slice none 0 0]) ?_ 2 _ rfl; (with_reducible repeat (first | refine Zac ?_ _ | refine Zad ?_ | refine Zab ?_ _)); refine Zas (cs := #[.int .i64 t168, .int .i64 0, .int .i64 0, .slice none 0 0]) ?_ 1 _ rfl; (with_reducible repeat (first | refine Zac ?_ _ | refine Zad ?_ | refine Zab ?_ _)); refine Zas (cs := #[.int .i64 0, .int .i64 0, .int .i64 0, .slice none 0 0]) ?_ 0 _ rfl; (with_reducible repeat (first | refine Zac ?_ _ | refine Zad ?_ | refine Zab ?_ _)); exact BK169.out⟩, ⟨(zb6 HB GE160.out GE169.out)⟩⟩
         case round =>
          clear H'
          (try clear c2); (try clear c2b0); (try clear c2b1); (try clear c20); (try clear c22); (try clear c22b0); (try clear c22b1); (try clear c23); (try clear c23b0); (try clear c23b1); (try clear c25); (try clear c25b0); (try clear c25b1); (try clear c26); (try clear c26b0); (try clear c26b1)
          (try clear hcz31_0); (try clear hcz31_1); (try clear hcz31_2); (try clear hcz31_3); (try clear hfz31_0); (try clear hfz31_1); (try clear hfz31_2); (try clear hfz31_3); (try clear hx167_0); (try clear hx170_0); (try clear p167); (try clear p170); (try clear q167); (try clear q170)
          obtain ⟨x7_2, x8_2, rfl, rfl, HA, HK2, HO_4, BK160, BK169, HB⟩ := hrel
          cases gk with
          | zero => exact absurd HA.out (by simp [kauditref03_Scan.l0])
          | succ k2 =>
           have H := HA.out
           clear HA
           simp only [kauditref03_Scan.l0] at H
           have HC32 := Zaa.mk H
           clear H
           go_upto_region 9 with (fail)
           go_cut [69] (fun v69 wc => ∃ (kq : Nat) (x69_31 : Bool), v69 = .bool x69_31 ∧ Zaa (kauditref03_Scan.j2 kq a0 t161 x6 x7_2 x8_2 x69_31 t168 0 0 = some (r1, r2, r3, r4, r5)) ∧ Zaa (kq ≤ k2) ∧ Zaa (Kd.R Kd.string 9 wc w.heap.size (fun _ => True) (.slice (some ad167) t161.length co27) t161) ∧ Zaa (wc.heap[gb160]? = some (.cells #[.int .i64 0, .int .i64 0, .int .i64 0, (.slice none 0 0)] 51 (0, 0))) ∧ Zaa (wc.heap[gb169]? = some (.cells #[.int .i64 t168, .int .i64 0, .int .i64 0, (.slice none 0 0)] 51 (0, 0))) ∧ Zaa (Below w.heap.size w wc))
           case first =>
            have H := HC32.out
            clear HC32
            by_cases c33 : x8_2 < (x6.size : Int)
            ·rw [if_pos c33] at H
             have c33b0 : decide (x8_2 < (x6.size : Int)) = true := decide_eq_true c33
             clear c33
             (first | rw [c33b0] | (simp only [Zax, Zay]; rw [c33b0]) | skip)
             by_cases c34 : 0 ≤ x8_2
             ·rw [if_pos c34] at H
              have c34b0 : decide (0 ≤ x8_2) = true := decide_eq_true c34
              clear c34
              have H' := Zaa.mk H
              clear H
              have p35 : 0 ≤ (x8_2 : Int) := zod
              have q35 : x8_2 < (x6.size : Int) := zod
              have hx35 := Za0 x6 x8_2
              replace p35 := eq_true p35
              replace q35 := eq_true q35
              go_wp2
              go_meet
              case rel => exact ⟨_, (((bt x6 x8_2) != 58)), (by first | rfl | (simp; done) | (simp [*]; done)), H', ⟨by have := HJ5.out; have := HK2.out; first | omega | exact Nat.le_refl _⟩, ⟨by (with_reducible repeat (first | apply Kd.R_alloc | apply Kd.R_drewN | apply Kd.R_drew)); exact HO_4.out⟩, ⟨by (with_reducible repeat (first | refine Zac ?_ _ | refine Zad ?_ | refine Zab ?_ _)); exact BK160.out⟩, ⟨by (with_reducible repeat (first | refine Zac ?_ _ | refine Zad ?_ | refine Zab ?_ _)); exact BK169.out⟩, ⟨(zb6 HB GE160.out GE169.out)⟩⟩
             ·rw [if_neg c34] at H
              exact absurd H (by simp)
            ·rw [if_neg c33] at H
             have c33b0 : decide (x8_2 < (x6.size : Int)) = false := decide_eq_false c33
             clear c33
             (first | rw [c33b0] | (simp only [Zax, Zay]; rw [c33b0]) | skip)
             have H' := Zaa.mk H
             clear H
             go_wp2
             go_meet
             case rel => exact ⟨_, (false), (by first | rfl | (simp; done) | (simp [*]; done)), H', ⟨by have := HJ5.out; have := HK2.out; first | omega | exact Nat.le_refl _⟩, ⟨by (with_reducible repeat (first | apply Kd.R_alloc | apply Kd.R_drewN | apply Kd.R_drew)); exact HO_4.out⟩, ⟨by (with_reducible repeat (first | refine Zac ?_ _ | refine Zad ?_ | refine Zab ?_ _)); exact BK160.out⟩, ⟨by (with_reducible repeat (first | refine Zac ?_ _ | refine Zad ?_ | refine Zab ?_ _)); exact BK169.out⟩, ⟨(zb6 HB GE160.out GE169.out)⟩⟩
           case rest =>
            clear HC32
            (try clear c2); (try clear c2b0); (try clear c2b1); (try clear c20); (try clear c22); (try clear c22b0); (try clear c22b1); (try clear c23); (try clear c23b0); (try clear c23b1); (try clear c25); (try clear c25b0); (try clear c25b1); (try clear c26); (try clear c26b0)
            (try clear c26b1); (try clear hcz31_0); (try clear hcz31_1); (try clear hcz31_2); (try clear hcz31_3); (try clear hfz31_0); (try clear hfz31_1); (try clear hfz31_2); (try clear hfz31_3); (try clear hx167_0); (try clear hx170_0); (try clear p167); (try clear p170)
            (try clear q167); (try clear q170)
            obtain ⟨kq, x69_31, rfl, HA, HJ31, HO_4, BK160, BK169, HB⟩ := hcut
            cases kq with
            | zero => exact absurd HA.out (by simp [kauditref03_Scan.j2])
            | succ kj31 =>
             have H := HA.out
             clear HA
             simp only [kauditref03_Scan.j2] at H
             by_cases c36 : x69_31 = true
             ·subst c36
              rw [if_pos rfl] at H
              by_cases c37 : 0 ≤ x8_2
              ·rw [if_pos c37] at H
               have c37b0 : decide (0 ≤ x8_2) = true := decide_eq_true c37
               clear c37
               by_cases c38 : x8_2 < (x6.size : Int)
               ·rw [if_pos c38] at H
                have c38b0 : decide (x8_2 < (x6.size : Int)) = true := decide_eq_true c38
                clear c38
                by_cases c40 : (bt x6 x8_2) ≥ 48
                ·rw [if_pos c40] at H
                 have c40b0 : decide (48 ≤ (bt x6 x8_2)) = true := decide_eq_true c40
                 clear c40
                 by_cases c42 : (bt x6 x8_2) ≤ 57
                 ·rw [if_pos c42] at H
                  have c42b0 : decide ((bt x6 x8_2) ≤ 57) = true := decide_eq_true c42
                  clear c42
                  by_cases c43 : x7_2 ≤ 1099511627776
                  ·rw [if_pos c43] at H
                   have c43b0 : decide (x7_2 ≤ 1099511627776) = true := decide_eq_true c43
                   clear c43
                   have H' := Zaa.mk H
                   clear H
                   have p39 : 0 ≤ (x8_2 : Int) := zod
                   have q39 : x8_2 < (x6.size : Int) := zod
                   have hx39 := Za0 x6 x8_2
                   replace p39 := eq_true p39
                   replace q39 := eq_true q39
                   have p41 : 0 ≤ (x8_2 : Int) := zod
                   have q41 : x8_2 < (x6.size : Int) := zod
                   have hx41 := Za0 x6 x8_2
                   replace p41 := eq_true p41
                   replace q41 := eq_true q41
                   have p44 : 0 ≤ (x8_2 : Int) := zod
                   have q44 : x8_2 < (x6.size : Int) := zod
                   have hx44 := Za0 x6 x8_2
                   replace p44 := eq_true p44
                   replace q44 := eq_true q44
                   go_wp2
                   go_roundg kj31
                   case measure => have := HJ5.out; have := HK2.out; have := HJ31.out; omega
                   case rel => exact ⟨(wrap64 ((wrap64 (x7_2 * 10)) + (((bt x6 x8_2) - 48) % 256))), (wrap64 (x8_2 + 1)), (by first | rfl | (simp; done) | (simp [*]; done)), (by first | rfl | (simp; done) | (simp [*]; done)), H', ⟨by have := HJ5.out; have := HK2.out; have := HJ31.out; omega⟩, ⟨by (with_reducible repeat (first | apply Kd.R_alloc | apply Kd.R_drewN | apply Kd.R_drew)); exact HO_4.out⟩, ⟨by (with_reducible repeat (first | refine Zac ?_ _ | refine Zad ?_ | refine Zab ?_ _)); exact BK160.out⟩, ⟨by (with_reducible repeat (first | refine Zac ?_ _ | refine Zad ?_ | refine Zab ?_ _)); exact BK169.out⟩, ⟨(zb6 HB GE160.out GE169.out)⟩⟩
                  ·rw [if_neg c43] at H
                   have c43b0 : decide (x7_2 ≤ 1099511627776) = false := decide_eq_false c43
                   clear c43
                   have H' := Zaa.mk H
                   clear H
                   have p39 : 0 ≤ (x8_2 : Int) := zod
                   have q39 : x8_2 < (x6.size : Int) := zod
                   have hx39 := Za0 x6 x8_2
                   replace p39 := eq_true p39
                   replace q39 := eq_true q39
                   have p41 : 0 ≤ (x8_2 : Int) := zod
                   have q41 : x8_2 < (x6.size : Int) := zod
                   have hx41 := Za0 x6 x8_2
                   replace p41 := eq_true p41
                   replace q41 := eq_true q41
                   go_wp2
                   go_roundg kj31
                   case measure => have := HJ5.out; have := HK2.out; have := HJ31.out; omega
                   case rel => exact ⟨(x7_2), (wrap64 (x8_2 + 1)), (by first | rfl | (simp; done) | (simp [*]; done)), (by first | rfl | (simp; done) | (simp [*]; done)), H', ⟨by have := HJ5.out; have := HK2.out; have := HJ31.out; omega⟩, ⟨by (with_reducible repeat (first | apply Kd.R_alloc | apply Kd.R_drewN | apply Kd.R_drew)); exact HO_4.out⟩, ⟨by (with_reducible repeat (first | refine Zac ?_ _ | refine Zad ?_ | refine Zab ?_ _)); exact BK160.out⟩, ⟨by (with_reducible repeat (first | refine Zac ?_ _ | refine Zad ?_ | refine Zab ?_ _)); exact BK169.out⟩, ⟨(zb6 HB GE160.out GE169.out)⟩⟩
                 ·rw [if_neg c42] at H
                  have c42b0 : decide ((bt x6 x8_2) ≤ 57) = false := decide_eq_false c42
                  clear c42
                  have H' := Zaa.mk H
                  clear H
                  have p39 : 0 ≤ (x8_2 : Int) := zod
                  have q39 : x8_2 < (x6.size : Int) := zod
                  have hx39 := Za0 x6 x8_2
                  replace p39 := eq_true p39
                  replace q39 := eq_true q39
                  have p41 : 0 ≤ (x8_2 : Int) := zod
                  have q41 : x8_2 < (x6.size : Int) := zod
                  have hx41 := Za0 x6 x8_2
                  replace p41 := eq_true p41
                  replace q41 := eq_true q41
                  go_wp2
                  go_roundg kj31
                  case measure => have := HJ5.out; have := HK2.out; have := HJ31.out; omega
                  case rel => exact ⟨(x7_2), (wrap64 (x8_2 + 1)), (by first | rfl | (simp; done) | (simp [*]; done)), (by first | rfl | (simp; done) | (simp [*]; done)), H', ⟨by have := HJ5.out; have := HK2.out; have := HJ31.out; omega⟩, ⟨by (with_reducible repeat (first | apply Kd.R_alloc | apply Kd.R_drewN | apply Kd.R_drew)); exact HO_4.out⟩, ⟨by (with_reducible repeat (first | refine Zac ?_ _ | refine Zad ?_ | refine Zab ?_ _)); exact BK160.out⟩, ⟨by (with_reducible repeat (first | refine Zac ?_ _ | refine Zad ?_ | refine Zab ?_ _)); exact BK169.out⟩, ⟨(zb6 HB GE160.out GE169.out)⟩⟩
                ·rw [if_neg c40] at H
                 have c40b0 : decide (48 ≤ (bt x6 x8_2)) = false := decide_eq_false c40
                 clear c40
                 have H' := Zaa.mk H
                 clear H
                 have p39 : 0 ≤ (x8_2 : Int) := zod
                 have q39 : x8_2 < (x6.size : Int) := zod
                 have hx39 := Za0 x6 x8_2
                 replace p39 := eq_true p39
                 replace q39 := eq_true q39
                 go_wp2
                 go_roundg kj31
                 case measure => have := HJ5.out; have := HK2.out; have := HJ31.out; omega
                 case rel => exact ⟨(x7_2), (wrap64 (x8_2 + 1)), (by first | rfl | (simp; done) | (simp [*]; done)), (by first | rfl | (simp; done) | (simp [*]; done)), H', ⟨by have := HJ5.out; have := HK2.out; have := HJ31.out; omega⟩, ⟨by (with_reducible repeat (first | apply Kd.R_alloc | apply Kd.R_drewN | apply Kd.R_drew)); exact HO_4.out⟩, ⟨by (with_reducible repeat (first | refine Zac ?_ _ | refine Zad ?_ | refine Zab ?_ _)); exact BK160.out⟩, ⟨by (with_reducible repeat (first | refine Zac ?_ _ | refine Zad ?_ | refine Zab ?_ _)); exact BK169.out⟩, ⟨(zb6 HB GE160.out GE169.out)⟩⟩
               ·rw [if_neg c38] at H
                exact absurd H (by simp)
              ·rw [if_neg c37] at H
               exact absurd H (by simp)
             ·replace c36 := Bool.eq_false_iff.mpr c36
              subst c36
              rw [if_neg (show ¬ (false = true) by decide)] at H
              have H' := Zaa.mk H
              clear H
              have hnb45 := NB169_160.out
              have hnc45 := NB160_169.out
              obtain ⟨hcz46_0, hcz46_1, hcz46_2, hcz46_3⟩ := bc4 BK169.out
              obtain ⟨hfz46_0, hfz46_1, hfz46_2, hfz46_3⟩ := bf4 BK169.out
              go_wp2
              go_loopg [8] kj31 (fun kq v8 w' => ∃ (x8_4 : Int) (x170002_4 : Int), v8 = .int .i64 x8_4 ∧ Zaa (kauditref03_Scan.l1 kq a0 t161 x6 x8_4 t168 x7_2 x170002_4 = some (r1, r2, r3, r4, r5)) ∧ Zaa (kq ≤ kj31) ∧ Zaa (Kd.R Kd.string 9 w' w.heap.size (fun _ => True) (.slice (some ad167) t161.length co27) t161) ∧ Zaa (w'.heap[gb160]? = some (.cells #[.int .i64 0, .int .i64 0, .int .i64 0, (.slice none 0 0)] 51 (0, 0))) ∧ Zaa (w'.heap[gb169]? = some (.cells #[.int .i64 t168, .int .i64 x7_2, .int .i64 x170002_4, (.slice none 0 0)] 51 (0, 0))) ∧ Zaa (Below w.heap.size w w'))
              case atStart => exact ⟨(x8_2), (0), (by first | rfl | (simp; done) | (simp [*]; done)), H', ⟨Nat.le_refl _⟩, ⟨by (with_reducible repeat (first | apply Kd.R_alloc | apply Kd.R_drewN | apply Kd.R_drew)); exact Kd.R_mono (Kd.R_far (p := ⟨gb169, 1, none⟩) (Kd.R_types HO_4.out BK169.out (by decide)) (fun _ hk => hk.2) (.int .i64 x7_2)) (fun _ hk => trivial)⟩, ⟨by (with_reducible repeat (first | refine Zac ?_ _ | refine Zad ?_ | refine Zab ?_ _)); refine Zaq ?_ NB160_169.out _; (with_reducible repeat (first | refine Zac ?_ _ | refine Zad ?_ | refine Zab ?_ _)); exact BK160.out⟩, ⟨by (with_reducible repeat (first | refine Zac ?_ _ | refine Zad ?_ | refine Zab ?_ _)); refine Zas (cs := #[.int .i64 t168, .int .i64 0, .int .i64 0, .slice none 0 0]) ?_ 1 _ rfl; (with_reducible repeat (first | refine Zac ?_ _ | refine Zad ?_ | refine Zab ?_ _)); exact BK169.out⟩, ⟨(zb6 HB GE160.out GE169.out)⟩⟩
              case round =>
               clear H'
               (try clear c2); (try clear c2b0); (try clear c2b1); (try clear c20); (try clear c22); (try clear c22b0); (try clear c22b1); (try clear c23); (try clear c23b0); (try clear c23b1); (try clear c25)
               (try clear c25b0); (try clear c25b1); (try clear c26); (try clear c26b0); (try clear c26b1); (try clear c36); (try clear hcz31_0); (try clear hcz31_1); (try clear hcz31_2); (try clear hcz31_3); (try clear hcz46_0); (try clear hcz46_1); (try clear hcz46_2); (try clear hcz46_3)
               (try clear hfz31_0); (try clear hfz31_1); (try clear hfz31_2); (try clear hfz31_3); (try clear hfz46_0); (try clear hfz46_1); (try clear hfz46_2); (try clear hfz46_3); (try clear hx167_0); (try clear hx170_0); (try clear p167); (try clear p170); (try clear q167); (try clear q170)
               obtain ⟨x8_4, x170002_4, rfl, HA, HK4, HO_4, BK160, BK169, HB⟩ := hrel
               cases gk with
               | zero => exact absurd HA.out (by simp [kauditref03_Scan.l1])
               | succ k4 =>
                have H := HA.out
                clear HA
                simp only [kauditref03_Scan.l1] at H
                have HC47 := Zaa.mk H
                clear H
                go_upto_region 14 with (fail)
                go_cut [104] (fun v104 wc => ∃ (kq : Nat) (x104_46 : Bool), v104 = .bool x104_46 ∧ Zaa (kauditref03_Scan.j4 kq a0 t161 x6 x8_4 x104_46 t168 x7_2 x170002_4 = some (r1, r2, r3, r4, r5)) ∧ Zaa (kq ≤ k4) ∧ Zaa (Kd.R Kd.string 9 wc w.heap.size (fun _ => True) (.slice (some ad167) t161.length co27) t161) ∧ Zaa (wc.heap[gb160]? = some (.cells #[.int .i64 0, .int .i64 0, .int .i64 0, (.slice none 0 0)] 51 (0, 0))) ∧ Zaa (wc.heap[gb169]? = some (.cells #[.int .i64 t168, .int .i64 x7_2, .int .i64 x170002_4, (.slice none 0 0)] 51 (0, 0))) ∧ Zaa (Below w.heap.size w wc))
                case first =>
                 have H := HC47.out
                 clear HC47
                 by_cases c48 : x8_4 < (x6.size : Int)
                 ·rw [if_pos c48] at H
                  have c48b0 : decide (x8_4 < (x6.size : Int)) = true := decide_eq_true c48
                  clear c48
                  (first | rw [c48b0] | (simp only [Zax, Zay]; rw [c48b0]) | skip)
                  have H' := Zaa.mk H
                  clear H
                  have hnb49 := NB169_160.out
                  have hnc49 := NB160_169.out
                  obtain ⟨hcz50_0, hcz50_1, hcz50_2, hcz50_3⟩ := bc4 BK169.out
                  obtain ⟨hfz50_0, hfz50_1, hfz50_2, hfz50_3⟩ := bf4 BK169.out
                  go_wp2
                  go_meet
                  case rel => exact ⟨_, (decide (x170002_4 ≤ 1073741824)), (by first | rfl | (simp; done) | (simp [*]; done)), H', ⟨by have := HJ5.out; have := HK2.out; have := HJ31.out; have := HK4.out; first | omega | exact Nat.le_refl _⟩, ⟨by (with_reducible repeat (first | apply Kd.R_alloc | apply Kd.R_drewN | apply Kd.R_drew)); exact HO_4.out⟩, ⟨by (with_reducible repeat (first | refine Zac ?_ _ | refine Zad ?_ | refine Zab ?_ _)); exact BK160.out⟩, ⟨by (with_reducible repeat (first | refine Zac ?_ _ | refine Zad ?_ | refine Zab ?_ _)); exact BK169.out⟩, ⟨(zb6 HB GE160.out GE169.out)⟩⟩
                 ·rw [if_neg c48] at H
                  have c48b0 : decide (x8_4 < (x6.size : Int)) = false := decide_eq_false c48
                  clear c48
                  (first | rw [c48b0] | (simp only [Zax, Zay]; rw [c48b0]) | skip)
                  have H' := Zaa.mk H
                  clear H
                  go_wp2
                  go_meet
                  case rel => exact ⟨_, (false), (by first | rfl | (simp; done) | (simp [*]; done)), H', ⟨by have := HJ5.out; have := HK2.out; have := HJ31.out; have := HK4.out; first | omega | exact Nat.le_refl _⟩, ⟨by (with_reducible repeat (first | apply Kd.R_alloc | apply Kd.R_drewN | apply Kd.R_drew)); exact HO_4.out⟩, ⟨by (with_reducible repeat (first | refine Zac ?_ _ | refine Zad ?_ | refine Zab ?_ _)); exact BK160.out⟩, ⟨by (with_reducible repeat (first | refine Zac ?_ _ | refine Zad ?_ | refine Zab ?_ _)); exact BK169.out⟩, ⟨(zb6 HB GE160.out GE169.out)⟩⟩
                case rest =>
                 clear HC47
                 (try clear c2); (try clear c2b0); (try clear c2b1); (try clear c20); (try clear c22); (try clear c22b0); (try clear c22b1); (try clear c23); (try clear c23b0); (try clear c23b1); (try clear c25)
                 (try clear c25b0); (try clear c25b1); (try clear c26); (try clear c26b0); (try clear c26b1); (try clear c36); (try clear hcz31_0); (try clear hcz31_1); (try clear hcz31_2); (try clear hcz31_3); (try clear hcz46_0); (try clear hcz46_1); (try clear hcz46_2); (try clear hcz46_3)
                 (try clear hfz31_0); (try clear hfz31_1); (try clear hfz31_2); (try clear hfz31_3); (try clear hfz46_0); (try clear hfz46_1); (try clear hfz46_2); (try clear hfz46_3); (try clear hx167_0); (try clear hx170_0); (try clear p167); (try clear p170)
                 (try clear q167); (try clear q170)
                 obtain ⟨kq, x104_46, rfl, HA, HJ46, HO_4, BK160, BK169, HB⟩ := hcut
                 cases kq with
                 | zero => exact absurd HA.out (by simp [kauditref03_Scan.j4])
                 | succ kj46 =>
                  have H := HA.out
                  clear HA
                  simp only [kauditref03_Scan.j4] at H
                  by_cases c51 : x104_46 = true
                  ·subst c51
                   rw [if_pos rfl] at H
                   by_cases c52 : 0 ≤ x8_4
                   ·rw [if_pos c52] at H
                    have c52b0 : decide (0 ≤ x8_4) = true := decide_eq_true c52
                    clear c52
                    by_cases c53 : x8_4 < (x6.size : Int)
                    ·rw [if_pos c53] at H
                     have c53b0 : decide (x8_4 < (x6.size : Int)) = true := decide_eq_true c53
                     clear c53
                     by_cases c55 : (bt x6 x8_4) ≥ 48
                     ·rw [if_pos c55] at H
                      have c55b0 : decide (48 ≤ (bt x6 x8_4)) = true := decide_eq_true c55
                      clear c55
                      by_cases c57 : (bt x6 x8_4) ≤ 57
                      ·rw [if_pos c57] at H
                       have c57b0 : decide ((bt x6 x8_4) ≤ 57) = true := decide_eq_true c57
                       clear c57
                       have H' := Zaa.mk H
                       clear H
                       have p54 : 0 ≤ (x8_4 : Int) := zod
                       have q54 : x8_4 < (x6.size : Int) := zod
                       have hx54 := Za0 x6 x8_4
                       replace p54 := eq_true p54
                       replace q54 := eq_true q54
                       have p56 : 0 ≤ (x8_4 : Int) := zod
                       have q56 : x8_4 < (x6.size : Int) := zod
                       have hx56 := Za0 x6 x8_4
                       replace p56 := eq_true p56
                       replace q56 := eq_true q56
                       try go_wp2
                       replace HO_4 := Zaa.mk (Kd.R_drew HO_4.out)
                       replace BK160 := Zaa.mk (Zad BK160.out)
                       replace BK169 := Zaa.mk (Zad BK169.out)
                       replace HB := Zaa.mk (Zau HB.out)
                       have p58 : 0 ≤ (x8_4 : Int) := zod
                       have q58 : x8_4 < (x6.size : Int) := zod
                       have hx58 := Za0 x6 x8_4
                       replace p58 := eq_true p58
                       replace q58 := eq_true q58
                       refine start_ (n := 11) (S := fun w' => w'.cell? ⟨gb169, 0, none⟩ = some (.int .i64 t168) ∧ w'.cell? ⟨gb169, 1, none⟩ = some (.int .i64 x7_2) ∧ w'.cell? ⟨gb169, 2, none⟩ = some (.int .i64 x170002_4) ∧ w'.cell? ⟨gb169, 3, none⟩ = some (.slice none 0 0)) (ds := [10]) #[false, false, false, false, false, false, false, false, false, false, false] (by kernel_rfl) rfl rfl ⟨(Zaf BK169.out 0).trans rfl, (Zaf BK169.out 1).trans rfl, (Zaf BK169.out 2).trans rfl, (Zaf BK169.out 3).trans rfl⟩ (fun hHeld => ?_); refine with_tabW kauditref03_Scan.tab16 kauditref03_Scan.bits16 (fun HT_ HW_ => ?_)
                       generalize wc.drew = w59 at HO_4 BK160 BK169 HB hHeld ⊢
                       refine Za4 (i := 0) (N := some 115) (v := ?_) (a' := ?_) #[true, false, false, false, false, false, false, false, false, false, false] rfl rfl (Zaz HT_.out (by kernel_rfl)) (fun _ _ _ h => h) (Or.inl ⟨by rfl, ?_⟩) ?_ ?_
                       rotate_left
                       ·intro w'
                        go_simp
                        with_reducible rfl
                       rotate_left
                       ·simp only [Act.put, List.setIfInBounds_toArray, List.set_cons_zero, List.set_cons_succ, Zax, Zay]
                        rfl
                       refine Za4 (i := 3) (N := some 118) (v := ?_) (a' := ?_) #[true, false, false, true, false, false, false, false, false, false, false] rfl rfl (Zaz HT_.out (by kernel_rfl)) (fun _ _ _ h => h) (Or.inl ⟨by rfl, ?_⟩) ?_ ?_
                       rotate_left
                       ·intro w'
                        go_simp
                        with_reducible rfl
                       rotate_left
                       ·simp only [Act.put, List.setIfInBounds_toArray, List.set_cons_zero, List.set_cons_succ, Zax, Zay]
                        rfl
                       refine Za4 (i := 4) (N := some 119) (v := ?_) (a' := ?_) #[true, false, false, true, true, false, false, false, false, false, false] rfl rfl (Zaz HT_.out (by kernel_rfl)) (fun _ _ _ h => h) (Or.inl ⟨by rfl, ?_⟩) ?_ ?_
                       rotate_left
                       ·intro w'
                        go_simp
                        with_reducible rfl
                       rotate_left
                       ·simp only [Act.put, List.setIfInBounds_toArray, List.set_cons_zero, List.set_cons_succ, Zax, Zay]
                        rfl
                       refine take_ (i := 1) (N := some 116) (v := ?_) (a' := ?_) #[true, true, false, true, true, false, false, false, false, false, false] rfl rfl (Zb7 HT_.out HW_.out (by kernel_rfl)) (fun _ _ _ h => h) (Or.inl ⟨by rfl, ?_⟩) hHeld ?_ ?_
                       rotate_left
                       ·rintro w' ⟨s0, s1, s2, s3⟩
                        go_simp
                        with_reducible rfl
                       rotate_left
                       ·simp only [Act.put, List.setIfInBounds_toArray, List.set_cons_zero, List.set_cons_succ, Zax, Zay]
                        rfl
                       refine Za4 (i := 2) (N := some 117) (v := ?_) (a' := ?_) #[true, true, true, true, true, false, false, false, false, false, false] rfl rfl (Zaz HT_.out (by kernel_rfl)) (fun _ _ _ h => h) (Or.inl ⟨by rfl, ?_⟩) ?_ ?_
                       rotate_left
                       ·intro w'
                        go_simp
                        with_reducible rfl
                       rotate_left
                       ·simp only [Act.put, List.setIfInBounds_toArray, List.set_cons_zero, List.set_cons_succ, Zax, Zay]
                        rfl
                       refine take_ (i := 5) (N := some 120) (v := ?_) (a' := ?_) #[true, true, true, true, true, true, false, false, false, false, false] rfl rfl (Zb7 HT_.out HW_.out (by kernel_rfl)) (fun _ _ _ h => h) (Or.inl ⟨by rfl, ?_⟩) hHeld ?_ ?_
                       rotate_left
                       ·rintro w' ⟨s0, s1, s2, s3⟩
                        go_simp
                        with_reducible rfl
                       rotate_left
                       ·simp only [Act.put, List.setIfInBounds_toArray, List.set_cons_zero, List.set_cons_succ, Zax, Zay]
                        rfl
                       refine Za4 (i := 6) (N := some 121) (v := ?_) (a' := ?_) #[true, true, true, true, true, true, true, false, false, false, false] rfl rfl (Zaz HT_.out (by kernel_rfl)) (fun _ _ _ h => h) (Or.inl ⟨by rfl, ?_⟩) ?_ ?_
                       rotate_left
                       ·intro w'
                        go_simp
                        with_reducible rfl
                       rotate_left
                       ·simp only [Act.put, List.setIfInBounds_toArray, List.set_cons_zero, List.set_cons_succ, Zax, Zay]
                        rfl
                       refine Za4 (i := 7) (N := some 122) (v := ?_) (a' := ?_) #[true, true, true, true, true, true, true, true, false, false, false] rfl rfl (Zaz HT_.out (by kernel_rfl)) (fun _ _ _ h => h) (Or.inl ⟨by rfl, ?_⟩) ?_ ?_
                       rotate_left
                       ·intro w'
                        go_simp
                        with_reducible rfl
                       rotate_left
                       ·simp only [Act.put, List.setIfInBounds_toArray, List.set_cons_zero, List.set_cons_succ, Zax, Zay]
                        rfl
                       refine Za4 (i := 8) (N := some 123) (v := ?_) (a' := ?_) #[true, true, true, true, true, true, true, true, true, false, false] rfl rfl (Zaz HT_.out (by kernel_rfl)) (fun _ _ _ h => h) (Or.inl ⟨by rfl, ?_⟩) ?_ ?_
                       rotate_left
                       ·intro w'
                        go_simp
                        with_reducible rfl
                       rotate_left
                       ·simp only [Act.put, List.setIfInBounds_toArray, List.set_cons_zero, List.set_cons_succ, Zax, Zay]
                        rfl
                       refine Za4 (i := 9) (N := some 124) (v := ?_) (a' := ?_) #[true, true, true, true, true, true, true, true, true, true, false] rfl rfl (Zaz HT_.out (by kernel_rfl)) (fun _ _ _ h => h) (Or.inl ⟨by rfl, ?_⟩) ?_ ?_
                       rotate_left
                       ·intro w'
                        go_simp
                        with_reducible rfl
                       rotate_left
                       ·simp only [Act.put, List.setIfInBounds_toArray, List.set_cons_zero, List.set_cons_succ, Zax, Zay]
                        rfl
                       refine last_ (i := 10) (N := none) #[true, true, true, true, true, true, true, true, true, true, true] rfl rfl (Zbq HT_.out (by kernel_rfl)) (by decide) (fun K hK => ?_)
                       have hs60 : w59.cell? ⟨gb169, 2, none⟩ = some (.int .i64 x170002_4) := (Zaf BK169.out 2).trans rfl
                       have hfs60 := Zak BK169.out 2
                       have hns60_0 := NB160_169.out
                       have hms60_0 := NB169_160.out
                       refine skip_ (w1 := ?_) (by rfl) rfl ?_ ?_
                       rotate_left
                       ·go_simp
                        rfl
                       refine hK.out _ _ ?_
                       clear hK K
                       refine done_ (done_of HT_.out (by kernel_rfl)) ?_
                       have ew : wrap64 ((bt x6 x8_4 - 48) % 256) = (bt x6 x8_4 - 48) % 256 := Go.Proofs.YtodbabeldolcbaaGreatDoor.M0.wrap64_id (by omega) (by omega)
                       try simp only [ew]
                       try go_wp2
                       go_roundg kj46
                       case measure => have := HJ5.out; have := HK2.out; have := HJ31.out; have := HK4.out; have := HJ46.out; omega
                       case rel => (try simp only [ew]); exact ⟨(wrap64 (x8_4 + 1)), (wrap64 ((wrap64 (x170002_4 * 10)) + (((bt x6 x8_4) - 48) % 256))), (by first | rfl | (simp; done) | (simp [*]; done)), H', ⟨by have := HJ5.out; have := HK2.out; have := HJ31.out; have := HK4.out; have := HJ46.out; omega⟩, ⟨by (with_reducible repeat (first | apply Kd.R_alloc | apply Kd.R_drewN | apply Kd.R_drew)); exact Kd.R_mono (Kd.R_far (p := ⟨gb169, 2, none⟩) (Kd.R_types HO_4.out BK169.out (by decide)) (fun _ hk => hk.2) (.int .i64 (wrap64 ((wrap64 (x170002_4 * 10)) + (((bt x6 x8_4) - 48) % 256))))) (fun _ hk => trivial)⟩, ⟨by (with_reducible repeat (first | refine Zac ?_ _ | refine Zad ?_ | refine Zab ?_ _)); refine Zaq ?_ NB160_169.out _; (with_reducible repeat (first | refine Zac ?_ _ | refine Zad ?_ | refine Zab ?_ _)); exact BK160.out⟩, ⟨by (with_reducible repeat (first | refine Zac ?_ _ | refine Zad ?_ | refine Zab ?_ _)); refine Zas (cs := #[.int .i64 t168, .int .i64 x7_2, .int .i64 x170002_4, .slice none 0 0]) ?_ 2 _ rfl; (with_reducible repeat (first | refine Zac ?_ _ | refine Zad ?_ | refine Zab ?_ _)); exact BK169.out⟩, ⟨(zb6 HB GE160.out GE169.out)⟩⟩
                      ·rw [if_neg c57] at H
                       have c57b0 : decide ((bt x6 x8_4) ≤ 57) = false := decide_eq_false c57
                       clear c57
                       have H' := Zaa.mk H
                       clear H
                       have p54 : 0 ≤ (x8_4 : Int) := zod
                       have q54 : x8_4 < (x6.size : Int) := zod
                       have hx54 := Za0 x6 x8_4
                       replace p54 := eq_true p54
                       replace q54 := eq_true q54
                       have p56 : 0 ≤ (x8_4 : Int) := zod
                       have q56 : x8_4 < (x6.size : Int) := zod
                       have hx56 := Za0 x6 x8_4
                       replace p56 := eq_true p56
                       replace q56 := eq_true q56
                       go_wp2
                       go_roundg kj46
                       case measure => have := HJ5.out; have := HK2.out; have := HJ31.out; have := HK4.out; have := HJ46.out; omega
                       case rel => exact ⟨(wrap64 (x8_4 + 1)), (x170002_4), (by first | rfl | (simp; done) | (simp [*]; done)), H', ⟨by have := HJ5.out; have := HK2.out; have := HJ31.out; have := HK4.out; have := HJ46.out; omega⟩, ⟨by (with_reducible repeat (first | apply Kd.R_alloc | apply Kd.R_drewN | apply Kd.R_drew)); exact HO_4.out⟩, ⟨by (with_reducible repeat (first | refine Zac ?_ _ | refine Zad ?_ | refine Zab ?_ _)); exact BK160.out⟩, ⟨by (with_reducible repeat (first | refine Zac ?_ _ | refine Zad ?_ | refine Zab ?_ _)); exact BK169.out⟩, ⟨(zb6 HB GE160.out GE169.out)⟩⟩
                     ·rw [if_neg c55] at H
                      have c55b0 : decide (48 ≤ (bt x6 x8_4)) = false := decide_eq_false c55
                      clear c55
                      have H' := Zaa.mk H
                      clear H
                      have p54 : 0 ≤ (x8_4 : Int) := zod
                      have q54 : x8_4 < (x6.size : Int) := zod
                      have hx54 := Za0 x6 x8_4
                      replace p54 := eq_true p54
                      replace q54 := eq_true q54
                      go_wp2
                      go_roundg kj46
                      case measure => have := HJ5.out; have := HK2.out; have := HJ31.out; have := HK4.out; have := HJ46.out; omega
                      case rel => exact ⟨(wrap64 (x8_4 + 1)), (x170002_4), (by first | rfl | (simp; done) | (simp [*]; done)), H', ⟨by have := HJ5.out; have := HK2.out; have := HJ31.out; have := HK4.out; have := HJ46.out; omega⟩, ⟨by (with_reducible repeat (first | apply Kd.R_alloc | apply Kd.R_drewN | apply Kd.R_drew)); exact HO_4.out⟩, ⟨by (with_reducible repeat (first | refine Zac ?_ _ | refine Zad ?_ | refine Zab ?_ _)); exact BK160.out⟩, ⟨by (with_reducible repeat (first | refine Zac ?_ _ | refine Zad ?_ | refine Zab ?_ _)); exact BK169.out⟩, ⟨(zb6 HB GE160.out GE169.out)⟩⟩
                    ·rw [if_neg c53] at H
                     exact absurd H (by simp)
                   ·rw [if_neg c52] at H
                    exact absurd H (by simp)
                  ·replace c51 := Bool.eq_false_iff.mpr c51
                   subst c51
                   rw [if_neg (show ¬ (false = true) by decide)] at H
                   have H' := Zaa.mk H
                   clear H
                   go_wp2
                   go_loopg [9] kj46 (fun kq v9 w' => ∃ (x9_6 : Int) (x161000_6 : Int) (x161001_6 : Int) (x161002_6 : Int) (x170003_6 : List (S88)) (u170003 : Value), v9 = .int .i64 x9_6 ∧ Zaa (kauditref03_Scan.l2 kq a0 t161 x9_6 t168 x7_2 x170002_4 x170003_6 = some (r1, r2, r3, r4, r5)) ∧ Zaa (kq ≤ kj46) ∧ Zaa (Kd.R Kd.string 9 w' w.heap.size (fun _ => True) (.slice (some ad167) t161.length co27) t161) ∧ Zaa (Kd.R k88 88 w' w.heap.size (fun _ => True) u170003 x170003_6) ∧ Zaa (w'.heap[gb160]? = some (.cells #[.int .i64 x161000_6, .int .i64 x161001_6, .int .i64 x161002_6, (.slice none 0 0)] 51 (0, 0))) ∧ Zaa (w'.heap[gb169]? = some (.cells #[.int .i64 t168, .int .i64 x7_2, .int .i64 x170002_4, u170003] 51 (0, 0))) ∧ Zaa (Below w.heap.size w w'))
                   case atStart => exact ⟨(2), (0), (0), (0), (([] : List (S88))), (.slice none 0 0), (by first | rfl | (simp; done) | (simp [*]; done)), H', ⟨Nat.le_refl _⟩, ⟨by (with_reducible repeat (first | apply Kd.R_alloc | apply Kd.R_drewN | apply Kd.R_drew)); exact HO_4.out⟩, ⟨by first | exact Kd.R_nil _ _ _ _ _ | exact Kd.N_nil _ _ _ _ _ | exact Kd.V_nil _ _ _ _ _ | exact Kd.Q_nil _ _ _ _ _ | exact Kd.S_nil _ _ _ _ _⟩, ⟨by (with_reducible repeat (first | refine Zac ?_ _ | refine Zad ?_ | refine Zab ?_ _)); exact BK160.out⟩, ⟨by (with_reducible repeat (first | refine Zac ?_ _ | refine Zad ?_ | refine Zab ?_ _)); exact BK169.out⟩, ⟨(zb6 HB GE160.out GE169.out)⟩⟩
                   case round =>
                    clear H'
                    (try clear c2); (try clear c2b0); (try clear c2b1); (try clear c20); (try clear c22); (try clear c22b0); (try clear c22b1); (try clear c23)
                    (try clear c23b0); (try clear c23b1); (try clear c25); (try clear c25b0); (try clear c25b1); (try clear c26); (try clear c26b0); (try clear c26b1); (try clear c36); (try clear c51)
                    (try clear hcz31_0); (try clear hcz31_1); (try clear hcz31_2); (try clear hcz31_3); (try clear hcz46_0); (try clear hcz46_1); (try clear hcz46_2); (try clear hcz46_3); (try clear hfz31_0); (try clear hfz31_1); (try clear hfz31_2); (try clear hfz31_3); (try clear hfz46_0); (try clear hfz46_1); (try clear hfz46_2); (try clear hfz46_3)
                    (try clear hx167_0); (try clear hx170_0); (try clear p167); (try clear p170); (try clear q167); (try clear q170)
                    obtain ⟨x9_6, x161000_6, x161001_6, x161002_6, x170003_6, u170003, rfl, HA, HK6, HO_4, HO_170003, BK160, BK169, HB⟩ := hrel
                    cases gk with
                    | zero => exact absurd HA.out (by simp [kauditref03_Scan.l2])
                    | succ k6 =>
                     have H := HA.out
                     clear HA
                     simp only [kauditref03_Scan.l2] at H
                     by_cases c61 : x9_6 < (t161.length : Int)
                     ·rw [if_pos c61] at H
                      have c61b0 : decide (x9_6 < (t161.length : Int)) = true := decide_eq_true c61
                      clear c61
                      by_cases c62 : 0 ≤ x9_6
                      ·rw [if_pos c62] at H
                       have c62b0 : decide (0 ≤ x9_6) = true := decide_eq_true c62
                       clear c62
                       replace H := Option.bind_eq_some_iff.mp H
                       obtain ⟨⟨t172, t173, t174, t175, t176⟩, A630, H⟩ := H
                       try dsimp only at H
                       have A63 := Zaa.mk A630
                       clear A630
                       by_cases c64 : t176 = 0
                       ·rw [if_pos c64] at H
                        have c64b0 : (t176 == 0) = true := beq_iff_eq.mpr c64
                        have c64b1 : (t176 != 0) = false := bne_eq_false_iff_eq.mpr c64
                        clear c64
                        by_cases c65 : x170003_6.length < 2932031007402
                        ·rw [if_pos c65] at H
                         have LMc65 := Zaa.mk c65
                         clear c65
                         obtain ⟨y178, hy178⟩ : ∃ y_ : List (S88), y_ = (x170003_6 ++ [(⟨t172, t173, t174, t175⟩ : S88)]) := ⟨_, rfl⟩
                         replace H : (kauditref03_Scan.l2 k6 a0 t161 (wrap64 (x9_6 + 1)) t168 x7_2 x170002_4 y178) = some (r1, r2, r3, r4, r5) := by first | (rw [hy178]; with_reducible exact H) | (have H2_ := (Option.bind_some _ _).symm.trans H; rw [hy178]; with_reducible exact H2_) | (have H2_ := (Option.bind_some _ _).symm.trans H; with_reducible exact H2_) | with_reducible exact H | (rw [hy178]; exact H) | exact H
                         have Ny178 := Zaa.mk hy178
                         clear hy178
                         have H' := Zaa.mk H
                         clear H
                         have p171 : 0 ≤ (x9_6 : Int) := zod
                         have q171 : x9_6 < (t161.length : Int) := zod
                         obtain ⟨ad171, e171, hx171_0⟩ := Kd.at_string (Kd.R_reads' HO_4.out).2.2 x9_6 p171 q171
                         obtain rfl : ad167 = ad171 := (by injection e171)
                         replace p171 := eq_true p171
                         replace q171 := eq_true q171
                         go_wp2_with (first | ((with_reducible refine Zam (f := 97) rfl ?_); refine Za1 (some 138) rfl rfl Tryz.func97 (by kernel_rfl) rfl #[.string (rdOf ByteArray.empty t161 x9_6)] rfl zam ?_; (with_reducible refine (kauditref02_Parse.calls (rdOf ByteArray.empty t161 x9_6) t172 t173 t174 t175 t176 _ A63.out).mono ?_); rintro e w66 ⟨rfl, hb⟩; refine ⟨_, rfl, ?_⟩; replace HO_4 := Zaa.mk (Kd.R_below (zrk HO_4) hb); replace HO_170003 := Zaa.mk (Kd.R_below (zrk HO_170003) hb); replace BK160 := Zaa.mk (Zah (g := gb160) (o := .cells #[.int .i64 x161000_6, .int .i64 x161001_6, .int .i64 x161002_6, .slice none 0 0] 51 (0, 0)) (zbk BK160) hb); replace BK169 := Zaa.mk (Zah (g := gb169) (o := .cells #[.int .i64 t168, .int .i64 x7_2, .int .i64 x170002_4, u170003] 51 (0, 0)) (zbk BK169) hb); replace HB := Zaa.mk (Zae (zb6 HB GE160.out GE169.out) hb); (try clear hb)) | ((with_reducible refine Zav (N := 10) rfl ?_); (try (refine Zbv (by rfl) ?_; dsimp only)); refine Zaw ?hg (N := 10) ?hd (cs := #[.string (⟨#[]⟩ : ByteArray), .int .i64 0, .int .i64 0, .string (⟨#[]⟩ : ByteArray)]) (t := 88) ?hr ?_; (case hd => rfl); (case hg => rfl); (case hr => first | (go_simp; done) | (go_simp; rfl)); intro gb177 hg w67 hbox hb; replace HO_4 := Zaa.mk (Kd.R_below (zrk HO_4) hb); replace HO_170003 := Zaa.mk (Kd.R_below (Kd.R_elderB (zrk HO_170003) gb177 (Nat.le_of_eq hg.symm)) hb); have BK177 := Zaa.mk (hbox); have GW177 := Zaa.mk ((by rw [hg]; exact (Zai (zb6 HB GE160.out GE169.out)) : w.heap.size ≤ gb177)); have GE177 := Zaa.mk ((by rw [hg]; exact (Zai (zb6 HB GE160.out GE169.out)) : w.heap.size ≤ gb177)); replace HB := Zaa.mk (Zae (zb6 HB GE160.out GE169.out) hb); have NB160_177 := Zaa.mk ((by rw [hg]; exact Nat.ne_of_lt (Za3 (g := gb160) (o := .cells #[.int .i64 x161000_6, .int .i64 x161001_6, .int .i64 x161002_6, .slice none 0 0] 51 (0, 0)) (zbk BK160)) : gb160 ≠ gb177)); have NB177_160 := Zaa.mk ((by rw [hg]; exact Nat.ne_of_gt (Za3 (g := gb160) (o := .cells #[.int .i64 x161000_6, .int .i64 x161001_6, .int .i64 x161002_6, .slice none 0 0] 51 (0, 0)) (zbk BK160)) : gb177 ≠ gb160)); replace BK160 := Zaa.mk (Zah (g := gb160) (o := .cells #[.int .i64 x161000_6, .int .i64 x161001_6, .int .i64 x161002_6, .slice none 0 0] 51 (0, 0)) (zbk BK160) hb); have NB169_177 := Zaa.mk ((by rw [hg]; exact Nat.ne_of_lt (Za3 (g := gb169) (o := .cells #[.int .i64 t168, .int .i64 x7_2, .int .i64 x170002_4, u170003] 51 (0, 0)) (zbk BK169)) : gb169 ≠ gb177)); have NB177_169 := Zaa.mk ((by rw [hg]; exact Nat.ne_of_gt (Za3 (g := gb169) (o := .cells #[.int .i64 t168, .int .i64 x7_2, .int .i64 x170002_4, u170003] 51 (0, 0)) (zbk BK169)) : gb177 ≠ gb169)); replace BK169 := Zaa.mk (Zah (g := gb169) (o := .cells #[.int .i64 t168, .int .i64 x7_2, .int .i64 x170002_4, u170003] 51 (0, 0)) (zbk BK169) hb); clear hb hbox hg; have hnb68 := NB177_160.out; have hnc68 := NB160_177.out; have hnb69 := NB177_169.out; have hnc69 := NB169_177.out; obtain ⟨hcz70_0, hcz70_1, hcz70_2, hcz70_3⟩ := bc4 BK177.out; obtain ⟨hfz70_0, hfz70_1, hfz70_2, hfz70_3⟩ := bf4 BK177.out; have hnb71 := NB169_160.out; have hnc71 := NB160_169.out; obtain ⟨hcz72_0, hcz72_1, hcz72_2, hcz72_3⟩ := bc4 BK169.out; obtain ⟨hfz72_0, hfz72_1, hfz72_2, hfz72_3⟩ := bf4 BK169.out) | ((with_reducible refine gate_builtin (b := .append) (xs := #[.tmp 145, .tmp 147]) rfl ?_); (try (refine Zbv (by rfl) ?_; dsimp only)); at_builtin; refine Kd.R_append k88 (w0 := w) w.heap.size rfl (.tmp 145) (.tmp 147) 49 88 (.agg #[(.string ⟨#[]⟩), (.int .i64 0), (.int .i64 0), (.string ⟨#[]⟩)]) 48 rfl Tryz.underlying49 info88 rfl (by decide) (by omega) u170003 x170003_6 (⟨t172, t173, t174, t175⟩ : S88) [.string t172, .int .i64 t173, .int .i64 t174, .string t175] (fun k_ => k_ ≠ gb177) (fun _ => False) rfl (by first | (go_simp; done) | (go_simp; rfl)) ?aP (fun _ hk => hk.elim) ?aF ?aO ?aB ?aS ?aL ?_; (case aP => exact k88_mkM _ _ _ (⟨t172, t173, t174, t175⟩ : S88)); (case aB => exact (zb10 HB GE160.out GE169.out GE177.out)); (case aF => exact (fun k_ hk => Kd.freshB (g := gb177) (o := .cells #[.string t172, .int .i64 t173, .int .i64 t174, .string t175] 88 (0, 0)) (by (with_reducible repeat (first | refine Zac ?_ _ | refine Zad ?_ | refine Zab ?_ _)); refine Zas (cs := #[.string t172, .int .i64 t173, .int .i64 t174, .string (⟨#[]⟩ : ByteArray)]) ?_ 3 _ rfl; (with_reducible repeat (first | refine Zac ?_ _ | refine Zad ?_ | refine Zab ?_ _)); refine Zas (cs := #[.string t172, .int .i64 t173, .int .i64 0, .string (⟨#[]⟩ : ByteArray)]) ?_ 2 _ rfl; (with_reducible repeat (first | refine Zac ?_ _ | refine Zad ?_ | refine Zab ?_ _)); refine Zas (cs := #[.string t172, .int .i64 0, .int .i64 0, .string (⟨#[]⟩ : ByteArray)]) ?_ 1 _ rfl; (with_reducible repeat (first | refine Zac ?_ _ | refine Zad ?_ | refine Zab ?_ _)); refine Zas (cs := #[.string (⟨#[]⟩ : ByteArray), .int .i64 0, .int .i64 0, .string (⟨#[]⟩ : ByteArray)]) ?_ 0 _ rfl; (with_reducible repeat (first | refine Zac ?_ _ | refine Zad ?_ | refine Zab ?_ _)); exact BK177.out) k_ hk)); (case aO => exact (by (with_reducible repeat (first | apply Kd.R_alloc | apply Kd.R_drewN | apply Kd.R_drew)); exact Kd.R_mono (Kd.R_far (p := ⟨gb177, 3, none⟩) (Kd.R_far (p := ⟨gb177, 2, none⟩) (Kd.R_far (p := ⟨gb177, 1, none⟩) (Kd.R_far (p := ⟨gb177, 0, none⟩) (Kd.R_mono HO_170003.out (fun k_ hk => (⟨hk, hk.2⟩ : _ ∧ k_ ≠ gb177))) (fun _ hk => hk.2) (.string t172)) (fun _ hk => hk.2) (.int .i64 t173)) (fun _ hk => hk.2) (.int .i64 t174)) (fun _ hk => hk.2) (.string t175)) (fun _ hk => hk.1.2))); (case aS => exact (Zai (zb10 HB GE160.out GE169.out GE177.out))); (case aL => have := LMc65.out; omega); intro v179 w73 ho hb hg hat; rw [← Ny178.out] at ho; replace HO_4 := Zaa.mk (Kd.R_over' (by (with_reducible repeat (first | apply Kd.R_alloc | apply Kd.R_drewN | apply Kd.R_drew)); exact (Kd.R_mono (Kd.R_far (p := ⟨gb177, 3, none⟩) (Kd.R_far (p := ⟨gb177, 2, none⟩) (Kd.R_far (p := ⟨gb177, 1, none⟩) (Kd.R_far (p := ⟨gb177, 0, none⟩) (Kd.R_types HO_4.out BK177.out (by decide)) (fun _ hk => hk.2) (.string t172)) (fun _ hk => hk.2) (.int .i64 t173)) (fun _ hk => hk.2) (.int .i64 t174)) (fun _ hk => hk.2) (.string t175)) (fun _ h_ => h_.1))) (Kd.R_typed (by (with_reducible repeat (first | apply Kd.R_alloc | apply Kd.R_drewN | apply Kd.R_drew)); exact (Kd.R_mono (Kd.R_far (p := ⟨gb177, 3, none⟩) (Kd.R_far (p := ⟨gb177, 2, none⟩) (Kd.R_far (p := ⟨gb177, 1, none⟩) (Kd.R_far (p := ⟨gb177, 0, none⟩) (Kd.R_mono HO_170003.out (fun k_ hk => (⟨hk, hk.2⟩ : _ ∧ k_ ≠ gb177))) (fun _ hk => hk.2) (.string t172)) (fun _ hk => hk.2) (.int .i64 t173)) (fun _ hk => hk.2) (.int .i64 t174)) (fun _ hk => hk.2) (.string t175)) (fun _ h_ => h_.1)))) (by decide) hg); replace BK160 := Zaa.mk (Zb2 (g := gb160) (o := .cells #[.int .i64 x161000_6, .int .i64 x161001_6, .int .i64 x161002_6, .slice none 0 0] 51 (0, 0)) (by (with_reducible repeat (first | refine Zac ?_ _ | refine Zad ?_ | refine Zab ?_ _)); refine Zaq ?_ NB160_177.out _; (with_reducible repeat (first | refine Zac ?_ _ | refine Zad ?_ | refine Zab ?_ _)); refine Zaq ?_ NB160_177.out _; (with_reducible repeat (first | refine Zac ?_ _ | refine Zad ?_ | refine Zab ?_ _)); refine Zaq ?_ NB160_177.out _; (with_reducible repeat (first | refine Zac ?_ _ | refine Zad ?_ | refine Zab ?_ _)); refine Zaq ?_ NB160_177.out _; (with_reducible repeat (first | refine Zac ?_ _ | refine Zad ?_ | refine Zab ?_ _)); exact BK160.out) hg (Kd.R_ne HO_170003.out BK160.out (by decide))); replace BK169 := Zaa.mk (Zb2 (g := gb169) (o := .cells #[.int .i64 t168, .int .i64 x7_2, .int .i64 x170002_4, u170003] 51 (0, 0)) (by (with_reducible repeat (first | refine Zac ?_ _ | refine Zad ?_ | refine Zab ?_ _)); refine Zaq ?_ NB169_177.out _; (with_reducible repeat (first | refine Zac ?_ _ | refine Zad ?_ | refine Zab ?_ _)); refine Zaq ?_ NB169_177.out _; (with_reducible repeat (first | refine Zac ?_ _ | refine Zad ?_ | refine Zab ?_ _)); refine Zaq ?_ NB169_177.out _; (with_reducible repeat (first | refine Zac ?_ _ | refine Zad ?_ | refine Zab ?_ _)); refine Zaq ?_ NB169_177.out _; (with_reducible repeat (first | refine Zac ?_ _ | refine Zad ?_ | refine Zab ?_ _)); exact BK169.out) hg (Kd.R_ne HO_170003.out BK169.out (by decide))); replace BK177 := Zaa.mk (Zb2 (g := gb177) (o := .cells #[.string t172, .int .i64 t173, .int .i64 t174, .string t175] 88 (0, 0)) (by (with_reducible repeat (first | refine Zac ?_ _ | refine Zad ?_ | refine Zab ?_ _)); refine Zas (cs := #[.string t172, .int .i64 t173, .int .i64 t174, .string (⟨#[]⟩ : ByteArray)]) ?_ 3 _ rfl; (with_reducible repeat (first | refine Zac ?_ _ | refine Zad ?_ | refine Zab ?_ _)); refine Zas (cs := #[.string t172, .int .i64 t173, .int .i64 0, .string (⟨#[]⟩ : ByteArray)]) ?_ 2 _ rfl; (with_reducible repeat (first | refine Zac ?_ _ | refine Zad ?_ | refine Zab ?_ _)); refine Zas (cs := #[.string t172, .int .i64 0, .int .i64 0, .string (⟨#[]⟩ : ByteArray)]) ?_ 1 _ rfl; (with_reducible repeat (first | refine Zac ?_ _ | refine Zad ?_ | refine Zab ?_ _)); refine Zas (cs := #[.string (⟨#[]⟩ : ByteArray), .int .i64 0, .int .i64 0, .string (⟨#[]⟩ : ByteArray)]) ?_ 0 _ rfl; (with_reducible repeat (first | refine Zac ?_ _ | refine Zad ?_ | refine Zab ?_ _)); exact BK177.out) hg (Kd.R_away HO_170003.out (fun _ hk => hk.2))); replace HB := Zaa.mk (hb); have HO180 := Zaa.mk (ho); clear HO_170003 ho hb hg hat; obtain ⟨Ao74, co74, eo74⟩ := Kd.R_slice HO180.out; subst eo74; obtain ⟨hcz75_0, hcz75_1, hcz75_2, hcz75_3⟩ := bc4 BK169.out; obtain ⟨hfz75_0, hfz75_1, hfz75_2, hfz75_3⟩ := bf4 BK169.out))
                         go_roundg k6
                         case measure => have := HJ5.out; have := HK2.out; have := HJ31.out; have := HK4.out; have := HJ46.out; have := HK6.out; omega
                         case rel => exact ⟨(wrap64 (x9_6 + 1)), (x161000_6), (x161001_6), (x161002_6), (y178), (.slice Ao74 y178.length co74), (by first | rfl | (simp; done) | (simp [*]; done)), H', ⟨by have := HJ5.out; have := HK2.out; have := HJ31.out; have := HK4.out; have := HJ46.out; have := HK6.out; omega⟩, ⟨by (with_reducible repeat (first | apply Kd.R_alloc | apply Kd.R_drewN | apply Kd.R_drew)); exact Kd.R_mono (Kd.R_far (p := ⟨gb169, 3, none⟩) (Kd.R_types HO_4.out BK169.out (by decide)) (fun _ hk => hk.2) (.slice Ao74 y178.length co74)) (fun _ hk => trivial)⟩, ⟨by (with_reducible repeat (first | apply Kd.R_alloc | apply Kd.R_drewN | apply Kd.R_drew)); exact Kd.R_mono (Kd.R_far (p := ⟨gb169, 3, none⟩) (Kd.R_types HO180.out BK169.out (by decide)) (fun _ hk => hk.2) (.slice Ao74 y178.length co74)) (fun _ hk => trivial)⟩, ⟨by (with_reducible repeat (first | refine Zac ?_ _ | refine Zad ?_ | refine Zab ?_ _)); refine Zaq ?_ NB160_169.out _; (with_reducible repeat (first | refine Zac ?_ _ | refine Zad ?_ | refine Zab ?_ _)); exact BK160.out⟩, ⟨by (with_reducible repeat (first | refine Zac ?_ _ | refine Zad ?_ | refine Zab ?_ _)); refine Zas (cs := #[.int .i64 t168, .int .i64 x7_2, .int .i64 x170002_4, u170003]) ?_ 3 _ rfl; (with_reducible repeat (first | refine Zac ?_ _ | refine Zad ?_ | refine Zab ?_ _)); exact BK169.out⟩, ⟨(zb10 HB GE160.out GE169.out GE177.out)⟩⟩
                        ·rw [if_neg c65] at H
                         exact absurd H (by simp)
                       ·rw [if_neg c64] at H
                        have c64b0 : (t176 == 0) = false := beq_eq_false_iff_ne.mpr c64
                        have c64b1 : (t176 != 0) = true := bne_iff_ne.mpr c64
                        simp only [Option.some.injEq, Prod.mk.injEq] at H
                        obtain ⟨rfl, rfl, rfl, rfl, rfl⟩ := H
                        have p171 : 0 ≤ (x9_6 : Int) := zod
                        have q171 : x9_6 < (t161.length : Int) := zod
                        obtain ⟨ad171, e171, hx171_0⟩ := Kd.at_string (Kd.R_reads' HO_4.out).2.2 x9_6 p171 q171
                        obtain rfl : ad167 = ad171 := (by injection e171)
                        replace p171 := eq_true p171
                        replace q171 := eq_true q171
                        go_wp2_with (first | ((with_reducible refine Zam (f := 97) rfl ?_); refine Za1 (some 138) rfl rfl Tryz.func97 (by kernel_rfl) rfl #[.string (rdOf ByteArray.empty t161 x9_6)] rfl zam ?_; (with_reducible refine (kauditref02_Parse.calls (rdOf ByteArray.empty t161 x9_6) t172 t173 t174 t175 t176 _ A63.out).mono ?_); rintro e w76 ⟨rfl, hb⟩; refine ⟨_, rfl, ?_⟩; replace HO_4 := Zaa.mk (Kd.R_below (zrk HO_4) hb); replace HO_170003 := Zaa.mk (Kd.R_below (zrk HO_170003) hb); replace BK160 := Zaa.mk (Zah (g := gb160) (o := .cells #[.int .i64 x161000_6, .int .i64 x161001_6, .int .i64 x161002_6, .slice none 0 0] 51 (0, 0)) (zbk BK160) hb); replace BK169 := Zaa.mk (Zah (g := gb169) (o := .cells #[.int .i64 t168, .int .i64 x7_2, .int .i64 x170002_4, u170003] 51 (0, 0)) (zbk BK169) hb); replace HB := Zaa.mk (Zae (zb6 HB GE160.out GE169.out) hb); (try clear hb)) | ((with_reducible refine Zav (N := 10) rfl ?_); (try (refine Zbv (by rfl) ?_; dsimp only)); refine Zaw ?hg (N := 10) ?hd (cs := #[.string (⟨#[]⟩ : ByteArray), .int .i64 0, .int .i64 0, .string (⟨#[]⟩ : ByteArray)]) (t := 88) ?hr ?_; (case hd => rfl); (case hg => rfl); (case hr => first | (go_simp; done) | (go_simp; rfl)); intro gb177 hg w77 hbox hb; replace HO_4 := Zaa.mk (Kd.R_below (zrk HO_4) hb); replace HO_170003 := Zaa.mk (Kd.R_below (Kd.R_elderB (zrk HO_170003) gb177 (Nat.le_of_eq hg.symm)) hb); have BK177 := Zaa.mk (hbox); have GW177 := Zaa.mk ((by rw [hg]; exact (Zai (zb6 HB GE160.out GE169.out)) : w.heap.size ≤ gb177)); have GE177 := Zaa.mk ((by rw [hg]; exact (Zai (zb6 HB GE160.out GE169.out)) : w.heap.size ≤ gb177)); replace HB := Zaa.mk (Zae (zb6 HB GE160.out GE169.out) hb); have NB160_177 := Zaa.mk ((by rw [hg]; exact Nat.ne_of_lt (Za3 (g := gb160) (o := .cells #[.int .i64 x161000_6, .int .i64 x161001_6, .int .i64 x161002_6, .slice none 0 0] 51 (0, 0)) (zbk BK160)) : gb160 ≠ gb177)); have NB177_160 := Zaa.mk ((by rw [hg]; exact Nat.ne_of_gt (Za3 (g := gb160) (o := .cells #[.int .i64 x161000_6, .int .i64 x161001_6, .int .i64 x161002_6, .slice none 0 0] 51 (0, 0)) (zbk BK160)) : gb177 ≠ gb160)); replace BK160 := Zaa.mk (Zah (g := gb160) (o := .cells #[.int .i64 x161000_6, .int .i64 x161001_6, .int .i64 x161002_6, .slice none 0 0] 51 (0, 0)) (zbk BK160) hb); have NB169_177 := Zaa.mk ((by rw [hg]; exact Nat.ne_of_lt (Za3 (g := gb169) (o := .cells #[.int .i64 t168, .int .i64 x7_2, .int .i64 x170002_4, u170003] 51 (0, 0)) (zbk BK169)) : gb169 ≠ gb177)); have NB177_169 := Zaa.mk ((by rw [hg]; exact Nat.ne_of_gt (Za3 (g := gb169) (o := .cells #[.int .i64 t168, .int .i64 x7_2, .int .i64 x170002_4, u170003] 51 (0, 0)) (zbk BK169)) : gb177 ≠ gb169)); replace BK169 := Zaa.mk (Zah (g := gb169) (o := .cells #[.int .i64 t168, .int .i64 x7_2, .int .i64 x170002_4, u170003] 51 (0, 0)) (zbk BK169) hb); clear hb hbox hg; have hnb78 := NB177_160.out; have hnc78 := NB160_177.out; have hnb79 := NB177_169.out; have hnc79 := NB169_177.out; obtain ⟨hcz80_0, hcz80_1, hcz80_2, hcz80_3⟩ := bc4 BK177.out; obtain ⟨hfz80_0, hfz80_1, hfz80_2, hfz80_3⟩ := bf4 BK177.out; have hnb81 := NB160_169.out; have hnc81 := NB169_160.out; obtain ⟨hcz82_0, hcz82_1, hcz82_2, hcz82_3⟩ := bc4 BK160.out; obtain ⟨hfz82_0, hfz82_1, hfz82_2, hfz82_3⟩ := bf4 BK160.out))
                        refine bodyPost_ret (Za5 rfl _ _ gb160 51 #[.int .i64 0, .int .i64 0, .int .i64 0, .slice none 0 0] (0, 0) _ rfl (by (with_reducible repeat (first | refine Zac ?_ _ | refine Zad ?_ | refine Zab ?_ _)); refine Zas (cs := #[.int .i64 0, .int .i64 0, .int .i64 0, .slice none 0 0]) ?_ 3 _ rfl; (with_reducible repeat (first | refine Zac ?_ _ | refine Zad ?_ | refine Zab ?_ _)); refine Zas (cs := #[.int .i64 0, .int .i64 0, .int .i64 x161002_6, .slice none 0 0]) ?_ 2 _ rfl; (with_reducible repeat (first | refine Zac ?_ _ | refine Zad ?_ | refine Zab ?_ _)); refine Zas (cs := #[.int .i64 0, .int .i64 x161001_6, .int .i64 x161002_6, .slice none 0 0]) ?_ 1 _ rfl; (with_reducible repeat (first | refine Zac ?_ _ | refine Zad ?_ | refine Zab ?_ _)); refine Zas (cs := #[.int .i64 x161000_6, .int .i64 x161001_6, .int .i64 x161002_6, .slice none 0 0]) ?_ 0 _ rfl; (with_reducible repeat (first | refine Zac ?_ _ | refine Zad ?_ | refine Zab ?_ _)); refine Zaq ?_ NB160_177.out _; (with_reducible repeat (first | refine Zac ?_ _ | refine Zad ?_ | refine Zab ?_ _)); refine Zaq ?_ NB160_177.out _; (with_reducible repeat (first | refine Zac ?_ _ | refine Zad ?_ | refine Zab ?_ _)); refine Zaq ?_ NB160_177.out _; (with_reducible repeat (first | refine Zac ?_ _ | refine Zad ?_ | refine Zab ?_ _)); refine Zaq ?_ NB160_177.out _; (with_reducible repeat (first | refine Zac ?_ _ | refine Zad ?_ | refine Zab ?_ _)); exact BK160.out) Tryz.underlying51 rfl (by kernel_rfl)) rfl ?_
                        exact ⟨_, by first | rfl | (simp [errW_none, errW_some] <;> rfl) | (simp [*, errW_none, errW_some] <;> rfl), by first | exact Kd.R_nil _ _ _ _ _ | exact Kd.N_nil _ _ _ _ _ | exact Kd.V_nil _ _ _ _ _ | exact Kd.Q_nil _ _ _ _ _ | exact Kd.S_nil _ _ _ _ _, (zb10 HB GE160.out GE169.out GE177.out)⟩
                      ·rw [if_neg c62] at H
                       exact absurd H (by simp)
                     ·rw [if_neg c61] at H
                      have c61b0 : decide (x9_6 < (t161.length : Int)) = false := decide_eq_false c61
                      clear c61
                      replace H := Option.bind_eq_some_iff.mp H
                      obtain ⟨⟨t181, t182⟩, A830, H⟩ := H
                      try dsimp only at H
                      have A83 := Zaa.mk A830
                      clear A830
                      by_cases c84 : t182 = 0
                      ·rw [if_pos c84] at H
                       have c84b0 : (t182 == 0) = true := beq_iff_eq.mpr c84
                       have c84b1 : (t182 != 0) = false := bne_eq_false_iff_eq.mpr c84
                       clear c84
                       by_cases c85 : t181.toList = a0.toList
                       ·rw [if_pos c85] at H
                        have c85b0 : (t181.toList == a0.toList) = true := beq_iff_eq.mpr c85
                        have c85b1 : (t181.toList != a0.toList) = false := bne_eq_false_iff_eq.mpr c85
                        clear c85
                        simp only [Option.some.injEq, Prod.mk.injEq] at H
                        obtain ⟨rfl, rfl, rfl, rfl, rfl⟩ := H
                        have hnb86 := NB169_160.out
                        have hnc86 := NB160_169.out
                        obtain ⟨hcz87_0, hcz87_1, hcz87_2, hcz87_3⟩ := bc4 BK169.out
                        obtain ⟨hfz87_0, hfz87_1, hfz87_2, hfz87_3⟩ := bf4 BK169.out
                        obtain ⟨Ao88, co88, eo88⟩ := Kd.R_slice HO_170003.out
                        subst eo88
                        go_wp2_with (first | ((with_reducible refine Zam (f := 17) rfl ?_); refine Za1 (some 152) rfl rfl Tryz.func17 (by kernel_rfl) rfl #[.agg #[.int .i64 t168, .int .i64 x7_2, .int .i64 x170002_4, .slice Ao88 x170003_6.length co88]] rfl zam ?_; (with_reducible refine (kauditref03_Format.calls k6 t168 x7_2 x170002_4 _ _ x170003_6 t181 t182 _ ?side1 ?side2 A83.out).mono ?_); (case side1 => repeat (first | exact (Kd.R_reads' HO_170003.out).2.2 | (with_reducible refine Kd.C_alloc ?_ _) | (with_reducible refine Kd.C_drewN ?_ _) | (with_reducible refine Kd.C_drew ?_))); (case side2 => exact (Kd.R_reads' HO_170003.out).2.1); rintro e w89 ⟨rfl, hb⟩; refine ⟨_, rfl, ?_⟩; replace HO_4 := Zaa.mk (Kd.R_below (zrk HO_4) hb); replace HO_170003 := Zaa.mk (Kd.R_below (zrk HO_170003) hb); replace BK160 := Zaa.mk (Zah (g := gb160) (o := .cells #[.int .i64 x161000_6, .int .i64 x161001_6, .int .i64 x161002_6, .slice none 0 0] 51 (0, 0)) (zbk BK160) hb); replace BK169 := Zaa.mk (Zah (g := gb169) (o := .cells #[.int .i64 t168, .int .i64 x7_2, .int .i64 x170002_4, .slice Ao88 x170003_6.length co88] 51 (0, 0)) (zbk BK169) hb); replace HB := Zaa.mk (Zae (zb6 HB GE160.out GE169.out) hb); (try clear hb); obtain ⟨hcz90_0, hcz90_1, hcz90_2, hcz90_3⟩ := bc4 BK169.out; obtain ⟨hfz90_0, hfz90_1, hfz90_2, hfz90_3⟩ := bf4 BK169.out; obtain ⟨hcz91_0, hcz91_1, hcz91_2, hcz91_3⟩ := bc4 BK160.out; obtain ⟨hfz91_0, hfz91_1, hfz91_2, hfz91_3⟩ := bf4 BK160.out))
                        refine bodyPost_ret (Za5 rfl _ _ gb160 51 #[.int .i64 t168, .int .i64 x7_2, .int .i64 x170002_4, .slice Ao88 x170003_6.length co88] (0, 0) _ rfl (by (with_reducible repeat (first | refine Zac ?_ _ | refine Zad ?_ | refine Zab ?_ _)); refine Zas (cs := #[.int .i64 t168, .int .i64 x7_2, .int .i64 x170002_4, .slice none 0 0]) ?_ 3 _ rfl; (with_reducible repeat (first | refine Zac ?_ _ | refine Zad ?_ | refine Zab ?_ _)); refine Zas (cs := #[.int .i64 t168, .int .i64 x7_2, .int .i64 x161002_6, .slice none 0 0]) ?_ 2 _ rfl; (with_reducible repeat (first | refine Zac ?_ _ | refine Zad ?_ | refine Zab ?_ _)); refine Zas (cs := #[.int .i64 t168, .int .i64 x161001_6, .int .i64 x161002_6, .slice none 0 0]) ?_ 1 _ rfl; (with_reducible repeat (first | refine Zac ?_ _ | refine Zad ?_ | refine Zab ?_ _)); refine Zas (cs := #[.int .i64 x161000_6, .int .i64 x161001_6, .int .i64 x161002_6, .slice none 0 0]) ?_ 0 _ rfl; (with_reducible repeat (first | refine Zac ?_ _ | refine Zad ?_ | refine Zab ?_ _)); exact BK160.out) Tryz.underlying51 rfl (by kernel_rfl)) rfl ?_
                        exact ⟨_, by first | rfl | (simp [errW_none, errW_some] <;> rfl) | (simp [*, errW_none, errW_some] <;> rfl), by (with_reducible repeat (first | apply Kd.R_alloc | apply Kd.R_drewN | apply Kd.R_drew)); exact Kd.R_mono (Kd.R_far (p := ⟨gb160, 3, none⟩) (Kd.R_far (p := ⟨gb160, 2, none⟩) (Kd.R_far (p := ⟨gb160, 1, none⟩) (Kd.R_far (p := ⟨gb160, 0, none⟩) (Kd.R_types HO_170003.out BK160.out (by decide)) (fun _ hk => hk.2) (.int .i64 t168)) (fun _ hk => hk.2) (.int .i64 x7_2)) (fun _ hk => hk.2) (.int .i64 x170002_4)) (fun _ hk => hk.2) (.slice Ao88 x170003_6.length co88)) (fun _ hk => trivial), (zb6 HB GE160.out GE169.out)⟩
                       ·rw [if_neg c85] at H
                        have c85b0 : (t181.toList == a0.toList) = false := beq_eq_false_iff_ne.mpr c85
                        have c85b1 : (t181.toList != a0.toList) = true := bne_iff_ne.mpr c85
                        simp only [Option.some.injEq, Prod.mk.injEq] at H
                        obtain ⟨rfl, rfl, rfl, rfl, rfl⟩ := H
                        have hnb92 := NB169_160.out
                        have hnc92 := NB160_169.out
                        obtain ⟨hcz93_0, hcz93_1, hcz93_2, hcz93_3⟩ := bc4 BK169.out
                        obtain ⟨hfz93_0, hfz93_1, hfz93_2, hfz93_3⟩ := bf4 BK169.out
                        obtain ⟨Ao94, co94, eo94⟩ := Kd.R_slice HO_170003.out
                        subst eo94
                        go_wp2_with (first | ((with_reducible refine Zam (f := 17) rfl ?_); refine Za1 (some 152) rfl rfl Tryz.func17 (by kernel_rfl) rfl #[.agg #[.int .i64 t168, .int .i64 x7_2, .int .i64 x170002_4, .slice Ao94 x170003_6.length co94]] rfl zam ?_; (with_reducible refine (kauditref03_Format.calls k6 t168 x7_2 x170002_4 _ _ x170003_6 t181 t182 _ ?side1 ?side2 A83.out).mono ?_); (case side1 => repeat (first | exact (Kd.R_reads' HO_170003.out).2.2 | (with_reducible refine Kd.C_alloc ?_ _) | (with_reducible refine Kd.C_drewN ?_ _) | (with_reducible refine Kd.C_drew ?_))); (case side2 => exact (Kd.R_reads' HO_170003.out).2.1); rintro e w95 ⟨rfl, hb⟩; refine ⟨_, rfl, ?_⟩; replace HO_4 := Zaa.mk (Kd.R_below (zrk HO_4) hb); replace HO_170003 := Zaa.mk (Kd.R_below (zrk HO_170003) hb); replace BK160 := Zaa.mk (Zah (g := gb160) (o := .cells #[.int .i64 x161000_6, .int .i64 x161001_6, .int .i64 x161002_6, .slice none 0 0] 51 (0, 0)) (zbk BK160) hb); replace BK169 := Zaa.mk (Zah (g := gb169) (o := .cells #[.int .i64 t168, .int .i64 x7_2, .int .i64 x170002_4, .slice Ao94 x170003_6.length co94] 51 (0, 0)) (zbk BK169) hb); replace HB := Zaa.mk (Zae (zb6 HB GE160.out GE169.out) hb); (try clear hb); obtain ⟨hcz96_0, hcz96_1, hcz96_2, hcz96_3⟩ := bc4 BK160.out; obtain ⟨hfz96_0, hfz96_1, hfz96_2, hfz96_3⟩ := bf4 BK160.out))
                        refine bodyPost_ret (Za5 rfl _ _ gb160 51 #[.int .i64 0, .int .i64 0, .int .i64 0, .slice none 0 0] (0, 0) _ rfl (by (with_reducible repeat (first | refine Zac ?_ _ | refine Zad ?_ | refine Zab ?_ _)); refine Zas (cs := #[.int .i64 0, .int .i64 0, .int .i64 0, .slice none 0 0]) ?_ 3 _ rfl; (with_reducible repeat (first | refine Zac ?_ _ | refine Zad ?_ | refine Zab ?_ _)); refine Zas (cs := #[.int .i64 0, .int .i64 0, .int .i64 x161002_6, .slice none 0 0]) ?_ 2 _ rfl; (with_reducible repeat (first | refine Zac ?_ _ | refine Zad ?_ | refine Zab ?_ _)); refine Zas (cs := #[.int .i64 0, .int .i64 x161001_6, .int .i64 x161002_6, .slice none 0 0]) ?_ 1 _ rfl; (with_reducible repeat (first | refine Zac ?_ _ | refine Zad ?_ | refine Zab ?_ _)); refine Zas (cs := #[.int .i64 x161000_6, .int .i64 x161001_6, .int .i64 x161002_6, .slice none 0 0]) ?_ 0 _ rfl; (with_reducible repeat (first | refine Zac ?_ _ | refine Zad ?_ | refine Zab ?_ _)); exact BK160.out) Tryz.underlying51 rfl (by kernel_rfl)) rfl ?_
                        exact ⟨_, by first | rfl | (simp [errW_none, errW_some] <;> rfl) | (simp [*, errW_none, errW_some] <;> rfl), by first | exact Kd.R_nil _ _ _ _ _ | exact Kd.N_nil _ _ _ _ _ | exact Kd.V_nil _ _ _ _ _ | exact Kd.Q_nil _ _ _ _ _ | exact Kd.S_nil _ _ _ _ _, (zb6 HB GE160.out GE169.out)⟩
                      ·rw [if_neg c84] at H
                       have c84b0 : (t182 == 0) = false := beq_eq_false_iff_ne.mpr c84
                       have c84b1 : (t182 != 0) = true := bne_iff_ne.mpr c84
                       simp only [Option.some.injEq, Prod.mk.injEq] at H
                       obtain ⟨rfl, rfl, rfl, rfl, rfl⟩ := H
                       have hnb97 := NB169_160.out
                       have hnc97 := NB160_169.out
                       obtain ⟨hcz98_0, hcz98_1, hcz98_2, hcz98_3⟩ := bc4 BK169.out
                       obtain ⟨hfz98_0, hfz98_1, hfz98_2, hfz98_3⟩ := bf4 BK169.out
                       obtain ⟨Ao99, co99, eo99⟩ := Kd.R_slice HO_170003.out
                       subst eo99
                       go_wp2_with (first | ((with_reducible refine Zam (f := 17) rfl ?_); refine Za1 (some 152) rfl rfl Tryz.func17 (by kernel_rfl) rfl #[.agg #[.int .i64 t168, .int .i64 x7_2, .int .i64 x170002_4, .slice Ao99 x170003_6.length co99]] rfl zam ?_; (with_reducible refine (kauditref03_Format.calls k6 t168 x7_2 x170002_4 _ _ x170003_6 t181 t182 _ ?side1 ?side2 A83.out).mono ?_); (case side1 => repeat (first | exact (Kd.R_reads' HO_170003.out).2.2 | (with_reducible refine Kd.C_alloc ?_ _) | (with_reducible refine Kd.C_drewN ?_ _) | (with_reducible refine Kd.C_drew ?_))); (case side2 => exact (Kd.R_reads' HO_170003.out).2.1); rintro e w100 ⟨rfl, hb⟩; refine ⟨_, rfl, ?_⟩; replace HO_4 := Zaa.mk (Kd.R_below (zrk HO_4) hb); replace HO_170003 := Zaa.mk (Kd.R_below (zrk HO_170003) hb); replace BK160 := Zaa.mk (Zah (g := gb160) (o := .cells #[.int .i64 x161000_6, .int .i64 x161001_6, .int .i64 x161002_6, .slice none 0 0] 51 (0, 0)) (zbk BK160) hb); replace BK169 := Zaa.mk (Zah (g := gb169) (o := .cells #[.int .i64 t168, .int .i64 x7_2, .int .i64 x170002_4, .slice Ao99 x170003_6.length co99] 51 (0, 0)) (zbk BK169) hb); replace HB := Zaa.mk (Zae (zb6 HB GE160.out GE169.out) hb); (try clear hb); obtain ⟨hcz101_0, hcz101_1, hcz101_2, hcz101_3⟩ := bc4 BK160.out; obtain ⟨hfz101_0, hfz101_1, hfz101_2, hfz101_3⟩ := bf4 BK160.out))
                       refine bodyPost_ret (Za5 rfl _ _ gb160 51 #[.int .i64 0, .int .i64 0, .int .i64 0, .slice none 0 0] (0, 0) _ rfl (by (with_reducible repeat (first | refine Zac ?_ _ | refine Zad ?_ | refine Zab ?_ _)); refine Zas (cs := #[.int .i64 0, .int .i64 0, .int .i64 0, .slice none 0 0]) ?_ 3 _ rfl; (with_reducible repeat (first | refine Zac ?_ _ | refine Zad ?_ | refine Zab ?_ _)); refine Zas (cs := #[.int .i64 0, .int .i64 0, .int .i64 x161002_6, .slice none 0 0]) ?_ 2 _ rfl; (with_reducible repeat (first | refine Zac ?_ _ | refine Zad ?_ | refine Zab ?_ _)); refine Zas (cs := #[.int .i64 0, .int .i64 x161001_6, .int .i64 x161002_6, .slice none 0 0]) ?_ 1 _ rfl; (with_reducible repeat (first | refine Zac ?_ _ | refine Zad ?_ | refine Zab ?_ _)); refine Zas (cs := #[.int .i64 x161000_6, .int .i64 x161001_6, .int .i64 x161002_6, .slice none 0 0]) ?_ 0 _ rfl; (with_reducible repeat (first | refine Zac ?_ _ | refine Zad ?_ | refine Zab ?_ _)); exact BK160.out) Tryz.underlying51 rfl (by kernel_rfl)) rfl ?_
                       exact ⟨_, by first | rfl | (simp [errW_none, errW_some] <;> rfl) | (simp [*, errW_none, errW_some] <;> rfl), by first | exact Kd.R_nil _ _ _ _ _ | exact Kd.N_nil _ _ _ _ _ | exact Kd.V_nil _ _ _ _ _ | exact Kd.Q_nil _ _ _ _ _ | exact Kd.S_nil _ _ _ _ _, (zb6 HB GE160.out GE169.out)⟩
        ·rw [if_neg c26] at H
         exact absurd H (by simp)
       ·rw [if_neg c25] at H
        exact absurd H (by simp)
      ·rw [if_neg c23] at H
       exact absurd H (by simp)
     ·rw [if_neg c22] at H
      exact absurd H (by simp)
end Go.Proofs.YtodbabeldolcbaaGreatDoor.PA
