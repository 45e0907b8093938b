/- Contracts of functions of the program: written by pr2.py (ours, round the print of the kit) out of the translation; conditions: each contract names its own. -/
import Derived.Test.YtodbabeldolcbaaGreatDoorY9EForm
namespace Go.Proofs.YtodbabeldolcbaaGreatDoor.PA
open Go.RowKit Go.Proofs.YtodbabeldolcbaaGreatDoorW.PrintWords Go.Proofs.YtodbabeldolcbaaGreatDoorW.PrintLast Go.Proofs.YtodbabeldolcbaaGreatDoorW.PrintMore
attribute [local go_sem] Zbg Zbe Zbs Zbr Za8 Za7 Zbf Zbd   -- for this text's walks alone
set_option linter.unusedVariables false
set_option linter.unusedSimpArgs false
def kauditlaw03_awake.f  : Option (Bool) := (record_Format.f 1307 12345 7 (([(⟨(⟨#[99, 119, 100]⟩ : ByteArray), 2, 0, (⟨#[47, 116, 109, 112]⟩ : ByteArray)⟩ : S88)] : List (S88)))).bind fun bt236 => (if bt236.2 = 0 then (some (bt236.1.toList == ([116, 121, 112, 101, 61, 67, 87, 68, 32, 109, 115, 103, 61, 97, 117, 100, 105, 116, 40, 49, 50, 46, 51, 52, 53, 58, 55, 41, 58, 32, 99, 119, 100, 61, 34, 47, 116, 109, 112, 34] : List UInt8))) else (some false))
set_option maxHeartbeats 8000000 in
set_option maxRecDepth 100000 in
theorem kauditlaw03_awake.calls  (r : Bool) (w : World) (hG : GT 2 w) (h : kauditlaw03_awake.f  = some r) :
  Calls Tryz.prog 18 #[] w fun e w' => e = .returned (.bool r) ∧ Below w.heap.size w w' := by
 have hu88 := Tryz.underlying88
 have hu51 := Tryz.underlying51
 have HG := Zaa.mk hG
 clear hG
 have HB := Zaa.mk (Below.refl w.heap.size w)
 unfold kauditlaw03_awake.f at h
 have H := h
 clear h
 obtain ⟨y233, hy233⟩ : ∃ y_ : List (S88), y_ = (([(⟨(⟨#[99, 119, 100]⟩ : ByteArray), 2, 0, (⟨#[47, 116, 109, 112]⟩ : ByteArray)⟩ : S88)] : List (S88))) := ⟨_, rfl⟩
 replace H : ((record_Format.f 1307 12345 7 y233).bind fun bt236 => (if bt236.2 = 0 then (some (bt236.1.toList == ([116, 121, 112, 101, 61, 67, 87, 68, 32, 109, 115, 103, 61, 97, 117, 100, 105, 116, 40, 49, 50, 46, 51, 52, 53, 58, 55, 41, 58, 32, 99, 119, 100, 61, 34, 47, 116, 109, 112, 34] : List UInt8))) else (some false))) = some r := by first | (rw [hy233]; with_reducible exact H) | (have H2_ := (Option.bind_some _ _).symm.trans H; rw [hy233]; with_reducible exact H2_) | (have H2_ := (Option.bind_some _ _).symm.trans H; with_reducible exact H2_) | with_reducible exact H | (rw [hy233]; exact H) | exact H
 have Ny233 := Zaa.mk hy233
 clear hy233
 replace H := Option.bind_eq_some_iff.mp H
 obtain ⟨⟨t236, t237⟩, A10, H⟩ := H
 try dsimp only at H
 have A1 := Zaa.mk A10
 clear A10
 by_cases c2 : t237 = 0
 ·rw [if_pos c2] at H
  have c2b0 : (t237 == 0) = true := beq_iff_eq.mpr c2
  have c2b1 : (t237 != 0) = false := bne_eq_false_iff_eq.mpr c2
  clear c2
  obtain rfl := Option.some.inj H
  go_enter Tryz.func18, Tryz.ntmps18
  go_wp2_with (first | ((with_reducible refine Zav (N := 5) rfl ?_); refine Kd.R_lit k88 _ 88 ?hg (N := 5) ?hd (xs := ([(⟨(⟨#[99, 119, 100]⟩ : ByteArray), 2, 0, (⟨#[47, 116, 109, 112]⟩ : ByteArray)⟩ : S88)] : List (S88))) (inner := [.string (⟨#[99, 119, 100]⟩ : ByteArray), .int .i64 2, .int .i64 0, .string (⟨#[47, 116, 109, 112]⟩ : ByteArray)]) (ok := fun _ => True) (okp := fun _ => True) ?hr ?hp (fun _ hk => hk) trivial (Below.refl _ _) (Nat.le_refl _) (by simp) ?_; (case hd => rfl); (case hg => rfl); (case hr => first | (go_simp; done) | (go_simp; rfl)); (case hp => exact (Reps.c4 (show Kd.M k88 _ _ _ (⟨(⟨#[99, 119, 100]⟩ : ByteArray), 2, 0, (⟨#[47, 116, 109, 112]⟩ : ByteArray)⟩ : S88) [.string (⟨#[99, 119, 100]⟩ : ByteArray), .int .i64 2, .int .i64 0, .string (⟨#[47, 116, 109, 112]⟩ : ByteArray)] from (k88_mkM _ _ _ (⟨(⟨#[99, 119, 100]⟩ : ByteArray), 2, 0, (⟨#[47, 116, 109, 112]⟩ : ByteArray)⟩ : S88) )) (Reps.none _ _))); intro v234 w3 ho4 hb hg_ hnew_; clear hg_ hnew_; (first | rw [← Ny233.out] at ho4 | (simp only [Int.reduceToNat] at ho4; rw [← Ny233.out] at ho4)); have HO235 := Zaa.mk (Kd.R_lower ho4 (Zai (zb1 HB))); replace HB := Zaa.mk (Zae (zb1 HB) hb); clear hb ho4; obtain ⟨Ao5, co5, eo5⟩ := Kd.R_slice HO235.out; subst eo5) | ((with_reducible refine Zam (f := 23) rfl ?_); refine Za1 (some 7) rfl rfl Tryz.func23 (by kernel_rfl) rfl #[.agg #[.int .i64 1307, .int .i64 12345, .int .i64 7, .slice Ao5 y233.length co5]] rfl zam ?_; (with_reducible refine (record_Format.calls 1307 12345 7 _ _ y233 t236 t237 _ ?side1 ?side2 ?side3 A1.out).mono ?_); (case side1 => exact GT.below (by decide) HG.out (zb1 HB)); (case side2 => repeat (first | exact (Kd.R_reads' HO235.out).2.2 | (with_reducible refine Kd.C_alloc ?_ _) | (with_reducible refine Kd.C_drewN ?_ _) | (with_reducible refine Kd.C_drew ?_))); (case side3 => exact (Kd.R_reads' HO235.out).2.1); rintro e w6 ⟨rfl, hb⟩; refine ⟨_, rfl, ?_⟩; replace HO235 := Zaa.mk (Kd.R_below (zrk HO235) hb); replace HB := Zaa.mk (Zae (zb1 HB) hb); (try clear hb)))
  go_ret
  exact ⟨by first | rfl | (simp [errW_none, errW_some] <;> rfl) | (simp [*, errW_none, errW_some] <;> rfl), (zb1 HB)⟩
 ·rw [if_neg c2] at H
  have c2b0 : (t237 == 0) = false := beq_eq_false_iff_ne.mpr c2
  have c2b1 : (t237 != 0) = true := bne_iff_ne.mpr c2
  obtain rfl := Option.some.inj H
  go_enter Tryz.func18, Tryz.ntmps18
  go_wp2_with (first | ((with_reducible refine Zav (N := 5) rfl ?_); refine Kd.R_lit k88 _ 88 ?hg (N := 5) ?hd (xs := ([(⟨(⟨#[99, 119, 100]⟩ : ByteArray), 2, 0, (⟨#[47, 116, 109, 112]⟩ : ByteArray)⟩ : S88)] : List (S88))) (inner := [.string (⟨#[99, 119, 100]⟩ : ByteArray), .int .i64 2, .int .i64 0, .string (⟨#[47, 116, 109, 112]⟩ : ByteArray)]) (ok := fun _ => True) (okp := fun _ => True) ?hr ?hp (fun _ hk => hk) trivial (Below.refl _ _) (Nat.le_refl _) (by simp) ?_; (case hd => rfl); (case hg => rfl); (case hr => first | (go_simp; done) | (go_simp; rfl)); (case hp => exact (Reps.c4 (show Kd.M k88 _ _ _ (⟨(⟨#[99, 119, 100]⟩ : ByteArray), 2, 0, (⟨#[47, 116, 109, 112]⟩ : ByteArray)⟩ : S88) [.string (⟨#[99, 119, 100]⟩ : ByteArray), .int .i64 2, .int .i64 0, .string (⟨#[47, 116, 109, 112]⟩ : ByteArray)] from (k88_mkM _ _ _ (⟨(⟨#[99, 119, 100]⟩ : ByteArray), 2, 0, (⟨#[47, 116, 109, 112]⟩ : ByteArray)⟩ : S88) )) (Reps.none _ _))); intro v234 w7 ho8 hb hg_ hnew_; clear hg_ hnew_; (first | rw [← Ny233.out] at ho8 | (simp only [Int.reduceToNat] at ho8; rw [← Ny233.out] at ho8)); have HO235 := Zaa.mk (Kd.R_lower ho8 (Zai (zb1 HB))); replace HB := Zaa.mk (Zae (zb1 HB) hb); clear hb ho8; obtain ⟨Ao9, co9, eo9⟩ := Kd.R_slice HO235.out; subst eo9) | ((with_reducible refine Zam (f := 23) rfl ?_); refine Za1 (some 7) rfl rfl Tryz.func23 (by kernel_rfl) rfl #[.agg #[.int .i64 1307, .int .i64 12345, .int .i64 7, .slice Ao9 y233.length co9]] rfl zam ?_; (with_reducible refine (record_Format.calls 1307 12345 7 _ _ y233 t236 t237 _ ?side1 ?side2 ?side3 A1.out).mono ?_); (case side1 => exact GT.below (by decide) HG.out (zb1 HB)); (case side2 => repeat (first | exact (Kd.R_reads' HO235.out).2.2 | (with_reducible refine Kd.C_alloc ?_ _) | (with_reducible refine Kd.C_drewN ?_ _) | (with_reducible refine Kd.C_drew ?_))); (case side3 => exact (Kd.R_reads' HO235.out).2.1); rintro e w10 ⟨rfl, hb⟩; refine ⟨_, rfl, ?_⟩; replace HO235 := Zaa.mk (Kd.R_below (zrk HO235) hb); replace HB := Zaa.mk (Zae (zb1 HB) hb); (try clear hb)))
  go_ret
  exact ⟨by first | rfl | (simp [errW_none, errW_some] <;> rfl) | (simp [*, errW_none, errW_some] <;> rfl), (zb1 HB)⟩
end Go.Proofs.YtodbabeldolcbaaGreatDoor.PA
