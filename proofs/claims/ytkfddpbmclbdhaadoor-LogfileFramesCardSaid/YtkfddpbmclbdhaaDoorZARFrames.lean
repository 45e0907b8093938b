/- The law LogfileFrames: for every input it returns true; its tied card. Condition: the listed tables are laid as the program's text lays them (the card ties them). -/
import Derived.Test.YtkfddpbmclbdhaaDoorCards
import Derived.Test.YtkfddpbmclbdhaaDoorTie
import Derived.Test.YtkfddpbmclbdhaaDoorZARK3
import Derived.Test.YtkfddpbmclbdhaaDoorZAVFrames
import Derived.ShutString
import Derived.ChangeOld
import Derived.Deep.DeepHandedRow
import Derived.Test.YtkfddpbmclbdhaaDoorZAWSized
namespace Go.Proofs.YtkfddpbmclbdhaaDoor.logfileFrames
open Go.ChangeShapes Go.WideShapes Go.ChangeAt Go.RowKit Go.Proofs.YtkfddpbmclbdhaaDoor.PA Go.Proofs.YtkfddpbmclbdhaaDoorW
open Go.ChangeMaps (open_string shut_string)
set_option linter.unusedVariables false
set_option maxRecDepth 100000 in
theorem contract (H : Type) (enc : TypeId × Value → H) (W : World) (base : Nat) (args : Array Value) (ds gs : List (DataW H)) (before : List MemPlace)
  (hval : ∀ (j : Nat) t v, Tryd.f14.params[j]? = some t → args[j]? = some v → Value.okWide Tryd.prog W .any base t v)
  (hW : DataW.Whole enc Tryd.prog Tryd.f14.params.toList Rows.logfileFramesSpec.vars false W args.toList ds gs before)
  (hsz : (DataW.weightsEach Tryd.prog (Tryd.f14.params.toList ++ (OpenSpec.ofChange Rows.logfileFramesSpec).bare.plain.varTypes Tryd.prog) (ds ++ gs)).all (· ≤ reachBytes) = true) (hG : GT 2 W) :
  Calls Tryd.prog 14 args W fun e W' => ∃ v, e = .returned v ∧ Rows.logfileFramesSpec.post enc Tryd.prog Tryd.f14 false true false false W args v W' := by
 have hW' := hW
 obtain ⟨p, q, hA0, hV, rfl, hfz, hnd⟩ := hW
 have hA : DataW.TrodAll enc Tryd.prog W 0 (fun _ => true) true Tryd.f14.params.toList args.toList ds p := hA0
 rw [Tryd.params14] at hA hval hsz
 obtain ⟨v0, vs0, d0, ds0, p0, q0, hargs, rfl, rfl, h0, r0⟩ := trodAll_cons hA
 obtain ⟨v1, vs1, d1, ds1, p1, q1, rfl, rfl, rfl, h1, r1⟩ := trodAll_cons r0
 obtain ⟨v2, vs2, d2, ds2, p2, q2, rfl, rfl, rfl, h2, r2⟩ := trodAll_cons r1
 obtain ⟨v3, vs3, d3, ds3, p3, q3, rfl, rfl, rfl, h3, r3⟩ := trodAll_cons r2
 obtain ⟨v4, vs4, d4, ds4, p4, q4, rfl, rfl, rfl, h4, r4⟩ := trodAll_cons r3
 obtain ⟨rfl, rfl, rfl⟩ := trodAll_nil r4
 obtain rfl : args = #[v0, v1, v2, v3, v4] := by cases args; simp_all
 obtain ⟨rfl, rfl⟩ := trodVars_none hV
 have k0 := h0
 have lt0 : ∀ x ∈ p0, x.block < W.heap.size := by obtain ⟨m, hm⟩ := k0; exact DataW.trod_lt m _ _ _ hm
 obtain ⟨a0_0, a0_1, rfl⟩ := open_key (hval 0 80 v0 rfl rfl) h0
 obtain ⟨a1, rfl, rfl, rfl, w1⟩ := open_int Tryd.underlying78 (hval 1 78 v1 rfl rfl) h1
 obtain ⟨A2, len2, cap2, rfl⟩ := okWide_slice Tryd.underlying28 (hval 2 28 v2 rfl rfl)
 have k2 := h2
 have lt2 : ∀ x ∈ p2, x.block < W.heap.size := by obtain ⟨m, hm⟩ := k2; exact DataW.trod_lt m _ _ _ hm
 obtain ⟨z2, w2⟩ : ∃ zs, PA.IsRow .u8 W A2 len2 cap2 zs := by
  obtain ⟨fuel, hf⟩ := h2
  rcases open_ints Tryd.underlying28 Tryd.underlying5 (by kernel_rfl) hf with ⟨hcs, _⟩ | ⟨x, l, c, zs, hcs, _, hl, hm, hz, _, hcell, hwz⟩
  ·simp [Value.cells] at hcs
   obtain ⟨rfl, rfl, rfl⟩ := hcs
   exact ⟨[], .inl ⟨rfl, rfl, rfl, rfl⟩⟩
  ·simp [Value.cells] at hcs
   obtain ⟨rfl, rfl, rfl⟩ := hcs
   exact ⟨zs, .inr ⟨_, rfl, hl, hm, by simpa using hz, hcell, hwz⟩⟩
 have y2 : len2 * 1 ≤ 140737488351232 := PrintWords.sized_ints hsz (j := 2) (t := 28) rfl rfl Tryd.underlying28 Tryd.underlying5 (by kernel_rfl) (by kernel_rfl) h2
 obtain ⟨l2, rfl, hr2, hm2, hw2, hc2⟩ := PrintWords.ReadsInt.ofRowC w2
 obtain ⟨a3, rfl, rfl, rfl, w3⟩ := open_int Tryd.underlying3 (hval 3 3 v3 rfl rfl) h3
 obtain ⟨a4, rfl, rfl, rfl, w4⟩ := open_int Tryd.underlying73 (hval 4 73 v4 rfl rfl) h4
 clear hA0 hsz
 obtain ⟨k, hk⟩ := pure_LogfileFrames a0_0 a0_1 a1 l2 a3 a4 w1 hm2 y2 hw2 w3 w4
 refine (kauditlaw25_LogfileFrames.calls k a0_0 a0_1 a1 (fun k_ => k_ < W.heap.size) A2 cap2 l2 a3 a4 true W hG rfl (PrintWords.Kd.V_mk hc2 (PrintWords.Kd.C_F (PrintWords.Kd.heap_int .u8) (PrintWords.Kd.C_of_reads (d := (0 : Int)) (h1 := fun _ => rfl) hr2))) hk).mono fun e W' ⟨he, bel⟩ => ?_
 subst he
 exact ⟨_, rfl, _, _, _, [], _, [], hW', trodAll_mk1 (shut_bool Tryd.underlying4 _), (trodAll_cons_mk (Below.trod laidOut (by kernel_rfl) (of_decide_eq_true (by kernel_rfl)) k0 bel lt0) (trodAll_cons_mk (shut_int Tryd.underlying78 w1) (trodAll_cons_mk (Below.trod laidOut (by kernel_rfl) (of_decide_eq_true (by kernel_rfl)) k2 bel lt2) (trodAll_cons_mk (shut_int Tryd.underlying3 w3) (trodAll_cons_mk (shut_int Tryd.underlying73 w4) trodAll_mk0))))), rfl, bel.frame _, fun h => by cases h⟩
theorem laid_met (os : Os) : laidMet Tryd.prog Rows.logfileFramesRow.laid ((laidWorld2 os).forCall (fun _ _ => 0) ⟨#[], #[.agg #[.int .u64 0, .int .u64 0], .int .u64 0, .slice none 0 0, .int .i64 0, .int .u16 0], []⟩).memory :=
 laidMet_of_run' 8 (by kernel_rfl) (by kernel_rfl)
theorem reads (os : Os) {H : Type} (enc : TypeId × Value → H) : ∃ places, DataW.whole enc Tryd.prog ((laidWorld2 os).forCall (fun _ _ => 0) ⟨#[], #[.agg #[.int .u64 0, .int .u64 0], .int .u64 0, .slice none 0 0, .int .i64 0, .int .u16 0], []⟩).memory Tryd.f14.params.toList Rows.logfileFramesSpec.vars false (#[.agg #[.int .u64 0, .int .u64 0], .int .u64 0, .slice none 0 0, .int .i64 0, .int .u16 0] : Array Value).toList 8 = some ([.agg [.lit (.int .u64 0), .lit (.int .u64 0)], .lit (.int .u64 0), .nil, .lit (.int .i64 0), .lit (.int .u16 0)], [], places) :=
 ⟨[], by kernel_rfl⟩
set_option maxRecDepth 100000 in
theorem lifted (os : Os) (started : os.Started) (H : Type) (enc : TypeId × Value → H) (F : Stop.Interp) :
  ReturnsInHanded {} Tryd.checked os 14 .any ((OpenSpec.ofChange Rows.logfileFramesSpec).preRow enc Tryd.prog Tryd.f14 Rows.logfileFramesRow.domain false Rows.logfileFramesRow.laid) (((OpenSpec.ofChange Rows.logfileFramesSpec).at F).post enc Tryd.prog Tryd.f14 false true false false) := by
 obtain ⟨places, hx⟩ := reads os enc
 refine returnsInHanded_of_row (C := Tryd.checked) (s := OpenSpec.ofChange Rows.logfileFramesSpec) own started (by kernel_rfl) Tryd.func14
  (witness_row_at (enc := enc) (C := Tryd.checked) false (laidWorld2 os) #[.agg #[.int .u64 0, .int .u64 0], .int .u64 0, .slice none 0 0, .int .i64 0, .int .u16 0] rfl (by kernel_rfl) (by kernel_rfl) (by kernel_rfl)
   (OpenSpec.preRow_of_cond 8 hx (by kernel_rfl) (fun k hk => by cases hk) (by kernel_rfl) (laid_met os))) ?_
 intro W base args ds gs before hval hW _ _ hsz hL hsh _
 exact contract H enc W base args ds gs before hval hW hsz (table2 hL)
theorem said : Rows.LogfileFramesSaid :=
 OpenClaim.holds_of_cond 14 Tryd.f14 rfl rfl rfl rfl rfl rfl rfl ⟨rfl, rfl, rfl, rfl, rfl⟩ rfl rfl rfl rfl rfl (by kernel_rfl) Tryd.func14 (by kernel_rfl)
  (of_decide_eq_true (by kernel_rfl)) (by unfold Func.isWrapper; first | (rw [if_pos (by decide +kernel)]; kernel_rfl) | (rw [if_neg (by decide +kernel)]; exact ⟨rfl, rfl⟩))
  (fun os started H enc _ F => by rw [OpenClaim.pre_eq_preRow]; exact lifted os started H enc F)
theorem plain (f : FuncId) (fn : Func) (hf : Tryd.pinned.checked.prog.funcNamed "kaudit/kauditlaw25.LogfileFrames" = some f) (hfn : Tryd.pinned.checked.prog.funcs[f]? = some fn) :
  false = Tryd.pinned.checked.prog.looks [] ∧ ∀ (j : Nat) t, fn.params[j]? = some t → Tryd.pinned.checked.prog.wantsStandIn t = false := by
 obtain rfl : f = 14 := Option.some.inj ((show Tryd.prog.funcNamed "kaudit/kauditlaw25.LogfileFrames" = some 14 by kernel_rfl).symm.trans hf) |>.symm
 obtain rfl : fn = Tryd.f14 := (Option.some.inj (Tryd.func14.symm.trans hfn)).symm
 refine ⟨by kernel_rfl, fun j t ht => ?_⟩
 rw [Tryd.params14] at ht
 have hm : t ∈ ([80, 78, 28, 3, 73] : List Nat) := by simpa using Array.mem_of_getElem? ht
 simp only [List.mem_cons, List.not_mem_nil, or_false] at hm
 rcases hm with rfl | rfl | rfl | rfl | rfl
 ·exact (show Tryd.prog.wantsStandIn 80 = false by kernel_rfl)
 ·exact (show Tryd.prog.wantsStandIn 78 = false by kernel_rfl)
 ·exact (show Tryd.prog.wantsStandIn 28 = false by kernel_rfl)
 ·exact (show Tryd.prog.wantsStandIn 3 = false by kernel_rfl)
 ·exact (show Tryd.prog.wantsStandIn 73 = false by kernel_rfl)
theorem card : Rows.LogfileFramesCardSaid :=
 Claim7.holds_tied_plain_at .later [] _ _ _ _ said (fun _ h => by cases h) (by kernel_rfl) (fun _ h => by cases h) logfileFrames_row_tie rfl ⟨rfl, rfl⟩ (by kernel_rfl) rfl plain (by kernel_rfl)
#print axioms card
end Go.Proofs.YtkfddpbmclbdhaaDoor.logfileFrames
