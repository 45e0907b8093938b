/- The Go function record.Types returns the numbers of the kinds. Condition: the program's tables read as they were laid (GT 2). -/
import Derived.Test.YtkfddpbmclbdhaaDoorZ7EKind
namespace Go.Proofs.YtkfddpbmclbdhaaDoor.PA
open Go.RowKit Go.Proofs.YtkfddpbmclbdhaaDoorW.PrintWords Go.Proofs.YtkfddpbmclbdhaaDoorW.PrintLast Go.Proofs.YtkfddpbmclbdhaaDoorW.PrintMore
set_option linter.unusedVariables false
set_option linter.unusedSimpArgs false
def typesL : List Int := kindsT.map fun k => k.2.1
def record_Types.f : Option (List Int) := some typesL
def kindArr : Array Value := kindCells.toArray
set_option maxRecDepth 100000 in
theorem kindIdx (k : Nat) (hk : k < 10) : ∀ w, (Instr.index 119 (.agg kindArr) (.int .i64 (k : Int))).run Tryd.prog w = .ok (.agg #[.string (strOf (kindAt k).1), .int .i64 (kindAt k).2.1, .bool (kindAt k).2.2]) w := by
  match k, hk with
  | 0, _ | 1, _ | 2, _ | 3, _ | 4, _ | 5, _ | 6, _ | 7, _ | 8, _ | 9, _ => exact fun _ => by kernel_rfl
  | n + 10, h => omega
theorem infoT3 : (Tryd.prog.info? 3).map (fun i => (i.zero, i.size, i.bytes)) = some (some (.int .i64 0), 1, 8) := by kernel_rfl
theorem types_take (k : Nat) (hk : k < 10) : typesL.take (k + 1) = typesL.take k ++ [(kindAt k).2.1] := by
  match k, hk with
  | 0, _ | 1, _ | 2, _ | 3, _ | 4, _ | 5, _ | 6, _ | 7, _ | 8, _ | 9, _ => rfl
  | n + 10, h => omega
theorem types_len (k : Nat) (hk : k ≤ 10) : (typesL.take k).length = k := by rw [List.length_take]; show min k 10 = k; omega
def IsTs (w0 w : World) (v : Value) (xs : List Int) : Prop := Kd.R (Kd.int .i64) 3 w w0.heap.size (fun _ => True) v xs
theorem isTs_next {w w1 : World} {v : Value} {xs : List Int} {d : Int} (h : w1.ownsRow w.heap.size 3 1 v (xs.length + 1) (encs (Value.int .i64) xs ++ [Value.int .i64 d])) : IsTs w w1 v (xs ++ [d]) := by
  refine Kd.R_of_own ?_ (fun _ _ => trivial)
  have e : encs (Value.int .i64) (xs ++ [d]) = encs (Value.int .i64) xs ++ [Value.int .i64 d] := by simp [encs]
  rw [e, List.length_append]
  exact h
set_option maxHeartbeats 4000000 in
set_option maxRecDepth 100000 in
theorem record_Types.calls (r : List Int) (w : World) (hG : GT 2 w) (h : record_Types.f = some r) :
    Calls Tryd.prog 39 #[] w fun e w' => ∃ v0_ : Value, e = .returned (v0_) ∧ Kd.R (Kd.int .i64) 3 w' w.heap.size (fun _ => True) v0_ r ∧ Below w.heap.size w w' := by
  obtain rfl := Option.some.inj h
  clear h
  obtain ⟨i0, hi0, hz0, hz1, hz2⟩ := info_parts infoT3
  obtain ⟨t, fr, hb0⟩ := hG.kindBlock
  have hb : w.heap[(1 : Nat)]? = some (.cells kindArr t fr) := hb0
  clear hb0
  have HB := Aside0.mk (Below.refl w.heap.size w)
  have HO := Aside0.mk (show IsTs w w (.slice none 0 0) [] from Kd.R_of_own (World.ownsRow_nil _ _ _ _) (fun _ _ => trivial))
  clear hG
  go_enter Tryd.func39, Tryd.ntmps39
  go_wp2_with (with_reducible refine wpList_load_row rfl 119 (.global 1) rfl 1 rfl t kindArr fr _ hb Tryd.underlying119 rfl (by kernel_rfl) ?_)
  clear hb
  go_loopw [1, 5] (fun v1 v5 wr => ∃ k : Nat, k ≤ 10 ∧ v5 = .int .i64 (k : Int) ∧ Aside0 (IsTs w wr v1 (typesL.take k)) ∧ Aside0 (Below w.heap.size w wr)) (fun _ v5 _ => 10 - (intOf v5).toNat)
  case atStart => exact ⟨0, by omega, rfl, HO, HB⟩
  case round =>
    clear HO HB
    obtain ⟨k, hk, rfl, HO, HB⟩ := hrel
    by_cases hlt : k < 10
    · have hix := kindIdx k hlt
      have HT := Aside0.mk (types_take k hlt)
      have HLn := Aside0.mk (types_len k hk)
      generalize typesL.take k = xs at *
      generalize kindAt k = p at *
      obtain ⟨s, n, b⟩ := p
      simp only at hix HT
      generalize strOf s = st at *
      have hown := Kd.own_of_R HO.out
      have hsz := HB.out.size
      have hxl := HLn.out
      go_wp2_with (at_builtin; refine wpList_append_own _ rfl _ _ 35 rfl w.heap.size 3 i0 (.int .i64 0) 1 8 Tryd.underlying35 hi0 hz0 hz1 hz2 rfl (by decide) _ _ _ rfl ((hown.alloc _).alloc _) ⟨wr.heap.size + 1, 0, none⟩ 1 1 [.int .i64 n] rfl rfl ?c1 ?c2 ?c3 ?c4 ?c5 ?_)
      case c1 =>
        intro j u hj
        match j, hj with
        | 0, hj =>
          simp only [List.getElem?_cons_zero, Option.some.injEq] at hj
          subst hj
          have hb := blk_cell (blk_new (wr.alloc (Obj.cells #[Value.string st, Value.int .i64 n, Value.bool b] 118)) (Obj.cells #[Value.int .i64 n] 3)) 0
          have e : (wr.alloc (Obj.cells #[Value.string st, Value.int .i64 n, Value.bool b] 118)).heap.size = wr.heap.size + 1 := by simp
          rw [e] at hb
          exact hb.trans rfl
        | j + 1, hj => simp at hj
      case c2 => intro u hu; simp at hu; subst hu; rfl
      case c3 => unfold maxLen; omega
      case c4 => omega
      case c5 => simp; omega
      intro v' w2 hown' hgrow hnn
      have hxk := HLn.out
      rw [← hxk] at hown'
      have hnx := isTs_next hown'
      rw [← HT.out] at hnx
      have HN := Aside0.mk hnx
      have HB' := Aside0.mk (((HB.out.alloc hsz (.cells #[Value.string st, Value.int .i64 n, Value.bool b] 118)).alloc (by simp; omega) (.cells #[Value.int .i64 n] 3)).grown hgrow (by simp; omega) (fun k hk => own_base hown k hk.symm.symm))
      clear hnx hown' hgrow hown HO HB HT
      go_wp2
      go_roundw
      case rel => exact ⟨k + 1, by omega, by go_num, HN, HB'⟩
      case measure => simp [intOf]; omega
    · obtain rfl : k = 10 := by omega
      have hh : IsTs w wr u1 typesL := HO.out
      go_wp2
      go_ret
      exact ⟨_, rfl, hh, HB.out⟩
end Go.Proofs.YtkfddpbmclbdhaaDoor.PA
