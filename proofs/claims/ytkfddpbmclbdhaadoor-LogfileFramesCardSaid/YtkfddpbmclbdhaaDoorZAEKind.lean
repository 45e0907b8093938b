/- The Go functions record.find, record.Name, record.Single, record.Number return what the table kindsT says. Condition: the program's tables read as they were laid (GT 2). -/
import Derived.Test.YtkfddpbmclbdhaaDoorZAEQuote
namespace Go.Proofs.YtkfddpbmclbdhaaDoor.PA
open Go.RowKit Go.Proofs.YtkfddpbmclbdhaaDoorW.PrintWords Go.Proofs.YtkfddpbmclbdhaaDoorW.PrintLast Go.Proofs.YtkfddpbmclbdhaaDoorW.PrintMore
set_option linter.unusedVariables false
set_option linter.unusedSimpArgs false
theorem str_beq (s t : ByteArray) : (s.toList == t.toList) = decide (s = t) := by
 by_cases h : s = t
 ·subst h; simp
 ·have : ¬ s.toList = t.toList := fun e => h (M0.ext_L (by rw [← M0.toList_L, ← M0.toList_L]; exact e))
  simp [h, this]
def Zbk (k : Nat) : List UInt8 × Int × Bool := kindsT.getD k ([], 0, false)
def strOf (l : List UInt8) : ByteArray := ⟨l.toArray⟩
theorem GT.kindBlock {w : World} (h : GT 2 w) : ∃ t fr, w.heap[(1 : Nat)]? = some (.cells kindCells.toArray t fr) := by
 have hd := h.kind (by omega)
 unfold World.var? at hd
 rw [gKind] at hd
 simp only [Option.bind_some] at hd
 split at hd
 ·rename_i cs t fr heq
  exact ⟨t, fr, by rw [heq]; simp only [Option.some.injEq] at hd; rw [hd]⟩
 ·cases hd
theorem GT.kindCell {w : World} (h : GT 2 w) (k : Nat) (hk : k < 10) : w.cell? ⟨1, k * 3, none⟩ = some (.string (strOf (Zbk k).1)) ∧ w.cell? ⟨1, k * 3 + 1, none⟩ = some (.int .i64 (Zbk k).2.1) ∧ w.cell? ⟨1, k * 3 + 2, none⟩ = some (.bool (Zbk k).2.2) := by
 obtain ⟨t, fr, hb⟩ := h.kindBlock
 have key : ∀ j, w.cell? ⟨1, j, none⟩ = kindCells.toArray[j]? := fun j => by simp [World.cell?, hb]
 rw [key, key, key]
 match k, hk with
 | 0, _ | 1, _ | 2, _ | 3, _ | 4, _ | 5, _ | 6, _ | 7, _ | 8, _ | 9, _ => exact ⟨rfl, rfl, rfl⟩
 | n + 10, h => omega
def idxT (p : List UInt8 × Int × Bool → Bool) : Int := if kindsT.findIdx p < 10 then (kindsT.findIdx p : Nat) else -1
theorem kind_get {k : Nat} (hk : k < 10) : kindsT[k]'(by simpa [kindsT] using hk) = Zbk k := by
 unfold Zbk
 rw [List.getD_eq_getElem?_getD, List.getElem?_eq_getElem]
 rfl
theorem found_at {p : List UInt8 × Int × Bool → Bool} {k : Nat} (hno : ∀ j, j < k → p (Zbk j) = false) (hk : k < 10) (hp : p (Zbk k) = true) : kindsT.findIdx p = k := by
 rw [List.findIdx_eq (by simpa [kindsT] using hk)]
 exact ⟨by rw [kind_get hk]; exact hp, fun j hj => by rw [kind_get (by omega)]; exact hno j hj⟩
theorem found_no {p : List UInt8 × Int × Bool → Bool} (hno : ∀ j, j < 10 → p (Zbk j) = false) : kindsT.findIdx p = 10 := by
 have : kindsT.findIdx p = kindsT.length := by
  rw [List.findIdx_eq_length]
  intro y hy
  obtain ⟨j, hj, rfl⟩ := List.getElem_of_mem hy
  have hj' : j < 10 := by simpa [kindsT] using hj
  rw [kind_get hj']; exact hno j hj'
 exact this
def rowV (k : List UInt8 × Int × Bool) : Value := .agg #[.string (strOf k.1), .int .i64 k.2.1, .bool k.2.2]
def kindF (p : List UInt8 × Int × Bool → Bool) : List UInt8 × Int × Bool := (kindsT.find? p).getD ([], 0, false)
theorem find_idx {α : Type} (p : α → Bool) (l : List α) : l.find? p = l[l.findIdx p]? := by
 induction l with
 | nil => rfl
 | cons a l ih =>
  rw [List.find?_cons, List.findIdx_cons]
  cases p a with
  | true => rfl
  | false => simpa using ih
theorem idx_cases (p : List UInt8 × Int × Bool → Bool) : (∃ k : Nat, k < 10 ∧ idxT p = (k : Int) ∧ kindF p = Zbk k) ∨ (idxT p = -1 ∧ kindF p = ([], 0, false)) := by
 by_cases h : kindsT.findIdx p < 10
 ·refine .inl ⟨kindsT.findIdx p, h, by unfold idxT; rw [if_pos h], ?_⟩
  unfold kindF Zbk
  rw [find_idx, List.getD_eq_getElem?_getD]
 ·refine .inr ⟨by unfold idxT; rw [if_neg h], ?_⟩
  unfold kindF
  rw [find_idx, List.getElem?_eq_none (by simpa [kindsT] using h)]
  rfl
theorem Zbm {w w' : World} {o : Obj} (h : Below (w.alloc o).heap.size (w.alloc o) w') : Below w.heap.size w w' := Zaf (Zam (Below.refl _ _) o) h
theorem fresh3 {w w' : World} {x0 x1 x2 : Value} {t : TypeId} (h : Below (w.alloc (.cells #[x0, x1, x2] t)).heap.size (w.alloc (.cells #[x0, x1, x2] t)) w') :
  w'.cell? ⟨w.heap.size, 0, none⟩ = some x0 ∧ w'.cell? ⟨w.heap.size, 1, none⟩ = some x1 ∧ w'.cell? ⟨w.heap.size, 2, none⟩ = some x2 ∧ w'.frozen? ⟨w.heap.size, 0, none⟩ = false ∧ w'.frozen? ⟨w.heap.size, 1, none⟩ = false ∧ w'.frozen? ⟨w.heap.size, 2, none⟩ = false := by
 have hs : w.heap.size < (w.alloc (.cells #[x0, x1, x2] t)).heap.size := by simp
 have hb := heap_alloc_new w (.cells #[x0, x1, x2] t)
 refine ⟨?_, ?_, ?_, ?_, ?_, ?_⟩
 ·rw [h.cell hs]; unfold World.cell?; simp only [hb]; rfl
 ·rw [h.cell hs]; unfold World.cell?; simp only [hb]; rfl
 ·rw [h.cell hs]; unfold World.cell?; simp only [hb]; rfl
 ·rw [h.frozen hs]; unfold World.frozen?; simp only [hb]; rfl
 ·rw [h.frozen hs]; unfold World.frozen?; simp only [hb]; rfl
 ·rw [h.frozen hs]; unfold World.frozen?; simp only [hb]; rfl
set_option maxRecDepth 100000 in
theorem clo89 (s : ByteArray) (n : Int) (b : Bool) (t : Int) (x : Nat) (w : World) (hx : w.cell? ⟨x, 0, none⟩ = some (.int .i64 t)) :
  Calls Tryd.prog 89 #[.agg #[.string s, .int .i64 n, .bool b], .pointer (some ⟨x, 0, none⟩)] w fun e w' => e = .returned (.bool (n == t)) ∧ Below w.heap.size w w' := by
 have hlt := block_lt_of_cell hx
 have HB := Zaa.mk (Below.refl w.heap.size w)
 go_enter Tryd.func89, Tryd.ntmps89
 go_wp2
 go_ret
 exact ⟨rfl, by repeat (first | (with_reducible first | exact HB.out | apply Zam | apply Zan | apply Zaq) | exact HB.out)⟩
set_option maxHeartbeats 1000000 in
set_option maxRecDepth 100000 in
theorem index89 (t : Int) (x : Nat) (w : World) (hG : GT 2 w) (hx : w.cell? ⟨x, 0, none⟩ = some (.int .i64 t)) :
  Calls Tryd.prog 122 #[.slice (some ⟨1, 0, none⟩) 10 10, .func (.func 89) #[] #[.pointer (some ⟨x, 0, none⟩)]] w fun e w' => e = .returned (.int .i64 (idxT fun k => k.2.1 == t)) ∧ Below w.heap.size w w' := by
 have hlt := block_lt_of_cell hx
 have HB := Zaa.mk (Below.refl w.heap.size w)
 have HG := Zaa.mk hG
 clear hG
 go_enter Tryd.func122, Tryd.ntmps122
 go_wp2
 go_loopw [8] (fun v8 wr => ∃ k : Nat, k ≤ 10 ∧ v8 = .int .i64 (k : Int) ∧ Zaa (∀ j, j < k → ((Zbk j).2.1 == t) = false) ∧ Zaa (Below w.heap.size w wr)) (fun v8 _ => 10 - (intOf v8).toNat)
 case atStart => exact ⟨0, by omega, rfl, ⟨fun j hj => by omega⟩, HB⟩
 case round =>
  clear HB
  obtain ⟨k, hk, rfl, HN, HB⟩ := hrel
  by_cases hlt10 : k < 10
  ·obtain ⟨c0, c1, c2⟩ := (GT.below (Nat.le_refl 2) HG.out HB.out).kindCell k hlt10
   have hxr : wr.cell? ⟨x, 0, none⟩ = some (.int .i64 t) := (HB.out.cell hlt).trans hx
   go_wp2_with (go_at_call 89; refine (clo89 _ _ _ t x _ hxr).mono ?_; rintro e w' ⟨rfl, hb⟩)
   ·have hf := found_at (p := fun k => k.2.1 == t) HN.out hlt10 (by first | assumption | (apply decide_eq_true; assumption))
    go_ret
    exact ⟨by unfold idxT; rw [hf, if_pos hlt10]; rfl, Zaf HB.out hb⟩
   ·have hne : ((Zbk k).2.1 == t) = false := by first | assumption | (apply decide_eq_false; assumption)
    have HN' := Zaa.mk (show ∀ j, j < k + 1 → ((Zbk j).2.1 == t) = false from fun j hj => by
     by_cases e : j < k
     ·exact HN.out j e
     ·obtain rfl : j = k := by omega
      exact hne)
    have HB' := Zaa.mk (Zaf HB.out hb)
    go_roundw
    case rel => exact ⟨k + 1, by omega, by go_num, HN', HB'⟩
    case measure => simp [intOf]; omega
  ·obtain rfl : k = 10 := by omega
   have hf := found_no (p := fun k => k.2.1 == t) HN.out
   go_wp2
   go_ret
   exact ⟨by unfold idxT; rw [hf]; rfl, HB.out⟩
set_option maxHeartbeats 1000000 in
set_option maxRecDepth 100000 in
theorem findK89 (t : Int) (x : Nat) (w : World) (hG : GT 2 w) (hx : w.cell? ⟨x, 0, none⟩ = some (.int .i64 t)) :
  Calls Tryd.prog 88 #[.func (.func 89) #[] #[.pointer (some ⟨x, 0, none⟩)]] w fun e w' => e = .returned (rowV (kindF fun k => k.2.1 == t)) ∧ Below w.heap.size w w' := by
 have hlt := block_lt_of_cell hx
 have HG := Zaa.mk hG
 clear hG
 have HGa := Zaa.mk (show ∀ o, GT 2 (w.alloc o) from fun o => GT.below (Nat.le_refl 2) HG.out (Zam (Below.refl _ _) o))
 have HXa := Zaa.mk (show ∀ o, (w.alloc o).cell? ⟨x, 0, none⟩ = some (.int .i64 t) from fun o => ((Zam (Below.refl _ _) o).cell hlt).trans hx)
 clear hx
 rcases idx_cases (fun k => k.2.1 == t) with ⟨k, hk, hi, hF⟩ | ⟨hi, hF⟩
 ·rw [hF]
  have HI := Zaa.mk hi
  clear hi hF
  go_enter Tryd.func88, Tryd.ntmps88
  go_wp2_with (go_at_call 122; refine (index89 t x _ (HGa.out _) (HXa.out _)).mono ?_; rintro e w' ⟨rfl, hb⟩; rw [HI.out]; obtain ⟨c0, c1, c2⟩ := (GT.below (Nat.le_refl 2) (HGa.out _) hb).kindCell k hk; obtain ⟨b0, b1, b2, f0, f1, f2⟩ := fresh3 hb; have HL := Zaa.mk (Zah (blk_new _ _) hb); have HB := Zaa.mk (Zbm hb); clear hb)
  refine bodyPost_ret (results_cell_row rfl _ _ w.heap.size 118 #[.string (strOf (Zbk k).1), .int .i64 (Zbk k).2.1, .bool (Zbk k).2.2] (0, 0) _ rfl (Zbn (Zbn (Zbn HL.out 0 _) 1 _) 2 _) Tryd.underlying118 rfl (by kernel_rfl)) rfl ?_
  exact ⟨rfl, ((HB.out.setCell (Nat.le_refl _) _).setCell (Nat.le_refl _) _).setCell (Nat.le_refl _) _⟩
 ·rw [hF]
  have HI := Zaa.mk hi
  clear hi hF
  go_enter Tryd.func88, Tryd.ntmps88
  go_wp2_with (go_at_call 122; refine (index89 t x _ (HGa.out _) (HXa.out _)).mono ?_; rintro e w' ⟨rfl, hb⟩; rw [HI.out]; obtain ⟨b0, b1, b2, f0, f1, f2⟩ := fresh3 hb; have HL := Zaa.mk (Zah (blk_new _ _) hb); have HB := Zaa.mk (Zbm hb); clear hb)
  refine bodyPost_ret (results_cell_row rfl _ _ w.heap.size 118 #[.string ⟨#[]⟩, .int .i64 0, .bool false] (0, 0) _ rfl (Zbn (Zbn (Zbn HL.out 0 _) 1 _) 2 _) Tryd.underlying118 rfl (by kernel_rfl)) rfl ?_
  exact ⟨rfl, ((HB.out.setCell (Nat.le_refl _) _).setCell (Nat.le_refl _) _).setCell (Nat.le_refl _) _⟩
set_option maxRecDepth 100000 in
theorem clo91 (s : ByteArray) (n : Int) (b : Bool) (t : Int) (x : Nat) (w : World) (hx : w.cell? ⟨x, 0, none⟩ = some (.int .i64 t)) :
  Calls Tryd.prog 91 #[.agg #[.string s, .int .i64 n, .bool b], .pointer (some ⟨x, 0, none⟩)] w fun e w' => e = .returned (.bool (n == t)) ∧ Below w.heap.size w w' := by
 have hlt := block_lt_of_cell hx
 have HB := Zaa.mk (Below.refl w.heap.size w)
 go_enter Tryd.func91, Tryd.ntmps91
 go_wp2
 go_ret
 exact ⟨rfl, by repeat (first | (with_reducible first | exact HB.out | apply Zam | apply Zan | apply Zaq) | exact HB.out)⟩
set_option maxHeartbeats 1000000 in
set_option maxRecDepth 100000 in
theorem index91 (t : Int) (x : Nat) (w : World) (hG : GT 2 w) (hx : w.cell? ⟨x, 0, none⟩ = some (.int .i64 t)) :
  Calls Tryd.prog 122 #[.slice (some ⟨1, 0, none⟩) 10 10, .func (.func 91) #[] #[.pointer (some ⟨x, 0, none⟩)]] w fun e w' => e = .returned (.int .i64 (idxT fun k => k.2.1 == t)) ∧ Below w.heap.size w w' := by
 have hlt := block_lt_of_cell hx
 have HB := Zaa.mk (Below.refl w.heap.size w)
 have HG := Zaa.mk hG
 clear hG
 go_enter Tryd.func122, Tryd.ntmps122
 go_wp2
 go_loopw [8] (fun v8 wr => ∃ k : Nat, k ≤ 10 ∧ v8 = .int .i64 (k : Int) ∧ Zaa (∀ j, j < k → ((Zbk j).2.1 == t) = false) ∧ Zaa (Below w.heap.size w wr)) (fun v8 _ => 10 - (intOf v8).toNat)
 case atStart => exact ⟨0, by omega, rfl, ⟨fun j hj => by omega⟩, HB⟩
 case round =>
  clear HB
  obtain ⟨k, hk, rfl, HN, HB⟩ := hrel
  by_cases hlt10 : k < 10
  ·obtain ⟨c0, c1, c2⟩ := (GT.below (Nat.le_refl 2) HG.out HB.out).kindCell k hlt10
   have hxr : wr.cell? ⟨x, 0, none⟩ = some (.int .i64 t) := (HB.out.cell hlt).trans hx
   go_wp2_with (go_at_call 91; refine (clo91 _ _ _ t x _ hxr).mono ?_; rintro e w' ⟨rfl, hb⟩)
   ·have hf := found_at (p := fun k => k.2.1 == t) HN.out hlt10 (by first | assumption | (apply decide_eq_true; assumption))
    go_ret
    exact ⟨by unfold idxT; rw [hf, if_pos hlt10]; rfl, Zaf HB.out hb⟩
   ·have hne : ((Zbk k).2.1 == t) = false := by first | assumption | (apply decide_eq_false; assumption)
    have HN' := Zaa.mk (show ∀ j, j < k + 1 → ((Zbk j).2.1 == t) = false from fun j hj => by
     by_cases e : j < k
     ·exact HN.out j e
     ·obtain rfl : j = k := by omega
      exact hne)
    have HB' := Zaa.mk (Zaf HB.out hb)
    go_roundw
    case rel => exact ⟨k + 1, by omega, by go_num, HN', HB'⟩
    case measure => simp [intOf]; omega
  ·obtain rfl : k = 10 := by omega
   have hf := found_no (p := fun k => k.2.1 == t) HN.out
   go_wp2
   go_ret
   exact ⟨by unfold idxT; rw [hf]; rfl, HB.out⟩
set_option maxHeartbeats 1000000 in
set_option maxRecDepth 100000 in
theorem findK91 (t : Int) (x : Nat) (w : World) (hG : GT 2 w) (hx : w.cell? ⟨x, 0, none⟩ = some (.int .i64 t)) :
  Calls Tryd.prog 88 #[.func (.func 91) #[] #[.pointer (some ⟨x, 0, none⟩)]] w fun e w' => e = .returned (rowV (kindF fun k => k.2.1 == t)) ∧ Below w.heap.size w w' := by
 have hlt := block_lt_of_cell hx
 have HG := Zaa.mk hG
 clear hG
 have HGa := Zaa.mk (show ∀ o, GT 2 (w.alloc o) from fun o => GT.below (Nat.le_refl 2) HG.out (Zam (Below.refl _ _) o))
 have HXa := Zaa.mk (show ∀ o, (w.alloc o).cell? ⟨x, 0, none⟩ = some (.int .i64 t) from fun o => ((Zam (Below.refl _ _) o).cell hlt).trans hx)
 clear hx
 rcases idx_cases (fun k => k.2.1 == t) with ⟨k, hk, hi, hF⟩ | ⟨hi, hF⟩
 ·rw [hF]
  have HI := Zaa.mk hi
  clear hi hF
  go_enter Tryd.func88, Tryd.ntmps88
  go_wp2_with (go_at_call 122; refine (index91 t x _ (HGa.out _) (HXa.out _)).mono ?_; rintro e w' ⟨rfl, hb⟩; rw [HI.out]; obtain ⟨c0, c1, c2⟩ := (GT.below (Nat.le_refl 2) (HGa.out _) hb).kindCell k hk; obtain ⟨b0, b1, b2, f0, f1, f2⟩ := fresh3 hb; have HL := Zaa.mk (Zah (blk_new _ _) hb); have HB := Zaa.mk (Zbm hb); clear hb)
  refine bodyPost_ret (results_cell_row rfl _ _ w.heap.size 118 #[.string (strOf (Zbk k).1), .int .i64 (Zbk k).2.1, .bool (Zbk k).2.2] (0, 0) _ rfl (Zbn (Zbn (Zbn HL.out 0 _) 1 _) 2 _) Tryd.underlying118 rfl (by kernel_rfl)) rfl ?_
  exact ⟨rfl, ((HB.out.setCell (Nat.le_refl _) _).setCell (Nat.le_refl _) _).setCell (Nat.le_refl _) _⟩
 ·rw [hF]
  have HI := Zaa.mk hi
  clear hi hF
  go_enter Tryd.func88, Tryd.ntmps88
  go_wp2_with (go_at_call 122; refine (index91 t x _ (HGa.out _) (HXa.out _)).mono ?_; rintro e w' ⟨rfl, hb⟩; rw [HI.out]; obtain ⟨b0, b1, b2, f0, f1, f2⟩ := fresh3 hb; have HL := Zaa.mk (Zah (blk_new _ _) hb); have HB := Zaa.mk (Zbm hb); clear hb)
  refine bodyPost_ret (results_cell_row rfl _ _ w.heap.size 118 #[.string ⟨#[]⟩, .int .i64 0, .bool false] (0, 0) _ rfl (Zbn (Zbn (Zbn HL.out 0 _) 1 _) 2 _) Tryd.underlying118 rfl (by kernel_rfl)) rfl ?_
  exact ⟨rfl, ((HB.out.setCell (Nat.le_refl _) _).setCell (Nat.le_refl _) _).setCell (Nat.le_refl _) _⟩
theorem fieldK0 (a b c : Value) : ∀ w, (Instr.field 118 (.agg #[a, b, c]) 0).run Tryd.prog w = .ok a w := fun _ => by kernel_rfl
theorem fieldK2 (a b c : Value) : ∀ w, (Instr.field 118 (.agg #[a, b, c]) 2).run Tryd.prog w = .ok c w := fun _ => by kernel_rfl
def record_Name.f (a0 : Int) : Option ByteArray := some (strOf (kindF fun k => k.2.1 == a0).1)
set_option maxRecDepth 100000 in
theorem record_Name.calls (a0 : Int) (r : ByteArray) (w : World) (hG : GT 2 w) (h : record_Name.f a0 = some r) :
  Calls Tryd.prog 41 #[.int .i64 a0] w fun e w' => e = .returned (.string r) ∧ Below w.heap.size w w' := by
 obtain rfl := Option.some.inj h
 clear h
 have HG := Zaa.mk (show ∀ o, GT 2 (w.alloc o) from fun o => GT.below (Nat.le_refl 2) hG (Zam (Below.refl _ _) o))
 have HC := Zaa.mk (show ∀ v t, (w.alloc (.cells #[v] t)).cell? ⟨w.heap.size, 0, none⟩ = some v from fun v t => (Zai (blk_new w (.cells #[v] t)) 0).trans rfl)
 clear hG
 have hfl := fieldK0
 go_enter Tryd.func41, Tryd.ntmps41
 go_wp2_with (go_at_call 88; refine (findK89 _ _ _ (HG.out _) (HC.out _ _)).mono ?_; rintro e w' ⟨rfl, hb⟩; unfold rowV)
 go_ret
 exact ⟨rfl, Zbm hb⟩
def record_Single.f (a0 : Int) : Option Bool := some ((kindF fun k => k.2.1 == a0).2.2)
set_option maxRecDepth 100000 in
theorem record_Single.calls (a0 : Int) (r : Bool) (w : World) (hG : GT 2 w) (h : record_Single.f a0 = some r) :
  Calls Tryd.prog 43 #[.int .i64 a0] w fun e w' => e = .returned (.bool r) ∧ Below w.heap.size w w' := by
 obtain rfl := Option.some.inj h
 clear h
 have HG := Zaa.mk (show ∀ o, GT 2 (w.alloc o) from fun o => GT.below (Nat.le_refl 2) hG (Zam (Below.refl _ _) o))
 have HC := Zaa.mk (show ∀ v t, (w.alloc (.cells #[v] t)).cell? ⟨w.heap.size, 0, none⟩ = some v from fun v t => (Zai (blk_new w (.cells #[v] t)) 0).trans rfl)
 clear hG
 have hfl := fieldK2
 go_enter Tryd.func43, Tryd.ntmps43
 go_wp2_with (go_at_call 88; refine (findK91 _ _ _ (HG.out _) (HC.out _ _)).mono ?_; rintro e w' ⟨rfl, hb⟩; unfold rowV)
 go_ret
 exact ⟨rfl, Zbm hb⟩
end Go.Proofs.YtkfddpbmclbdhaaDoor.PA
