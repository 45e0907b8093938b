/- The Go functions value.digit and value.Quote return what digitF and quoteF say. Condition: the program's tables read as they were laid (GT). -/
import Derived.Test.YtkfddpbmclbdhaaDoorZAGT
import Derived.Test.YtkfddpbmclbdhaaDoorZAPBx1
import Derived.Test.YtkfddpbmclbdhaaDoorZAM0
import Derived.WalkSpells
import Derived.StillTactics
import Derived.Outline
namespace Go.Proofs.YtkfddpbmclbdhaaDoor.PA
open Go.RowKit Go.Proofs.YtkfddpbmclbdhaaDoorW.PrintWords Go.Proofs.YtkfddpbmclbdhaaDoorW.PrintLast Go.Proofs.YtkfddpbmclbdhaaDoorW.PrintMore
set_option linter.unusedVariables false
set_option linter.unusedSimpArgs false
def digitF (c : Int) : Int := ((digs.findIdx (· == c) : Nat) : Int)
def value_digit.f (a0 : Int) : Option Int := some (digitF a0)
open Go.Proofs.YtkfddpbmclbdhaaDoor.M0
def safeL (l : List UInt8) : Bool := l.all fun b => !(decide (b.toNat < 33) || decide (126 < b.toNat) || b.toNat == 34)
def hexI (l : List UInt8) : List Int := l.flatMap fun b => [digs.getD (b.toNat / 16) 0, digs.getD (b.toNat % 16) 0]
def value_Quote.f (a0 : ByteArray) : Option (ByteArray × Int) :=
  if 640 < a0.size then some (⟨#[]⟩, 20)
  else if safeL (L a0) then some (((⟨#[34]⟩ : ByteArray) ++ a0) ++ (⟨#[34]⟩ : ByteArray), 0)
  else some (strOfNums (120 :: hexI (L a0)), 0)
theorem safeL_cons (b : UInt8) (l : List UInt8) : safeL (b :: l) = (!(decide (b.toNat < 33) || decide (126 < b.toNat) || b.toNat == 34) && safeL l) := rfl
theorem safe_run (s : ByteArray) (hs : s.size ≤ 640) : PB.value_safe.f (s.size + 1) s = some (safeL (L s)) := by
  have key : ∀ d (i : Nat), i ≤ s.size → s.size - i = d → PB.value_safe.l0 (d + 1) s (s.size : Int) (i : Int) = some (safeL ((L s).drop i)) := by
    intro d
    induction d with
    | zero =>
      intro i hi hd
      obtain rfl : i = s.size := by omega
      simp only [PB.value_safe.l0]
      rw [if_neg (by omega), List.drop_of_length_le (by rw [size_L]; exact Nat.le_refl _)]
      rfl
    | succ d ih =>
      intro i hi hd
      have hlt : i < s.size := by omega
      have hl : i < (L s).length := by rw [← size_L]; exact hlt
      have hb := bt_L s i hl
      have hih := ih (i + 1) (by omega) (by omega)
      have hw : wrap64 ((i : Int) + 1) = ((i + 1 : Nat) : Int) := by rw [Zbg (by omega) (by omega)]; omega
      rw [PB.value_safe.l0, if_pos (by omega), if_pos (by omega), if_pos (by omega), hb, hw, hih, List.drop_eq_getElem_cons hl, safeL_cons]
      generalize ((L s)[i]).toNat = b
      by_cases h1 : b < 33
      · rw [if_pos (by omega)]; simp [h1]
      · rw [if_neg (by omega)]
        by_cases h2 : 126 < b
        · rw [if_pos (by omega)]; simp [h2]
        · rw [if_neg (by omega)]
          by_cases h3 : b = 34
          · rw [if_pos (by omega)]; simp [h3]
          · rw [if_neg (by omega)]; simp [h1, h2, h3]
  have := key s.size 0 (by omega) (by omega)
  simpa [PB.value_safe.f] using this
theorem hexI_take (l : List UInt8) (i : Nat) (h : i < l.length) : hexI (l.take (i + 1)) = hexI (l.take i) ++ [digs.getD (l[i].toNat / 16) 0, digs.getD (l[i].toNat % 16) 0] := by
  rw [List.take_succ_eq_append_getElem h]; simp only [hexI, List.flatMap_append, List.flatMap_cons, List.flatMap_nil, List.append_nil]
theorem hexI_length (l : List UInt8) : (hexI l).length = 2 * l.length := by
  induction l with
  | nil => rfl
  | cons b l ih => simp [hexI] at ih ⊢; omega
theorem and15 (b : Int) (hb : 0 ≤ b ∧ b ≤ 255) : Go.bits .and .u8 b 15 = b % 16 := by
  obtain ⟨n, rfl⟩ := Int.eq_ofNat_of_zero_le hb.1
  have hn : n < 256 := by omega
  have key : ∀ k : Fin 256, Go.bits .and .u8 ((k.val : Nat) : Int) 15 = ((k.val : Nat) : Int) % 16 := by decide +kernel
  exact key ⟨n, hn⟩
theorem infoQ5 : (Tryd.prog.info? 5).map (fun i => (i.zero, i.size, i.bytes)) = some (some (.int .u8 0), 1, 1) := by kernel_rfl
def IsOut (w0 w : World) (v : Value) (xs : List Int) : Prop := Kd.R (Kd.int .u8) 5 w w0.heap.size (fun _ => True) v xs
theorem isOut_next {w w1 : World} {v : Value} {xs : List Int} {d1 d2 : Int} (h : w1.ownsRow w.heap.size 5 1 v (xs.length + 2) (encs (Value.int .u8) xs ++ [Value.int .u8 d1, Value.int .u8 d2])) : IsOut w w1 v (xs ++ [d1, d2]) := by
  refine Kd.R_of_own ?_ (fun _ _ => trivial)
  have e : encs (Value.int .u8) (xs ++ [d1, d2]) = encs (Value.int .u8) xs ++ [Value.int .u8 d1, Value.int .u8 d2] := by simp [encs]
  rw [e, List.length_append]
  exact h
set_option maxHeartbeats 2000000 in
set_option maxRecDepth 100000 in
theorem value_Quote.calls (a0 : ByteArray) (r1 : ByteArray) (r2 : Int) (w : World) (hG : GT 0 w) (h : value_Quote.f a0 = some (r1, r2)) :
    Calls Tryd.prog 20 #[.string a0] w fun e w' => e = .returned (.tuple #[.string r1, .int .i64 r2]) ∧ Below w.heap.size w w' := by
  have HG := Zaa.mk hG
  clear hG
  have HB := Zaa.mk (Below.refl w.heap.size w)
  unfold value_Quote.f at h
  by_cases c1 : 640 < a0.size
  · rw [if_pos c1] at h
    simp only [Option.some.injEq, Prod.mk.injEq] at h
    obtain ⟨rfl, rfl⟩ := h
    go_enter Tryd.func20, Tryd.ntmps20
    go_wp2_with fail
    go_ret2
    exact ⟨rfl, HB.out⟩
  · rw [if_neg c1] at h
    have hs := safe_run a0 (by omega)
    by_cases c2 : safeL (L a0) = true
    · rw [if_pos c2] at h
      rw [c2] at hs
      simp only [Option.some.injEq, Prod.mk.injEq] at h
      obtain ⟨rfl, rfl⟩ := h
      have HS := Zaa.mk hs
      clear hs c2
      go_enter Tryd.func20, Tryd.ntmps20
      go_wp2_with (go_at_call 69; refine (PB.value_safe.calls _ _ _ _ HS.out).mono ?_; rintro e w' ⟨rfl, ⟨nd, rfl⟩⟩)
      go_ret2
      exact ⟨rfl, by repeat (first | (with_reducible first | exact HB.out | apply Zam | apply Zan | apply Zaq) | exact HB.out)⟩
    · rw [if_neg c2] at h
      have c2' : safeL (L a0) = false := by simpa using c2
      rw [c2'] at hs
      simp only [Option.some.injEq, Prod.mk.injEq] at h
      obtain ⟨rfl, rfl⟩ := h
      have HS := Zaa.mk hs
      clear hs c2 c2'
      go_enter Tryd.func20, Tryd.ntmps20
      go_wp2_with (first | (go_at_call 69; refine (PB.value_safe.calls _ _ _ _ HS.out).mono ?_; rintro e w' ⟨rfl, ⟨nd, rfl⟩⟩) | ((with_reducible refine Zao (N := 14) rfl ?_); refine Kd.R_lit (Kd.int .u8) _ 5 ?hg (N := 14) ?hd (xs := ([120] : List Int)) (inner := [.int .u8 120]) (ok := fun _ => True) (okp := fun _ => True) ?hr ?hp (fun _ hk => hk) trivial (Below.refl _ _) (Nat.le_refl _) (by simp) ?_; (case hd => rfl); (case hg => rfl); (case hr => first | (go_simp; done) | (go_simp; rfl)); (case hp => exact (Reps.one (show Kd.M (Kd.int .u8) _ _ _ (120 : Int) [.int .u8 120] from rfl) (Reps.none _ _))); intro v923 w14 ho15 hb hg_ hnew_; clear hg_ hnew_; have n0_ := Zaa.mk (Kd.R_lower ho15 (Zae (by repeat (first | (with_reducible first | exact HB.out | apply Zam | apply Zan | apply Zaq) | exact HB.out)))); have n1_ := Zaa.mk (Zaf (by repeat (first | (with_reducible first | exact HB.out | apply Zam | apply Zan | apply Zaq) | exact HB.out)) hb); clear HB; have HB := n1_; have HO := n0_; clear n0_ n1_ ho15 hb))
      go_loopw [4, 17] (fun v4 v17 wr => ∃ i : Nat, i ≤ a0.size ∧ v17 = .int .i64 (i : Int) ∧ Zaa (IsOut w wr v4 (120 :: hexI ((L a0).take i))) ∧ Zaa (Below w.heap.size w wr)) (fun _ v17 _ => a0.size - (intOf v17).toNat)
      case atStart => exact ⟨0, by omega, rfl, HO, HB⟩
      case round =>
        clear HO HB
        obtain ⟨i, hi, rfl, HO, HB⟩ := hrel
        by_cases hlt : i < a0.size
        · have hl : i < (L a0).length := by rw [← size_L]; exact hlt
          have HT := Zaa.mk (hexI_take (L a0) i hl)
          obtain ⟨q, hq16, hq⟩ : ∃ q : Nat, q < 16 ∧ q = (L a0)[i].toNat / 16 := ⟨(L a0)[i].toNat / 16, by have := (L a0)[i].toNat_lt; omega, rfl⟩
          obtain ⟨m, hm16, hm⟩ : ∃ m : Nat, m < 16 ∧ m = (L a0)[i].toNat % 16 := ⟨(L a0)[i].toNat % 16, by omega, rfl⟩
          rw [← hq, ← hm] at HT
          have hb := bt_L a0 i hl
          have hbt := Zbc a0 (i : Int)
          rw [hb] at hbt
          have hsh : ((L a0)[i].toNat : Int) / 16 = (q : Int) := by omega
          have han : Go.bits .and .u8 ((L a0)[i].toNat : Int) 15 = (m : Int) := by rw [and15 _ (by have := (L a0)[i].toNat_lt; omega)]; omega
          have HG1 : GT 0 wr := GT.below (Nat.le_refl 0) HG.out HB.out
          have hc1 := HG1.digCell q hq16
          have hc2 := HG1.digCell m hm16
          clear HG1 hq hm hb
          generalize digs.getD q 0 = d1 at *
          generalize digs.getD m 0 = d2 at *
          have hr : 0 ≤ ((L a0)[i].toNat : Int) ∧ ((L a0)[i].toNat : Int) ≤ 255 := by have := (L a0)[i].toNat_lt; omega
          generalize ((L a0)[i].toNat : Int) = b at *
          obtain ⟨hr0, hr1⟩ := hr
          clear hl
          simp only [Int.toNat_natCast] at hbt
          replace hbt := hbt hlt
          have hq0 : (0 : Int) ≤ (q : Int) := Int.natCast_nonneg _
          have hq1 : (q : Int) < 16 := by omega
          have hm0 : (0 : Int) ≤ (m : Int) := Int.natCast_nonneg _
          have hm1 : (m : Int) < 16 := by omega
          have hi0' : (0 : Int) ≤ (i : Int) := Int.natCast_nonneg _
          have hi1' : (i : Int) < (a0.size : Int) := by omega
          go_wp2
          obtain ⟨i0, hi0, hz0, hz1, hz2⟩ := info_parts infoQ5
          obtain ⟨xs, hxs⟩ : ∃ xs, xs = (120 :: hexI ((L a0).take i)) := ⟨_, rfl⟩
          rw [← hxs] at HO
          have HX := Zaa.mk hxs
          have hxl : xs.length ≤ 1281 := by rw [hxs]; simp only [List.length_cons, hexI_length, List.length_take]; omega
          clear hxs
          have hown := Kd.own_of_R HO.out
          have hob : u4.ownBlock ≠ some 0 := fun e => by
            have := own_base hown _ e
            have := HG.out.digLt
            omega
          have hsz := HB.out.size
          have hg5 := HG.out.digLt
          go_region_held3 (fun w' => w'.cell? ⟨0, q, none⟩ = some (.int .u8 d1) ∧ w'.cell? ⟨0, m, none⟩ = some (.int .u8 d2))
            (first
              | go_keep
              | (go_split_ands
                 refine ⟨?_, ?_⟩
                 · (rw [hgrow.cell_far _ (by first | (simp; done) | (simp; omega)) (Ne.symm hob)]; try assumption)
                 · (rw [hgrow.cell_far _ (by first | (simp; done) | (simp; omega)) (Ne.symm hob)]; try assumption)))
            ((refine step_append_lies _ (by rfl) _ _ _ (by rfl) w.heap.size 5 i0 _ 1 1 Tryd.underlying28 hi0 hz0 hz1 hz2 rfl (by omega) u4 xs.length _ (by rfl) ((hown.alloc _).drew)
                ⟨wr.heap.size, 0, none⟩ 2 2 [.int .u8 d1, .int .u8 d2] (by rfl) (by rfl) (World.news_of_block (cs := #[.int .u8 d1, .int .u8 d2]) (t := 5) (fr := (0, 0)) (heap_alloc_new wr _)) (by simp [Value.oneCell'])
                (by omega) (by unfold maxLen; omega) (by omega) (by simp; omega) (wr.heap.size + 1) (by simp) ?_; intro gg cap w1 hown1 hgrow hat hlt))
          all_goals
            have hnx := isOut_next hown1
            have HX2 := Zaa.mk (show xs ++ [d1, d2] = 120 :: hexI ((L a0).take (i + 1)) by rw [HX.out, HT.out]; rfl)
            have HN := Zaa.mk hnx
            have hbg := ((HB.out.alloc hsz (.cells #[Value.int .u8 d1, Value.int .u8 d2] 5)).drew).grown hgrow (by simp; omega) (fun k hk => own_base hown k hk.symm.symm)
            have HBN := Zaa.mk hbg
            clear hnx hown1 hgrow hat hown hob HO HB HX HT hbg hc1 hc2 hbt hsh han
            go_wp2
            go_roundw
            case rel => exact ⟨i + 1, by omega, by go_num, ⟨by rw [← HX2.out]; exact HN.out⟩, HBN⟩
            case measure => simp [intOf]; omega
        · obtain rfl : i = a0.size := by omega
          have hcv := own_string (P := Tryd.prog) Tryd.underlying28 Tryd.underlying5 Tryd.underlying9 (Kd.own_of_R HO.out)
          have HE : (L a0).take a0.size = L a0 := List.take_of_length_le (by rw [size_L]; exact Nat.le_refl _)
          rw [HE] at hcv
          clear HE
          obtain ⟨sr, hsr⟩ : ∃ s, s = strOfNums (120 :: hexI (L a0)) := ⟨_, rfl⟩
          rw [← hsr] at hcv
          have HSR := Zaa.mk hsr
          clear hsr
          go_wp2
          go_ret2
          exact ⟨by rw [← HSR.out]; rfl, HB.out⟩
end Go.Proofs.YtkfddpbmclbdhaaDoor.PA
