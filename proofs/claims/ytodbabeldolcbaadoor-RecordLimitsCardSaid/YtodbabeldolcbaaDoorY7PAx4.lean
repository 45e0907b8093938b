/- Contracts of functions of the program: written by pr2.py (ours, round the print of the kit) out of the translation; conditions: each contract names its own. -/
import Derived.Test.YtodbabeldolcbaaDoorY7PAx0
namespace Go.Proofs.YtodbabeldolcbaaDoor.PA
open Go.RowKit Go.Proofs.YtodbabeldolcbaaDoorW.PrintWords Go.Proofs.YtodbabeldolcbaaDoorW.PrintLast Go.Proofs.YtodbabeldolcbaaDoorW.PrintMore
attribute [local go_sem] max2_int min2_int max_two min_two max_three min_three max_four min_four   -- for this text's walks alone
set_option linter.unusedVariables false
set_option linter.unusedSimpArgs false
/-- A state of type 62 at block g of W; what its slices lead to came in by w0. -/
def IsS62 (w0 W : World) (g : Nat) (f0 : List Int) (f1 : Int) : Prop := ∃ A0 c0, W.heap[g]? = some (.cells #[.slice A0 f0.length c0, .int .i64 f1] 62 (0, 0)) ∧ w0.heap.size ≤ g ∧ Kd.C (Kd.int .i64) w0 A0 f0.length f0
theorem IsS62.grown {w0 W : World} {g : Nat} {f0 : List Int} {f1 : Int} {W1 : World} {row : Option Nat} (h : IsS62 w0 W g f0 f1) (hw : W.grownBy W1 row) (hne : some g ≠ row) : IsS62 w0 W1 g f0 f1 := by
 obtain ⟨A0, c0, hb, hg, hr0⟩ := h
 exact ⟨A0, c0, blk_grown hb hw hne, hg, hr0⟩
theorem IsS62.kept {w0 W : World} {g : Nat} {f0 : List Int} {f1 : Int} {W1 : World} {S : Nat → Prop} (h : IsS62 w0 W g f0 f1) (hk : Kept W W1 S) (hne : ¬ S g) : IsS62 w0 W1 g f0 f1 := by
 obtain ⟨A0, c0, hb, hg, hr0⟩ := h
 exact ⟨A0, c0, blk_kept hb hk hne, hg, hr0⟩
theorem IsS62.below {w0 W : World} {g : Nat} {f0 : List Int} {f1 : Int} {W1 : World} (h : IsS62 w0 W g f0 f1) (hw : Below W.heap.size W W1) : IsS62 w0 W1 g f0 f1 := h.grown (grown_of_below hw none) (by simp)
theorem IsS62.alloc {w0 W : World} {g : Nat} {f0 : List Int} {f1 : Int} (h : IsS62 w0 W g f0 f1) (o : Obj) : IsS62 w0 (W.alloc o) g f0 f1 := h.below (below_alloc (Below.refl _ _) o)
theorem IsS62.drewN {w0 W : World} {g : Nat} {f0 : List Int} {f1 : Int} (h : IsS62 w0 W g f0 f1) (m : Nat) : IsS62 w0 (W.drewN m) g f0 f1 := h
theorem IsS62.drew {w0 W : World} {g : Nat} {f0 : List Int} {f1 : Int} (h : IsS62 w0 W g f0 f1) : IsS62 w0 W.drew g f0 f1 := h
theorem IsS62.at_ {w0 W : World} {g : Nat} {f0 : List Int} {f1 : Int} {w' : World} {m : Nat} (hq : W.drewN m = w') (h : IsS62 w0 W g f0 f1) : IsS62 w0 w' g f0 f1 := by subst hq; exact IsS62.drewN h m
theorem IsS62.apart {w0 W : World} {g : Nat} {f0 : List Int} {f1 : Int} {α : Type} {d : Kd α} {e : Nat} {base : Nat} {ok : Nat → Prop} {v : Value} {xs : List α} (h : IsS62 w0 W g f0 f1) (ho : d.R e W base ok v xs) (ht : ∀ q, q ∈ e :: d.E → q ≠ 62) : d.R e W base (fun k => ok k ∧ k ≠ g) v xs := by
 obtain ⟨A0, c0, hb, hg, hr0⟩ := h
 exact Kd.R_types ho hb ht
theorem IsS62.own_ne {w0 W : World} {g : Nat} {f0 : List Int} {f1 : Int} {α : Type} {d : Kd α} {e : Nat} {base : Nat} {ok : Nat → Prop} {v : Value} {xs : List α} (h : IsS62 w0 W g f0 f1) (ho : d.R e W base ok v xs) (ht : e ≠ 62) : some g ≠ v.ownBlock := by
 obtain ⟨A0, c0, hb, hg, hr0⟩ := h
 exact Kd.R_ne ho hb ht
theorem IsS62.lt {w0 W : World} {g : Nat} {f0 : List Int} {f1 : Int} (h : IsS62 w0 W g f0 f1) : g < W.heap.size := by
 obtain ⟨A0, c0, hb, hg, hr0⟩ := h
 exact blk_lt hb
theorem IsS62.ge {w0 W : World} {g : Nat} {f0 : List Int} {f1 : Int} (h : IsS62 w0 W g f0 f1) : w0.heap.size ≤ g := by
 obtain ⟨A0, c0, hb, hg, hr0⟩ := h
 exact hg
theorem IsS62.far {w0 W : World} {g : Nat} {f0 : List Int} {f1 : Int} {p : Addr} (h : IsS62 w0 W g f0 f1) (hne : g ≠ p.block) (u : Value) : IsS62 w0 (W.setCell p u) g f0 f1 := by
 obtain ⟨A0, c0, hb, hg, hr0⟩ := h
 exact ⟨A0, c0, blk_far hb hne u, hg, hr0⟩
/-! ### kauditmake_Src_N: function 18 -/
def kauditmake_Src_N.f (s0_0 : List Int) (s0_1 : Int) (a1 : Int) : Option (Int × Int) := if a1 < 1 then (some (0, s0_1)) else (if (wrap64 (s0_1 + 1)) ≤ (s0_0.length : Int) then (if 0 ≤ (wrap64 ((wrap64 (s0_1 + 1)) - 1)) then (if (wrap64 ((wrap64 (s0_1 + 1)) - 1)) < (s0_0.length : Int) then (if a1 = 0 then (none) else (if (Int.tmod (rd s0_0 (wrap64 ((wrap64 (s0_1 + 1)) - 1))) a1) < 0 then (some (wrap64 ((Int.tmod (rd s0_0 (wrap64 ((wrap64 (s0_1 + 1)) - 1))) a1) + a1), wrap64 (s0_1 + 1))) else (some (Int.tmod (rd s0_0 (wrap64 ((wrap64 (s0_1 + 1)) - 1))) a1, wrap64 (s0_1 + 1))))) else (none)) else (none)) else (if a1 = 0 then (none) else (if (Int.tmod (wrap64 ((wrap64 (s0_1 + 1)) * 7)) a1) < 0 then (some (wrap64 ((Int.tmod (wrap64 ((wrap64 (s0_1 + 1)) * 7)) a1) + a1), wrap64 (s0_1 + 1))) else (some (Int.tmod (wrap64 ((wrap64 (s0_1 + 1)) * 7)) a1, wrap64 (s0_1 + 1))))))
/-! ### kauditmake_Src_Word: function 32 -/
def kauditmake_Src_Word.f (s0_0 : List Int) (s0_1 : Int) (l1 : List ByteArray) : Option (ByteArray × Int) := (kauditmake_Src_N.f s0_0 s0_1 (l1.length : Int)).bind fun bt124 => (if 0 ≤ bt124.1 then (if bt124.1 < (l1.length : Int) then (some (rdOf ByteArray.empty l1 bt124.1, bt124.2)) else (none)) else (none))
/-! ### kauditmake_Src_Range: function 33 -/
def kauditmake_Src_Range.f (s0_0 : List Int) (s0_1 : Int) (a1 : Int) (a2 : Int) : Option (Int × Int) := (kauditmake_Src_N.f s0_0 s0_1 (wrap64 ((wrap64 (a2 - a1)) + 1))).bind fun bt127 => (some (wrap64 (a1 + bt127.1), bt127.2))
/-! ### kauditmake_Src_Pick: function 34 -/
def kauditmake_Src_Pick.f (s0_0 : List Int) (s0_1 : Int) (l1 : List Int) : Option (Int × Int) := (kauditmake_Src_N.f s0_0 s0_1 (l1.length : Int)).bind fun bt129 => (if 0 ≤ bt129.1 then (if bt129.1 < (l1.length : Int) then (some (rd l1 bt129.1, bt129.2)) else (none)) else (none))
/-! ### kauditmake_Src_Text: function 35 -/
def kauditmake_Src_Text.l0 : Nat → ByteArray → Int → List Int → Int → Option (ByteArray × Int)
 | 0, _, _, _, _ => none
 | k + 1, x3, x4, x1000, x1001 => if x4 > 0 then ((kauditmake_Src_Word.f x1000 x1001 (([(⟨#[97]⟩ : ByteArray), (⟨#[66]⟩ : ByteArray), (⟨#[55]⟩ : ByteArray), (⟨#[47]⟩ : ByteArray), (⟨#[34]⟩ : ByteArray), (⟨#[32]⟩ : ByteArray), (⟨#[0]⟩ : ByteArray), (⟨#[255]⟩ : ByteArray), (⟨#[61]⟩ : ByteArray), (⟨#[10]⟩ : ByteArray), (⟨#[126]⟩ : ByteArray), (⟨#[33]⟩ : ByteArray)] : List ByteArray))).bind fun bt137 => (if x3.size + bt137.1.size ≤ 9223372036854775807 then (kauditmake_Src_Text.l0 k (x3 ++ bt137.1) (wrap64 (x4 - 1)) x1000 bt137.2) else (none))) else (some (x3, x1001))
def kauditmake_Src_Text.f (k : Nat) (s0_0 : List Int) (s0_1 : Int) : Option (ByteArray × Int) := (kauditmake_Src_N.f s0_0 s0_1 5).bind fun bt132 => (kauditmake_Src_Text.l0 k (⟨#[]⟩ : ByteArray) bt132.1 s0_0 bt132.2)
theorem kauditmake_Src_Text.mono_l : ∀ k, (∀ y0 y1 y2 y3, LeO (kauditmake_Src_Text.l0 k y0 y1 y2 y3) (kauditmake_Src_Text.l0 (k + 1) y0 y1 y2 y3))
 | 0 => fun _ _ _ _ r h => by simp [kauditmake_Src_Text.l0] at h
 | k + 1 => by
  have ih0 := kauditmake_Src_Text.mono_l k
  ·intro y0 y1 y2 y3
   unfold kauditmake_Src_Text.l0
   repeat' first
   | (with_reducible exact ih0 _ _ _ _)
   | (with_reducible exact LeO.refl _)
   | (with_reducible exact LeO.none _)
   | (with_reducible refine LeO.ite ?_ ?_)
   | (with_reducible refine LeO.bind ?_ (fun _ => ?_))
   | exact ih0 _ _ _ _
   | exact LeO.none _
   | refine LeO.ite ?_ ?_
   | refine LeO.bind ?_ (fun _ => ?_)
theorem kauditmake_Src_Text.mono : ∀ a0 a1 k, LeO (kauditmake_Src_Text.f k a0 a1) (kauditmake_Src_Text.f (k + 1) a0 a1) := by
 intro a0 a1 k
 have ih0 := kauditmake_Src_Text.mono_l k
 unfold kauditmake_Src_Text.f
 repeat' first
   | (with_reducible exact ih0 _ _ _ _)
   | (with_reducible exact LeO.refl _)
   | (with_reducible exact LeO.none _)
   | (with_reducible refine LeO.ite ?_ ?_)
   | (with_reducible refine LeO.bind ?_ (fun _ => ?_))
   | exact ih0 _ _ _ _
   | exact LeO.none _
   | refine LeO.ite ?_ ?_
   | refine LeO.bind ?_ (fun _ => ?_)
/-! ### kauditmake_Src_Pair: function 13 -/
def kauditmake_Src_Pair.j0 : Nat → List Int → Int → ByteArray → Int → Int → ByteArray → Option (ByteArray × Int × Int × ByteArray × Int)
 | 0, _, _, _, _, _, _ => none
 | k + 1, x1000, x1001, x148000, x148001, x148002, x148003 => (kauditmake_Src_N.f x1000 x1001 24).bind fun bt157 => (if bt157.1 = 23 then ((kauditmake_Src_Word.f x1000 bt157.2 (([(⟨#[]⟩ : ByteArray), (⟨#[65]⟩ : ByteArray), (⟨#[49, 97]⟩ : ByteArray), (⟨#[97, 45, 98]⟩ : ByteArray), (⟨#[97, 98, 99, 100, 101, 102, 103, 104, 105, 106, 107, 108, 109, 110, 111, 112]⟩ : ByteArray), (⟨#[97, 98, 99, 100, 101, 102, 103, 104, 105, 106, 107, 108, 109, 110, 111, 112, 113]⟩ : ByteArray)] : List ByteArray))).bind fun bt162 => ((kauditmake_Src_N.f x1000 bt162.2 2).bind fun bt164 => (some (bt162.1, x148001, bt164.1, x148003, bt164.2)))) else (some (x148000, x148001, x148002, x148003, bt157.2)))
def kauditmake_Src_Pair.f (k : Nat) (s0_0 : List Int) (s0_1 : Int) : Option (ByteArray × Int × Int × ByteArray × Int) := (kauditmake_Src_Word.f s0_0 s0_1 (([(⟨#[97]⟩ : ByteArray), (⟨#[98]⟩ : ByteArray), (⟨#[117, 105, 100]⟩ : ByteArray), (⟨#[107, 101, 121]⟩ : ByteArray), (⟨#[97, 48]⟩ : ByteArray), (⟨#[120, 95, 49]⟩ : ByteArray), (⟨#[112, 105, 100]⟩ : ByteArray), (⟨#[112, 97, 116, 104]⟩ : ByteArray)] : List ByteArray))).bind fun bt143 => ((kauditmake_Src_Range.f s0_0 bt143.2 1 3).bind fun bt145 => (if bt145.1 = 1 then ((kauditmake_Src_N.f s0_0 bt145.2 1000).bind fun bt148 => ((kauditmake_Src_Pick.f s0_0 bt148.2 (([0, 1, (-1), 42, 9223372036854775807, (-9223372036854775808), bt148.1] : List Int))).bind fun bt153 => (kauditmake_Src_Pair.j0 k s0_0 bt153.2 bt143.1 bt145.1 bt153.1 (⟨#[]⟩ : ByteArray)))) else (if bt145.1 = 2 then ((kauditmake_Src_Text.f k s0_0 bt145.2).bind fun bt155 => (kauditmake_Src_Pair.j0 k s0_0 bt155.2 bt143.1 bt145.1 0 bt155.1)) else (kauditmake_Src_Pair.j0 k s0_0 bt145.2 bt143.1 bt145.1 0 (⟨#[]⟩ : ByteArray)))))
theorem kauditmake_Src_Pair.mono_l : ∀ k, (∀ y0 y1 y2 y3 y4 y5, LeO (kauditmake_Src_Pair.j0 k y0 y1 y2 y3 y4 y5) (kauditmake_Src_Pair.j0 (k + 1) y0 y1 y2 y3 y4 y5))
 | 0 => fun _ _ _ _ _ _ r h => by simp [kauditmake_Src_Pair.j0] at h
 | k + 1 => by
  have ih0 := kauditmake_Src_Pair.mono_l k
  ·intro y0 y1 y2 y3 y4 y5
   unfold kauditmake_Src_Pair.j0
   repeat' first
   | (with_reducible exact ih0 _ _ _ _ _ _)
   | (with_reducible exact kauditmake_Src_Text.mono _ _ _)
   | (with_reducible exact LeO.refl _)
   | (with_reducible exact LeO.none _)
   | (with_reducible refine LeO.ite ?_ ?_)
   | (with_reducible refine LeO.bind ?_ (fun _ => ?_))
   | exact ih0 _ _ _ _ _ _
   | exact kauditmake_Src_Text.mono _ _ _
   | exact LeO.none _
   | refine LeO.ite ?_ ?_
   | refine LeO.bind ?_ (fun _ => ?_)
theorem kauditmake_Src_Pair.mono : ∀ a0 a1 k, LeO (kauditmake_Src_Pair.f k a0 a1) (kauditmake_Src_Pair.f (k + 1) a0 a1) := by
 intro a0 a1 k
 have ih0 := kauditmake_Src_Pair.mono_l k
 unfold kauditmake_Src_Pair.f
 repeat' first
   | (with_reducible exact ih0 _ _ _ _ _ _)
   | (with_reducible exact kauditmake_Src_Text.mono _ _ _)
   | (with_reducible exact LeO.refl _)
   | (with_reducible exact LeO.none _)
   | (with_reducible refine LeO.ite ?_ ?_)
   | (with_reducible refine LeO.bind ?_ (fun _ => ?_))
   | exact ih0 _ _ _ _ _ _
   | exact kauditmake_Src_Text.mono _ _ _
   | exact LeO.none _
   | refine LeO.ite ?_ ?_
   | refine LeO.bind ?_ (fun _ => ?_)
end Go.Proofs.YtodbabeldolcbaaDoor.PA
