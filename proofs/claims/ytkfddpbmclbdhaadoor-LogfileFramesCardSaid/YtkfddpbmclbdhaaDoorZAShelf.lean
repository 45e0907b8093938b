/-
 DERIVED: THE SHELF's CONTRACTS AT THIS DUMP, IN PLAIN WORDS (tools/lay-plain.mjs out of 'TrydShelf.lean', which tools/lay-shelf.mjs wrote): THE SAME DECLARATIONS UNDER THE SAME NAMES: 'import', 'namespace', 'open', 'def', 'theorem' AND NOTHING ELSE: no command of the shelf's: FOR A HAND-IN. Each laying: the table of numbers ('.._ren') and one theorem, a field a fact of the dump's own or the kernel's comparison; each contract: ONE APPLICATION.
-/
import Derived.Shelf.Strings.Builder1
import Derived.Shelf.Strings.BuilderF
import Derived.Shelf.Strings.BuilderK
import Derived.Shelf.Strconv.Itoa0
import Derived.Shelf.Strconv.Itoa1
import Derived.Shelf.LaysM
import Derived.Shelf.Strconv.Itoa2
import Derived.Shelf.Strconv.Itoa3
import Derived.Ground.SlbCloneProg
import Derived.Shelf.Bytes.SlClone
import Derived.Shelf.Bytes.SlSmallAll
import Derived.Shelf.Bytes.SlEqualAll
import Derived.Shelf.Bytes.Small
import Derived.Test.YtkfddpbmclbdhaaDoorProg
namespace Go.Proofs
open Go.Shelf
def Tryd.lays169_ren : Go.Shelf.Ren := ⟨fun | 169 => 85 | n => n, fun | 70 => 109 | 9 => 9 | 0 => 0 | 72 => 111 | 37 => 28 | 127 => 146 | 3 => 3 | 5 => 5 | n => n, fun | n => n⟩
theorem Tryd.lays169 : Go.Proofs.Lays.n169 Tryd.prog Tryd.lays169_ren := {
 mixed := by kernel_rfl
 f169 := Tryd.func85.trans (congrArg some (by kernel_rfl))
 t0 := Tryd.underlying0
 a0 := Tryd.isAgg0
 z0 := Tryd.sizeOf0
 v0 := Tryd.zeroValue0
 t3 := Tryd.underlying3
 a3 := Tryd.isAgg3
 z3 := Tryd.sizeOf3
 v3 := Tryd.zeroValue3
 t9 := Tryd.underlying9
 a9 := Tryd.isAgg9
 z9 := Tryd.sizeOf9
 v9 := Tryd.zeroValue9
 t37 := Tryd.underlying28
 a37 := Tryd.isAgg28
 z37 := Tryd.sizeOf28
 v37 := Tryd.zeroValue28
 t70 := Tryd.underlying109
 a70 := Tryd.isAgg109
 z70 := Tryd.sizeOf109
 v70 := Tryd.zeroValue109
 t72 := Tryd.underlying111
 a72 := Tryd.isAgg111
 z72 := Tryd.sizeOf111
 v72 := Tryd.zeroValue111
 t127 := Tryd.underlying146
 a127 := Tryd.isAgg146
 z127 := Tryd.sizeOf146
 v127 := Tryd.zeroValue146 }
theorem Tryd.Builder_Extra_169 : Builder.Extra Tryd.prog Tryd.lays169_ren := {
 sizeBuilder := by kernel_rfl
 liesBuilder := by kernel_rfl
 t5 := Tryd.underlying5
 a5 := Tryd.isAgg5
 z5 := Tryd.sizeOf5
 v5 := Tryd.zeroValue5
 infoByte := by kernel_rfl
 cellsByte := by kernel_rfl
 sizeByte := by kernel_rfl
 neB5 := by decide }
open Go.RowKit in
theorem Tryd.Builder_String_any (B b : Nat) (l : List UInt8) (w : World) (h : Lib.IsBuilder 111 5 B b (Lib.byteCells l) w) (hBw : B ≤ w.heap.size) :
  Calls Tryd.prog 85 #[.pointer (some ⟨b, 0, none⟩)] w fun e w' => e = .returned (.string ⟨l.toArray⟩) ∧ Below B w w' := Any.Builder_String_any Tryd.lays169 Tryd.Builder_Extra_169 B b l w h hBw
def Tryd.laysM171_ren : Go.Shelf.Ren := ⟨fun | 171 => 73 | 243 => 116 | 246 => 139 | 283 => 155 | 284 => 156 | 285 => 157 | 286 => 158 | 129 => 163 | 317 => 162 | 318 => 164 | 319 => 165 | 320 => 166 | 337 => 167 | 338 => 168 | n => n, fun | 3 => 3 | 9 => 9 | 2 => 2 | 4 => 4 | 171 => 182 | 0 => 0 | 53 => 78 | 37 => 28 | 5 => 5 | 173 => 185 | 212 => 190 | 51 => 191 | 20 => 20 | 213 => 192 | 46 => 99 | 232 => 195 | 233 => 196 | n => n, fun | 17 => 2 | 18 => 3 | 19 => 4 | n => n⟩
theorem Tryd.laysM171 : Go.Proofs.LaysM.n171 Tryd.prog Tryd.laysM171_ren := {
 mixed := by kernel_rfl
 f129 := Tryd.func163.trans (congrArg some (by kernel_rfl))
 f171 := Tryd.func73.trans (congrArg some (by kernel_rfl))
 f243 := Tryd.func116.trans (congrArg some (by kernel_rfl))
 f246 := Tryd.func139.trans (congrArg some (by kernel_rfl))
 f283 := Tryd.func155.trans (congrArg some (by kernel_rfl))
 f284 := Tryd.func156.trans (congrArg some (by kernel_rfl))
 f285 := Tryd.func157.trans (congrArg some (by kernel_rfl))
 f286 := Tryd.func158.trans (congrArg some (by kernel_rfl))
 f317 := Tryd.func162.trans (congrArg some (by kernel_rfl))
 f318 := Tryd.func164.trans (congrArg some (by kernel_rfl))
 f319 := Tryd.func165.trans (congrArg some (by kernel_rfl))
 f320 := Tryd.func166.trans (congrArg some (by kernel_rfl))
 f337 := Tryd.func167.trans (congrArg some (by kernel_rfl))
 f338 := Tryd.func168.trans (congrArg some (by kernel_rfl))
 t0 := Tryd.underlying0
 a0 := Tryd.isAgg0
 z0 := Tryd.sizeOf0
 v0 := Tryd.zeroValue0
 t2 := Tryd.underlying2
 a2 := Tryd.isAgg2
 z2 := Tryd.sizeOf2
 v2 := Tryd.zeroValue2
 t3 := Tryd.underlying3
 a3 := Tryd.isAgg3
 z3 := Tryd.sizeOf3
 v3 := Tryd.zeroValue3
 t4 := Tryd.underlying4
 a4 := Tryd.isAgg4
 z4 := Tryd.sizeOf4
 v4 := Tryd.zeroValue4
 t5 := Tryd.underlying5
 a5 := Tryd.isAgg5
 z5 := Tryd.sizeOf5
 v5 := Tryd.zeroValue5
 t9 := Tryd.underlying9
 a9 := Tryd.isAgg9
 z9 := Tryd.sizeOf9
 v9 := Tryd.zeroValue9
 t20 := Tryd.underlying20
 a20 := Tryd.isAgg20
 z20 := Tryd.sizeOf20
 v20 := Tryd.zeroValue20
 t37 := Tryd.underlying28
 a37 := Tryd.isAgg28
 z37 := Tryd.sizeOf28
 v37 := Tryd.zeroValue28
 t46 := Tryd.underlying99
 a46 := Tryd.isAgg99
 z46 := Tryd.sizeOf99
 v46 := Tryd.zeroValue99
 t51 := Tryd.underlying191
 a51 := Tryd.isAgg191
 z51 := Tryd.sizeOf191
 v51 := Tryd.zeroValue191
 t53 := Tryd.underlying78
 a53 := Tryd.isAgg78
 z53 := Tryd.sizeOf78
 v53 := Tryd.zeroValue78
 t171 := Tryd.underlying182
 a171 := Tryd.isAgg182
 z171 := Tryd.sizeOf182
 v171 := Tryd.zeroValue182
 t173 := Tryd.underlying185
 a173 := Tryd.isAgg185
 z173 := Tryd.sizeOf185
 v173 := Tryd.zeroValue185
 t212 := Tryd.underlying190
 a212 := Tryd.isAgg190
 z212 := Tryd.sizeOf190
 v212 := Tryd.zeroValue190
 t213 := Tryd.underlying192
 a213 := Tryd.isAgg192
 z213 := Tryd.sizeOf192
 t232 := Tryd.underlying195
 a232 := Tryd.isAgg195
 z232 := Tryd.sizeOf195
 v232 := Tryd.zeroValue195
 t233 := Tryd.underlying196
 a233 := Tryd.isAgg196
 z233 := Tryd.sizeOf196
 v233 := Tryd.zeroValue196
 g17 := by kernel_rfl
 g18 := by kernel_rfl
 g19 := by kernel_rfl
 i0 := by kernel_rfl
 i2 := by kernel_rfl
 i3 := by kernel_rfl
 i4 := by kernel_rfl
 i5 := by kernel_rfl
 i9 := by kernel_rfl
 i20 := by kernel_rfl
 i37 := by kernel_rfl
 i46 := by kernel_rfl
 i51 := by kernel_rfl
 i53 := by kernel_rfl
 i171 := by kernel_rfl
 i173 := by kernel_rfl
 i212 := by kernel_rfl
 i232 := by kernel_rfl
 i233 := by kernel_rfl
 m17 := by kernel_rfl
 m18 := by kernel_rfl
 m19 := by kernel_rfl }
open Go.RowKit Go.Sort Go.Lib in
theorem Tryd.strconv_Itoa (n : Int) (h0 : -9223372036854775808 ≤ n) (h1 : n ≤ 9223372036854775807) (w : World) (htab : Lib.TabIs Tryd.prog w "internal/strconv.uint64pow10" .u64 Lib.pow10Tab) :
  Calls Tryd.prog 73 #[.int .i64 n] w fun e w' => e = .returned (.string ⟨(Lib.itoa n).toArray⟩) ∧ ∃ k os, w' = grow (w.drewN k) os := Any.strconv_Itoa Tryd.laysM171 n h0 h1 w htab
end Go.Proofs
