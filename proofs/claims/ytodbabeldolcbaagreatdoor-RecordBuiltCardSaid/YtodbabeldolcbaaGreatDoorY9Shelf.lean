/-
 DERIVED: THE SHELF's CONTRACTS AT THIS DUMP, IN PLAIN WORDS (tools/lay-plain.mjs out of 'TryzShelf.lean', which tools/lay-shelf.mjs wrote): THE SAME DECLARATIONS UNDER THE SAME NAMES: 'import', 'namespace', 'open', 'def', 'theorem' AND NOTHING ELSE: no command of the shelf's: FOR A HAND-IN. Each laying: the table of numbers ('.._ren') and one theorem, a field a fact of the dump's own or the kernel's comparison; each contract: ONE APPLICATION.
-/
import Derived.Shelf.Strings.Builder1
import Derived.Shelf.Strings.BuilderF
import Derived.Shelf.Strings.BuilderK
import Derived.Shelf.Strconv.Atoi
import Derived.Shelf.Strconv.Itoa0
import Derived.Shelf.Strconv.Itoa1
import Derived.Shelf.LaysM
import Derived.Shelf.Strconv.Itoa2
import Derived.Shelf.Strconv.Itoa3
import Derived.Shelf.Strconv.AtoiErrFast
import Derived.Shelf.Strconv.ParseIntEmpty
import Derived.Shelf.Strconv.AtoiFail
import Derived.Shelf.Strconv.Clone
import Derived.Shelf.Strconv.SyntaxError
import Derived.Shelf.LaysC
import Derived.Shelf.Strconv.ToError
import Derived.Shelf.Strconv.Lower
import Derived.Shelf.Strconv.ParseUint10
import Derived.Shelf.Strconv.ParseUint10Empty
import Derived.Shelf.Strconv.ParseUint10Any
import Derived.Shelf.Strconv.ParseInt10
import Derived.Shelf.Strconv.AtoiLong
import Derived.Shelf.Strconv.AtoiInnerAll
import Derived.Shelf.Strconv.RangeError
import Derived.Shelf.Strconv.ToErrorRange
import Derived.Shelf.Strconv.AtoiAll
import Derived.Shelf.Strconv.ErrVarAll
import Derived.Shelf.Strings.Search1
import Derived.Shelf.Strings.Search2
import Derived.Shelf.Strings.Search3
import Derived.Shelf.Strings.Cut
import Derived.Shelf.Strings.Shaped
import Derived.Shelf.Strings.Prefix
import Derived.Shelf.Unicode.DecodeSlow
import Derived.Ground.SlbCloneProg
import Derived.Shelf.Bytes.SlClone
import Derived.Shelf.Bytes.SlEqualAll
import Derived.Shelf.Bytes.Small
import Derived.Test.YtodbabeldolcbaaGreatDoorProg
namespace Go.Proofs
open Go.Shelf
def Tryz.lays169_ren : Go.Shelf.Ren := ⟨fun | 169 => 59 | n => n, fun | 70 => 102 | 9 => 9 | 0 => 0 | 72 => 104 | 37 => 22 | 127 => 150 | 3 => 3 | 5 => 5 | n => n, fun | n => n⟩
theorem Tryz.lays169 : Go.Proofs.Lays.n169 Tryz.prog Tryz.lays169_ren := {
 mixed := by kernel_rfl
 f169 := Tryz.func59.trans (congrArg some (by kernel_rfl))
 t0 := Tryz.underlying0
 a0 := Tryz.isAgg0
 z0 := Tryz.sizeOf0
 v0 := Tryz.zeroValue0
 t3 := Tryz.underlying3
 a3 := Tryz.isAgg3
 z3 := Tryz.sizeOf3
 v3 := Tryz.zeroValue3
 t9 := Tryz.underlying9
 a9 := Tryz.isAgg9
 z9 := Tryz.sizeOf9
 v9 := Tryz.zeroValue9
 t37 := Tryz.underlying22
 a37 := Tryz.isAgg22
 z37 := Tryz.sizeOf22
 v37 := Tryz.zeroValue22
 t70 := Tryz.underlying102
 a70 := Tryz.isAgg102
 z70 := Tryz.sizeOf102
 v70 := Tryz.zeroValue102
 t72 := Tryz.underlying104
 a72 := Tryz.isAgg104
 z72 := Tryz.sizeOf104
 v72 := Tryz.zeroValue104
 t127 := Tryz.underlying150
 a127 := Tryz.isAgg150
 z127 := Tryz.sizeOf150
 v127 := Tryz.zeroValue150 }
theorem Tryz.Builder_Extra_169 : Builder.Extra Tryz.prog Tryz.lays169_ren := {
 sizeBuilder := by kernel_rfl
 liesBuilder := by kernel_rfl
 t5 := Tryz.underlying5
 a5 := Tryz.isAgg5
 z5 := Tryz.sizeOf5
 v5 := Tryz.zeroValue5
 infoByte := by kernel_rfl
 cellsByte := by kernel_rfl
 sizeByte := by kernel_rfl
 neB5 := by decide }
open Go.RowKit in
theorem Tryz.Builder_String_any (B b : Nat) (l : List UInt8) (w : World) (h : Lib.IsBuilder 104 5 B b (Lib.byteCells l) w) (hBw : B ≤ w.heap.size) :
  Calls Tryz.prog 59 #[.pointer (some ⟨b, 0, none⟩)] w fun e w' => e = .returned (.string ⟨l.toArray⟩) ∧ Below B w w' := Any.Builder_String_any Tryz.lays169 Tryz.Builder_Extra_169 B b l w h hBw
def Tryz.laysM171_ren : Go.Shelf.Ren := ⟨fun | 171 => 55 | 243 => 100 | 246 => 129 | 283 => 146 | 284 => 147 | 285 => 148 | 286 => 149 | 129 => 159 | 317 => 158 | 318 => 160 | 319 => 161 | 320 => 162 | 337 => 170 | 338 => 171 | n => n, fun | 3 => 3 | 9 => 9 | 2 => 2 | 4 => 4 | 171 => 187 | 0 => 0 | 53 => 79 | 37 => 22 | 5 => 5 | 173 => 190 | 212 => 201 | 51 => 202 | 20 => 20 | 213 => 203 | 46 => 101 | 232 => 221 | 233 => 222 | n => n, fun | 17 => 2 | 18 => 8 | 19 => 9 | n => n⟩
theorem Tryz.laysM171 : Go.Proofs.LaysM.n171 Tryz.prog Tryz.laysM171_ren := {
 mixed := by kernel_rfl
 f129 := Tryz.func159.trans (congrArg some (by kernel_rfl))
 f171 := Tryz.func55.trans (congrArg some (by kernel_rfl))
 f243 := Tryz.func100.trans (congrArg some (by kernel_rfl))
 f246 := Tryz.func129.trans (congrArg some (by kernel_rfl))
 f283 := Tryz.func146.trans (congrArg some (by kernel_rfl))
 f284 := Tryz.func147.trans (congrArg some (by kernel_rfl))
 f285 := Tryz.func148.trans (congrArg some (by kernel_rfl))
 f286 := Tryz.func149.trans (congrArg some (by kernel_rfl))
 f317 := Tryz.func158.trans (congrArg some (by kernel_rfl))
 f318 := Tryz.func160.trans (congrArg some (by kernel_rfl))
 f319 := Tryz.func161.trans (congrArg some (by kernel_rfl))
 f320 := Tryz.func162.trans (congrArg some (by kernel_rfl))
 f337 := Tryz.func170.trans (congrArg some (by kernel_rfl))
 f338 := Tryz.func171.trans (congrArg some (by kernel_rfl))
 t0 := Tryz.underlying0
 a0 := Tryz.isAgg0
 z0 := Tryz.sizeOf0
 v0 := Tryz.zeroValue0
 t2 := Tryz.underlying2
 a2 := Tryz.isAgg2
 z2 := Tryz.sizeOf2
 v2 := Tryz.zeroValue2
 t3 := Tryz.underlying3
 a3 := Tryz.isAgg3
 z3 := Tryz.sizeOf3
 v3 := Tryz.zeroValue3
 t4 := Tryz.underlying4
 a4 := Tryz.isAgg4
 z4 := Tryz.sizeOf4
 v4 := Tryz.zeroValue4
 t5 := Tryz.underlying5
 a5 := Tryz.isAgg5
 z5 := Tryz.sizeOf5
 v5 := Tryz.zeroValue5
 t9 := Tryz.underlying9
 a9 := Tryz.isAgg9
 z9 := Tryz.sizeOf9
 v9 := Tryz.zeroValue9
 t20 := Tryz.underlying20
 a20 := Tryz.isAgg20
 z20 := Tryz.sizeOf20
 v20 := Tryz.zeroValue20
 t37 := Tryz.underlying22
 a37 := Tryz.isAgg22
 z37 := Tryz.sizeOf22
 v37 := Tryz.zeroValue22
 t46 := Tryz.underlying101
 a46 := Tryz.isAgg101
 z46 := Tryz.sizeOf101
 v46 := Tryz.zeroValue101
 t51 := Tryz.underlying202
 a51 := Tryz.isAgg202
 z51 := Tryz.sizeOf202
 v51 := Tryz.zeroValue202
 t53 := Tryz.underlying79
 a53 := Tryz.isAgg79
 z53 := Tryz.sizeOf79
 v53 := Tryz.zeroValue79
 t171 := Tryz.underlying187
 a171 := Tryz.isAgg187
 z171 := Tryz.sizeOf187
 v171 := Tryz.zeroValue187
 t173 := Tryz.underlying190
 a173 := Tryz.isAgg190
 z173 := Tryz.sizeOf190
 v173 := Tryz.zeroValue190
 t212 := Tryz.underlying201
 a212 := Tryz.isAgg201
 z212 := Tryz.sizeOf201
 v212 := Tryz.zeroValue201
 t213 := Tryz.underlying203
 a213 := Tryz.isAgg203
 z213 := Tryz.sizeOf203
 t232 := Tryz.underlying221
 a232 := Tryz.isAgg221
 z232 := Tryz.sizeOf221
 v232 := Tryz.zeroValue221
 t233 := Tryz.underlying222
 a233 := Tryz.isAgg222
 z233 := Tryz.sizeOf222
 v233 := Tryz.zeroValue222
 g17 := by kernel_rfl
 g18 := by kernel_rfl
 g19 := by kernel_rfl
 i0 := by kernel_rfl
 i2 := by kernel_rfl
 i3 := by kernel_rfl
 i4 := by kernel_rfl
 i5 := by kernel_rfl
 i9 := by kernel_rfl
 i20 := by kernel_rfl
 i37 := by kernel_rfl
 i46 := by kernel_rfl
 i51 := by kernel_rfl
 i53 := by kernel_rfl
 i171 := by kernel_rfl
 i173 := by kernel_rfl
 i212 := by kernel_rfl
 i232 := by kernel_rfl
 i233 := by kernel_rfl
 m17 := by kernel_rfl
 m18 := by kernel_rfl
 m19 := by kernel_rfl }
open Go.RowKit Go.Sort Go.Lib in
theorem Tryz.strconv_Itoa (n : Int) (h0 : -9223372036854775808 ≤ n) (h1 : n ≤ 9223372036854775807) (w : World) (htab : Lib.TabIs Tryz.prog w "internal/strconv.uint64pow10" .u64 Lib.pow10Tab) :
  Calls Tryz.prog 55 #[.int .i64 n] w fun e w' => e = .returned (.string ⟨(Lib.itoa n).toArray⟩) ∧ ∃ k os, w' = grow (w.drewN k) os := Any.strconv_Itoa Tryz.laysM171 n h0 h1 w htab
def Tryz.laysC172_ren : Go.Shelf.Ren := ⟨fun | 172 => 122 | 244 => 138 | 245 => 139 | 247 => 152 | 279 => 153 | 280 => 154 | 281 => 155 | 282 => 156 | 287 => 167 | 316 => 168 | 171 => 55 | 205 => 169 | 321 => 174 | 322 => 175 | 243 => 100 | 246 => 129 | 283 => 146 | 284 => 147 | 285 => 148 | 286 => 149 | 129 => 159 | 317 => 158 | 318 => 160 | 319 => 161 | 320 => 162 | 337 => 170 | 338 => 171 | n => n, fun | 9 => 9 | 3 => 3 | 75 => 106 | 76 => 107 | 4 => 4 | 5 => 5 | 167 => 194 | 37 => 22 | 0 => 0 | 85 => 195 | 2 => 2 | 168 => 197 | 53 => 79 | 175 => 206 | 46 => 101 | 210 => 209 | 127 => 150 | 145 => 220 | 143 => 218 | 21 => 21 | 171 => 187 | 173 => 190 | 212 => 201 | 51 => 202 | 20 => 20 | 213 => 203 | 232 => 221 | 233 => 222 | 80 => 67 | n => n, fun | 15 => 4 | 16 => 5 | 17 => 2 | 18 => 8 | 19 => 9 | n => n⟩
theorem Tryz.laysC172 : Go.Proofs.LaysC.n172 Tryz.prog Tryz.laysC172_ren := {
 mixed := by kernel_rfl
 f129 := Tryz.func159.trans (congrArg some (by kernel_rfl))
 f171 := Tryz.func55.trans (congrArg some (by kernel_rfl))
 f172 := Tryz.func122.trans (congrArg some (by kernel_rfl))
 f205 := Tryz.func169.trans (congrArg some (by kernel_rfl))
 f243 := Tryz.func100.trans (congrArg some (by kernel_rfl))
 f244 := Tryz.func138.trans (congrArg some (by kernel_rfl))
 f245 := Tryz.func139.trans (congrArg some (by kernel_rfl))
 f246 := Tryz.func129.trans (congrArg some (by kernel_rfl))
 f247 := Tryz.func152.trans (congrArg some (by kernel_rfl))
 f279 := Tryz.func153.trans (congrArg some (by kernel_rfl))
 f280 := Tryz.func154.trans (congrArg some (by kernel_rfl))
 f281 := Tryz.func155.trans (congrArg some (by kernel_rfl))
 f282 := Tryz.func156.trans (congrArg some (by kernel_rfl))
 f283 := Tryz.func146.trans (congrArg some (by kernel_rfl))
 f284 := Tryz.func147.trans (congrArg some (by kernel_rfl))
 f285 := Tryz.func148.trans (congrArg some (by kernel_rfl))
 f286 := Tryz.func149.trans (congrArg some (by kernel_rfl))
 f287 := Tryz.func167.trans (congrArg some (by kernel_rfl))
 f316 := Tryz.func168.trans (congrArg some (by kernel_rfl))
 f317 := Tryz.func158.trans (congrArg some (by kernel_rfl))
 f318 := Tryz.func160.trans (congrArg some (by kernel_rfl))
 f319 := Tryz.func161.trans (congrArg some (by kernel_rfl))
 f320 := Tryz.func162.trans (congrArg some (by kernel_rfl))
 f321 := Tryz.func174.trans (congrArg some (by kernel_rfl))
 f322 := Tryz.func175.trans (congrArg some (by kernel_rfl))
 f337 := Tryz.func170.trans (congrArg some (by kernel_rfl))
 f338 := Tryz.func171.trans (congrArg some (by kernel_rfl))
 t0 := Tryz.underlying0
 a0 := Tryz.isAgg0
 z0 := Tryz.sizeOf0
 v0 := Tryz.zeroValue0
 t2 := Tryz.underlying2
 a2 := Tryz.isAgg2
 z2 := Tryz.sizeOf2
 v2 := Tryz.zeroValue2
 t3 := Tryz.underlying3
 a3 := Tryz.isAgg3
 z3 := Tryz.sizeOf3
 v3 := Tryz.zeroValue3
 t4 := Tryz.underlying4
 a4 := Tryz.isAgg4
 z4 := Tryz.sizeOf4
 v4 := Tryz.zeroValue4
 t5 := Tryz.underlying5
 a5 := Tryz.isAgg5
 z5 := Tryz.sizeOf5
 v5 := Tryz.zeroValue5
 t9 := Tryz.underlying9
 a9 := Tryz.isAgg9
 z9 := Tryz.sizeOf9
 v9 := Tryz.zeroValue9
 t20 := Tryz.underlying20
 a20 := Tryz.isAgg20
 z20 := Tryz.sizeOf20
 v20 := Tryz.zeroValue20
 t21 := Tryz.underlying21
 a21 := Tryz.isAgg21
 z21 := Tryz.sizeOf21
 v21 := Tryz.zeroValue21
 t37 := Tryz.underlying22
 a37 := Tryz.isAgg22
 z37 := Tryz.sizeOf22
 v37 := Tryz.zeroValue22
 t46 := Tryz.underlying101
 a46 := Tryz.isAgg101
 z46 := Tryz.sizeOf101
 v46 := Tryz.zeroValue101
 t51 := Tryz.underlying202
 a51 := Tryz.isAgg202
 z51 := Tryz.sizeOf202
 v51 := Tryz.zeroValue202
 t53 := Tryz.underlying79
 a53 := Tryz.isAgg79
 z53 := Tryz.sizeOf79
 v53 := Tryz.zeroValue79
 t75 := Tryz.underlying106
 a75 := Tryz.isAgg106
 z75 := Tryz.sizeOf106
 v75 := Tryz.zeroValue106
 t76 := Tryz.underlying107
 a76 := Tryz.isAgg107
 z76 := Tryz.sizeOf107
 v76 := Tryz.zeroValue107
 t85 := Tryz.underlying195
 a85 := Tryz.isAgg195
 z85 := Tryz.sizeOf195
 v85 := Tryz.zeroValue195
 t127 := Tryz.underlying150
 a127 := Tryz.isAgg150
 z127 := Tryz.sizeOf150
 v127 := Tryz.zeroValue150
 t143 := Tryz.underlying218
 a143 := Tryz.isAgg218
 z143 := Tryz.sizeOf218
 v143 := Tryz.zeroValue218
 t145 := Tryz.underlying220
 a145 := Tryz.isAgg220
 z145 := Tryz.sizeOf220
 v145 := Tryz.zeroValue220
 t167 := Tryz.underlying194
 a167 := Tryz.isAgg194
 z167 := Tryz.sizeOf194
 v167 := Tryz.zeroValue194
 t168 := Tryz.underlying197
 a168 := Tryz.isAgg197
 z168 := Tryz.sizeOf197
 v168 := Tryz.zeroValue197
 t171 := Tryz.underlying187
 a171 := Tryz.isAgg187
 z171 := Tryz.sizeOf187
 v171 := Tryz.zeroValue187
 t173 := Tryz.underlying190
 a173 := Tryz.isAgg190
 z173 := Tryz.sizeOf190
 v173 := Tryz.zeroValue190
 t175 := Tryz.underlying206
 a175 := Tryz.isAgg206
 z175 := Tryz.sizeOf206
 v175 := Tryz.zeroValue206
 t210 := Tryz.underlying209
 a210 := Tryz.isAgg209
 z210 := Tryz.sizeOf209
 v210 := Tryz.zeroValue209
 t212 := Tryz.underlying201
 a212 := Tryz.isAgg201
 z212 := Tryz.sizeOf201
 v212 := Tryz.zeroValue201
 t213 := Tryz.underlying203
 a213 := Tryz.isAgg203
 z213 := Tryz.sizeOf203
 t232 := Tryz.underlying221
 a232 := Tryz.isAgg221
 z232 := Tryz.sizeOf221
 v232 := Tryz.zeroValue221
 t233 := Tryz.underlying222
 a233 := Tryz.isAgg222
 z233 := Tryz.sizeOf222
 v233 := Tryz.zeroValue222
 g15 := by kernel_rfl
 g16 := by kernel_rfl
 g17 := by kernel_rfl
 g18 := by kernel_rfl
 g19 := by kernel_rfl
 t80 := Tryz.underlying67
 a80 := Tryz.isAgg67
 z80 := Tryz.sizeOf67
 v80 := Tryz.zeroValue67
 i0 := by kernel_rfl
 i2 := by kernel_rfl
 i3 := by kernel_rfl
 i4 := by kernel_rfl
 i5 := by kernel_rfl
 i9 := by kernel_rfl
 i20 := by kernel_rfl
 i21 := by kernel_rfl
 i37 := by kernel_rfl
 i46 := by kernel_rfl
 i51 := by kernel_rfl
 i53 := by kernel_rfl
 i75 := by kernel_rfl
 i76 := by kernel_rfl
 i80 := by kernel_rfl
 i85 := by kernel_rfl
 i127 := by kernel_rfl
 i143 := by kernel_rfl
 i145 := by kernel_rfl
 i167 := by kernel_rfl
 i168 := by kernel_rfl
 i171 := by kernel_rfl
 i173 := by kernel_rfl
 i175 := by kernel_rfl
 i210 := by kernel_rfl
 i212 := by kernel_rfl
 i232 := by kernel_rfl
 i233 := by kernel_rfl
 m15 := by kernel_rfl
 m16 := by kernel_rfl
 m17 := by kernel_rfl
 m18 := by kernel_rfl
 m19 := by kernel_rfl
 c0 := by kernel_rfl
 c2 := by kernel_rfl
 c3 := by kernel_rfl
 c4 := by kernel_rfl
 c5 := by kernel_rfl
 c9 := by kernel_rfl
 c20 := by kernel_rfl
 c21 := by kernel_rfl
 c37 := by kernel_rfl
 c46 := by kernel_rfl
 c51 := by kernel_rfl
 c53 := by kernel_rfl
 c75 := by kernel_rfl
 c76 := by kernel_rfl
 c80 := by kernel_rfl
 c85 := by kernel_rfl
 c127 := by kernel_rfl
 c143 := by kernel_rfl
 c145 := by kernel_rfl
 c167 := by kernel_rfl
 c168 := by kernel_rfl
 c171 := by kernel_rfl
 c173 := by kernel_rfl
 c175 := by kernel_rfl
 c210 := by kernel_rfl
 c212 := by kernel_rfl
 c213 := by kernel_rfl
 c232 := by kernel_rfl
 c233 := by kernel_rfl }
open Go.RowKit in
theorem Tryz.strconv_Atoi_ok (s : ByteArray) (hmax : s.size ≤ 9223372036854775806) (v : Int) (h : Lib.atoiAll s.data.toList = .ok v) (w : World) :
  Calls Tryz.prog 122 #[.string s] w fun e w' => e = .returned (.tuple #[.int .i64 v, .nilIface]) ∧ (w' = w ∨ ∃ t, w' = Lib.bytesWorld w 5 t) := Any.strconv_Atoi_ok Tryz.laysC172 s hmax v h w
open Go.RowKit in
theorem Tryz.strconv_Atoi_syntax_var (s : ByteArray) (hlim : s.size ≤ 281474976710656) (h : Lib.atoiAll s.data.toList = .«syntax») (tp : TypeId) (p : Value) (w : World) (hvar : w.var? Tryz.prog "strconv.ErrSyntax" = some #[.iface tp p]) :
  Calls Tryz.prog 122 #[.string s] w fun e w' => ∃ N, e = .returned (.tuple #[.int .i64 0, .iface 197 (.pointer (some ⟨N, 0, none⟩))]) ∧ w.heap.size ≤ N ∧ w'.heap[N]? = some (.cells #[.string ⟨#[65, 116, 111, 105]⟩, .string s, .iface tp p] 209 (0, 0)) ∧ Below w.heap.size w w' := Any.strconv_Atoi_syntax_var Tryz.laysC172 s hlim h tp p w hvar
open Go.RowKit in
theorem Tryz.strconv_Atoi_range_var (s : ByteArray) (hlim : s.size ≤ 281474976710656) (h : Lib.atoiAll s.data.toList = .range) (tp : TypeId) (p : Value) (w : World) (hvar : w.var? Tryz.prog "strconv.ErrRange" = some #[.iface tp p]) :
  Calls Tryz.prog 122 #[.string s] w fun e w' => ∃ N, e = .returned (.tuple #[.int .i64 (Lib.atoiSat s.data.toList), .iface 197 (.pointer (some ⟨N, 0, none⟩))]) ∧ w.heap.size ≤ N ∧ w'.heap[N]? = some (.cells #[.string ⟨#[65, 116, 111, 105]⟩, .string s, .iface tp p] 209 (0, 0)) ∧ Below w.heap.size w w' := Any.strconv_Atoi_range_var Tryz.laysC172 s hlim h tp p w hvar
def Tryz.lays143_ren : Go.Shelf.Ren := ⟨fun | 143 => 142 | 219 => 151 | 217 => 163 | 225 => 164 | 224 => 165 | 267 => 166 | 266 => 172 | 314 => 173 | n => n, fun | 9 => 9 | 3 => 3 | 4 => 4 | 5 => 5 | 46 => 101 | 146 => 216 | 51 => 202 | n => n, fun | 1 => 3 | n => n⟩
theorem Tryz.lays143 : Go.Proofs.Lays.n143 Tryz.prog Tryz.lays143_ren := {
 mixed := by kernel_rfl
 f143 := Tryz.func142.trans (congrArg some (by kernel_rfl))
 f217 := Tryz.func163.trans (congrArg some (by kernel_rfl))
 f219 := Tryz.func151.trans (congrArg some (by kernel_rfl))
 f224 := Tryz.func165.trans (congrArg some (by kernel_rfl))
 f225 := Tryz.func164.trans (congrArg some (by kernel_rfl))
 f266 := Tryz.func172.trans (congrArg some (by kernel_rfl))
 f267 := Tryz.func166.trans (congrArg some (by kernel_rfl))
 f314 := Tryz.func173.trans (congrArg some (by kernel_rfl))
 t3 := Tryz.underlying3
 a3 := Tryz.isAgg3
 z3 := Tryz.sizeOf3
 v3 := Tryz.zeroValue3
 t4 := Tryz.underlying4
 a4 := Tryz.isAgg4
 z4 := Tryz.sizeOf4
 v4 := Tryz.zeroValue4
 t5 := Tryz.underlying5
 a5 := Tryz.isAgg5
 z5 := Tryz.sizeOf5
 v5 := Tryz.zeroValue5
 t9 := Tryz.underlying9
 a9 := Tryz.isAgg9
 z9 := Tryz.sizeOf9
 v9 := Tryz.zeroValue9
 t46 := Tryz.underlying101
 a46 := Tryz.isAgg101
 z46 := Tryz.sizeOf101
 v46 := Tryz.zeroValue101
 t51 := Tryz.underlying202
 a51 := Tryz.isAgg202
 z51 := Tryz.sizeOf202
 v51 := Tryz.zeroValue202
 t146 := Tryz.underlying216
 a146 := Tryz.isAgg216
 z146 := Tryz.sizeOf216
 v146 := Tryz.zeroValue216
 g1 := by kernel_rfl }
open Go.RowKit Go.Lib in
theorem Tryz.strings_Index_one (s : ByteArray) (c : UInt8) (w : World) :
  Calls Tryz.prog 142 #[.string s, .string ⟨#[c]⟩] w fun e w' => e = .returned (.int .i64 (Lib.indexByte s.data.toList c)) ∧ w' = w := Any.strings_Index_one Tryz.lays143 s c w
def Tryz.lays145_ren : Go.Shelf.Ren := ⟨fun | 145 => 120 | 220 => 137 | 219 => 151 | 217 => 163 | 225 => 164 | 224 => 165 | 267 => 166 | 266 => 172 | 314 => 173 | n => n, fun | 9 => 9 | 4 => 4 | 59 => 161 | 3 => 3 | 5 => 5 | 46 => 101 | 146 => 216 | 51 => 202 | n => n, fun | 1 => 3 | n => n⟩
theorem Tryz.lays145 : Go.Proofs.Lays.n145 Tryz.prog Tryz.lays145_ren := {
 mixed := by kernel_rfl
 f145 := Tryz.func120.trans (congrArg some (by kernel_rfl))
 f217 := Tryz.func163.trans (congrArg some (by kernel_rfl))
 f219 := Tryz.func151.trans (congrArg some (by kernel_rfl))
 f220 := Tryz.func137.trans (congrArg some (by kernel_rfl))
 f224 := Tryz.func165.trans (congrArg some (by kernel_rfl))
 f225 := Tryz.func164.trans (congrArg some (by kernel_rfl))
 f266 := Tryz.func172.trans (congrArg some (by kernel_rfl))
 f267 := Tryz.func166.trans (congrArg some (by kernel_rfl))
 f314 := Tryz.func173.trans (congrArg some (by kernel_rfl))
 t3 := Tryz.underlying3
 a3 := Tryz.isAgg3
 z3 := Tryz.sizeOf3
 v3 := Tryz.zeroValue3
 t4 := Tryz.underlying4
 a4 := Tryz.isAgg4
 z4 := Tryz.sizeOf4
 v4 := Tryz.zeroValue4
 t5 := Tryz.underlying5
 a5 := Tryz.isAgg5
 z5 := Tryz.sizeOf5
 v5 := Tryz.zeroValue5
 t9 := Tryz.underlying9
 a9 := Tryz.isAgg9
 z9 := Tryz.sizeOf9
 v9 := Tryz.zeroValue9
 t46 := Tryz.underlying101
 a46 := Tryz.isAgg101
 z46 := Tryz.sizeOf101
 v46 := Tryz.zeroValue101
 t51 := Tryz.underlying202
 a51 := Tryz.isAgg202
 z51 := Tryz.sizeOf202
 v51 := Tryz.zeroValue202
 t59 := Tryz.underlying161
 a59 := Tryz.isAgg161
 z59 := Tryz.sizeOf161
 v59 := Tryz.zeroValue161
 t146 := Tryz.underlying216
 a146 := Tryz.isAgg216
 z146 := Tryz.sizeOf216
 v146 := Tryz.zeroValue216
 g1 := by kernel_rfl }
open Go.RowKit Go.Lib in
theorem Tryz.strings_Cut (s sep : ByteArray) (m : Int) (w : World) (hs : s.size < 4294967281) (hm : w.cell? ⟨3, 0, none⟩ = some (.int .i64 m)) :
  Calls Tryz.prog 120 #[.string s, .string sep] w fun e w' => e = .returned (.tuple #[.string ⟨(Lib.cut s.data.toList sep.data.toList).1.toArray⟩, .string ⟨(Lib.cut s.data.toList sep.data.toList).2.1.toArray⟩, .bool (Lib.cut s.data.toList sep.data.toList).2.2]) ∧ ∃ n, w' = w.drewN n := Any.strings_Cut Tryz.lays145 s sep m w hs hm
def Tryz.lays101_ren : Go.Shelf.Ren := ⟨fun | 101 => 93 | 208 => 124 | 206 => 143 | n => n, fun | 9 => 9 | 4 => 4 | 3 => 3 | n => n, fun | n => n⟩
theorem Tryz.lays101 : Go.Proofs.Lays.n101 Tryz.prog Tryz.lays101_ren := {
 mixed := by kernel_rfl
 f101 := Tryz.func93.trans (congrArg some (by kernel_rfl))
 f206 := Tryz.func143.trans (congrArg some (by kernel_rfl))
 f208 := Tryz.func124.trans (congrArg some (by kernel_rfl))
 t3 := Tryz.underlying3
 a3 := Tryz.isAgg3
 z3 := Tryz.sizeOf3
 v3 := Tryz.zeroValue3
 t4 := Tryz.underlying4
 a4 := Tryz.isAgg4
 z4 := Tryz.sizeOf4
 v4 := Tryz.zeroValue4
 t9 := Tryz.underlying9
 a9 := Tryz.isAgg9
 z9 := Tryz.sizeOf9
 v9 := Tryz.zeroValue9 }
open Go.RowKit Go.Lib in
theorem Tryz.strings_TrimPrefix (s p : ByteArray) (w : World) :
  Calls Tryz.prog 93 #[.string s, .string p] w fun e w' => e = .returned (.string ⟨(Lib.trimPrefix s.data.toList p.data.toList).toArray⟩) ∧ w' = w := Any.strings_TrimPrefix Tryz.lays101 s p w
end Go.Proofs
