/- Contracts of functions of the program: written by pr2.py (ours, round the print of the kit) out of the translation; conditions: each contract names its own. -/
import Derived.Test.YtodbabeldolcbaaDoorProg
import Derived.Test.YtodbabeldolcbaaDoorY6PW
import Derived.Below
import Derived.Deep.Draws
import Derived.Deep.AppendLies
import Derived.Maps.AppendAt
import Derived.OwnWalk
import Derived.Laws.BytesArg
import Derived.Laws.MakeOwn
import Derived.Laws.OwnMore
import Derived.Deep.OwnRows
import Derived.Tactics
import Derived.Lib.ConvBytes
import Derived.Laws.Slices
import Derived.WalkKit
import Derived.KernelRfl
import Derived.RowKit3
import Derived.Deep.LoopGhost
import Derived.Deep.QuietTactic
import Derived.BigQuiet
import Derived.WideLaws
import Derived.Deep.DeepCutAuto
import Derived.Deep.CutBlock
import Derived.Deep.RegionHeld3
import Derived.Laws.Rows
import Derived.Lib.AppendStr
import Derived.ArgAppend
import Derived.Laws.IdiomCopy
import Derived.OrdersHeld
import Derived.Laws.BitsLemmas
import Derived.RowKit
import Derived.Test.YtodbabeldolcbaaDoorY6WWords
import Derived.Test.YtodbabeldolcbaaDoorY6WLast
import Derived.Test.YtodbabeldolcbaaDoorY6WTab
import Derived.Test.YtodbabeldolcbaaDoorY6WApart
import Derived.Test.YtodbabeldolcbaaDoorY6WFoot
import Derived.Test.YtodbabeldolcbaaDoorY6WKept
import Derived.Test.YtodbabeldolcbaaDoorY6WShare
import Derived.Test.YtodbabeldolcbaaDoorY6WN
import Derived.Test.YtodbabeldolcbaaDoorY6WEqStruct
import Derived.Test.YtodbabeldolcbaaDoorY6WRepsOne
import Derived.Test.YtodbabeldolcbaaDoorY6WGuard
import Derived.Test.YtodbabeldolcbaaDoorY6WMore
namespace Go.Proofs.YtodbabeldolcbaaDoor.PA
open Go.RowKit Go.Proofs.YtodbabeldolcbaaDoorW.PrintWords Go.Proofs.YtodbabeldolcbaaDoorW.PrintLast Go.Proofs.YtodbabeldolcbaaDoorW.PrintMore
attribute [local go_sem] max2_int min2_int max_two min_two max_three min_three max_four min_four   -- for this text's walks alone
set_option linter.unusedVariables false
set_option linter.unusedSimpArgs false
def errW : Option Int → Value
 | none => .nilIface
 | some c => .iface 0 (.int .i64 c)
theorem errW_none : errW none = .nilIface := rfl
theorem errW_some (c : Int) : errW (some c) = .iface 0 (.int .i64 c) := rfl
theorem info5 : (Tryd.prog.info? 5).map (fun i => (i.zero, i.size, i.bytes)) = some (some (.int .u8 0), 1, 1) := by kernel_rfl
/-! #### struct type 25 -/
structure S25 where
 f0 : ByteArray
 f1 : Int
 f2 : Int
 f3 : ByteArray
def z25 : S25 := ⟨(⟨#[]⟩ : ByteArray), (0 : Int), (0 : Int), (⟨#[]⟩ : ByteArray)⟩
def rd_T25 (xs : List S25) (i : Int) : S25 := xs.getD i.toNat z25
/-! #### struct type 111 -/
structure S111 where
 f0 : ByteArray
 f1 : Int
 f2 : Bool
def z111 : S111 := ⟨(⟨#[]⟩ : ByteArray), (0 : Int), false⟩
def rd_T111 (xs : List S111) (i : Int) : S111 := xs.getD i.toNat z111
end Go.Proofs.YtodbabeldolcbaaDoor.PA
