/- The laws ValueParses and ValueBack in plain Lean. Conditions: the number of the pair is of type int. -/
import Derived.Test.YtodbabeldolcbaaDoorY6EVParse
import Derived.Test.YtodbabeldolcbaaDoorY6ERefP
import Derived.Test.YtodbabeldolcbaaDoorY6VMake
import Derived.Test.YtodbabeldolcbaaDoorY6PAx0
import Derived.Test.YtodbabeldolcbaaDoorY6PAx3
import Derived.Test.YtodbabeldolcbaaDoorY6PAx4
import Derived.Test.YtodbabeldolcbaaDoorY6PAx8
namespace Go.Proofs.YtodbabeldolcbaaDoor.PA
set_option linter.unusedSimpArgs false
set_option linter.unusedVariables false
open Go.RowKit Go.Proofs.YtodbabeldolcbaaDoorW.PrintWords Go.Proofs.YtodbabeldolcbaaDoorW.PrintLast Go.Proofs.YtodbabeldolcbaaDoorW.PrintMore Go.Proofs.YtodbabeldolcbaaDoor.M0
theorem vparse_tup (x : ByteArray) (hx : x.size ≤ 100000) : value_Parse.f x = some (tupV x) := by
  unfold value_Parse.f tupV
  rw [if_pos hx]
theorem rparse_tup (x : ByteArray) (hx : x.size ≤ 100000) : kauditref02_Parse.f x = some (tupV x) := by
  unfold kauditref02_Parse.f
  rw [if_pos hx]
end Go.Proofs.YtodbabeldolcbaaDoor.PA
