/- The functions of the reference of layer 3 compute what record.Check and record.Format compute; the law RecordChecks in plain Lean. Conditions: the numbers of the pairs are of type int. -/
import Derived.Test.YtodbabeldolcbaaDoorY7EForm
import Derived.Test.YtodbabeldolcbaaDoorY7VPair
import Derived.Test.YtodbabeldolcbaaDoorY7PAx0
import Derived.Test.YtodbabeldolcbaaDoorY7PAx10
import Derived.Test.YtodbabeldolcbaaDoorY7PAx19
import Derived.Test.YtodbabeldolcbaaDoorY7PAx20
import Derived.Test.YtodbabeldolcbaaDoorY7PAx21
namespace Go.Proofs.YtodbabeldolcbaaDoor.PA
set_option linter.unusedSimpArgs false
set_option linter.unusedVariables false
open Go.RowKit Go.Proofs.YtodbabeldolcbaaDoorW.PrintWords Go.Proofs.YtodbabeldolcbaaDoorW.PrintLast Go.Proofs.YtodbabeldolcbaaDoorW.PrintMore Go.Proofs.YtodbabeldolcbaaDoor.M0
/-! ### the law -/
theorem awake03_run : kauditlaw03_awake.f = some true := by decide +kernel
end Go.Proofs.YtodbabeldolcbaaDoor.PA
