/- The functions of the reference of layer 3 compute what record.Check and record.Format compute; the law RecordChecks in plain Lean. Conditions: the numbers of the pairs are of type int. -/
import Derived.Test.YtodbabeldolcbaaDoorY4EForm
import Derived.Test.YtodbabeldolcbaaDoorY4VPair
import Derived.Test.YtodbabeldolcbaaDoorY4PAx0
import Derived.Test.YtodbabeldolcbaaDoorY4PAx10
import Derived.Test.YtodbabeldolcbaaDoorY4PAx18
import Derived.Test.YtodbabeldolcbaaDoorY4PAx19
import Derived.Test.YtodbabeldolcbaaDoorY4PAx20
namespace Go.Proofs.YtodbabeldolcbaaDoor.PA
set_option linter.unusedSimpArgs false
set_option linter.unusedVariables false
open Go.RowKit Go.Proofs.YtodbabeldolcbaaDoorW.PrintWords Go.Proofs.YtodbabeldolcbaaDoorW.PrintLast Go.Proofs.YtodbabeldolcbaaDoorW.PrintMore Go.Proofs.YtodbabeldolcbaaDoor.M0
/-! ### the law -/
theorem awake03_run : kauditlaw03_awake.f = some true := by decide +kernel
end Go.Proofs.YtodbabeldolcbaaDoor.PA
