/- The functions of the reference of layer 3 compute what record.Check and record.Format compute; the law RecordChecks in plain Lean. Conditions: the numbers of the pairs are of type int. -/
import Derived.Test.YtkfddpbmclbdhaaDoorZ8EForm
import Derived.Test.YtkfddpbmclbdhaaDoorZ8VPair
import Derived.Test.YtkfddpbmclbdhaaDoorZ8PAx14
namespace Go.Proofs.YtkfddpbmclbdhaaDoor.PA
set_option linter.unusedSimpArgs false
set_option linter.unusedVariables false
open Go.RowKit Go.Proofs.YtkfddpbmclbdhaaDoorW.PrintWords Go.Proofs.YtkfddpbmclbdhaaDoorW.PrintLast Go.Proofs.YtkfddpbmclbdhaaDoorW.PrintMore Go.Proofs.YtkfddpbmclbdhaaDoor.M0
/-! ### the law -/
theorem awake03_run : kauditlaw03_awake.f = some true := by decide +kernel
end Go.Proofs.YtkfddpbmclbdhaaDoor.PA
