import Derived.Test.YtkfddpbmclbdhaaDoorZ5GT
import Derived.Test.YtkfddpbmclbdhaaDoorZ5PAx0
namespace Go.Proofs.YtkfddpbmclbdhaaDoor.PA
set_option linter.unusedVariables false
open Go.RowKit Go.Proofs.YtkfddpbmclbdhaaDoorW.PrintWords Go.Proofs.YtkfddpbmclbdhaaDoorW.PrintLast Go.Proofs.YtkfddpbmclbdhaaDoorW.PrintMore
end Go.Proofs.YtkfddpbmclbdhaaDoor.PA
