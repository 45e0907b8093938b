/- The reference's Parse of a pair returns the one pair that its Format writes so, or the error. Condition: the text has at most 100000 bytes. -/
import Derived.Test.YtodbabeldolcbaaDoorY2VParseR
import Derived.Test.YtodbabeldolcbaaDoorY2PAx0
import Derived.Test.YtodbabeldolcbaaDoorY2PAx20
import Derived.Test.YtodbabeldolcbaaDoorY2PAx7
import Derived.Test.YtodbabeldolcbaaDoorY2PAx21
namespace Go.Proofs.YtodbabeldolcbaaDoor.PA
open Go.RowKit Go.Proofs.YtodbabeldolcbaaDoorW.PrintWords Go.Proofs.YtodbabeldolcbaaDoorW.PrintLast Go.Proofs.YtodbabeldolcbaaDoorW.PrintMore Go.Proofs.YtodbabeldolcbaaDoor.M0
set_option linter.unusedVariables false
set_option linter.unusedSimpArgs false
/-- What Parse returns, in parts. -/
noncomputable def tupV (s : ByteArray) : ByteArray × Int × Int × ByteArray × Int := ((parseV s).1.f0, (parseV s).1.f1, (parseV s).1.f2, (parseV s).1.f3, (parseV s).2)
noncomputable def kauditref02_Parse.f (a0 : ByteArray) : Option (ByteArray × Int × Int × ByteArray × Int) := if a0.size ≤ 100000 then some (tupV a0) else none
end Go.Proofs.YtodbabeldolcbaaDoor.PA
