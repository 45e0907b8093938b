/- The Go function record.Check returns what checkR says. Conditions: the program's tables read as they were laid (GT 2); no name of a pair is longer than 100000 bytes. -/
import Derived.Test.YtodbabeldolcbaaDoorY6EKind
import Derived.Test.YtodbabeldolcbaaDoorY6VPair
namespace Go.Proofs.YtodbabeldolcbaaDoor.PA
open Go.RowKit Go.Proofs.YtodbabeldolcbaaDoorW.PrintWords Go.Proofs.YtodbabeldolcbaaDoorW.PrintLast Go.Proofs.YtodbabeldolcbaaDoorW.PrintMore Go.Proofs.YtodbabeldolcbaaDoor.M0
set_option linter.unusedVariables false
set_option linter.unusedSimpArgs false
/-- Has one of these pairs this name? -/
def hasN (l : List S25) (nm : ByteArray) : Bool := l.any fun p => decide (p.f0 = nm)
/-! ### Check -/
/-- The name of a type, as Go has it. -/
def nameK (t : Int) : ByteArray := strOf (kindF fun k => k.2.1 == t).1
/-- The first error of the pairs behind those that are done. -/
def pairsI : List S25 → List S25 → Int
  | _, [] => 0
  | done, p :: rest => if checkI (L p.f0) p.f1 p.f2 (L p.f3) = 0 then (if hasN done p.f0 then 33 else pairsI (done ++ [p]) rest) else checkI (L p.f0) p.f1 p.f2 (L p.f3)
/-- What Check returns. -/
def checkR (t tm sr : Int) (l : List S25) : Int :=
  if nameK t = ⟨#[]⟩ then 30 else if tm < 0 then 31 else if 1099511627776 < tm then 31 else if sr < 0 then 31 else if 1073741824 < sr then 31 else if 24 < l.length then 32 else pairsI [] l
end Go.Proofs.YtodbabeldolcbaaDoor.PA
