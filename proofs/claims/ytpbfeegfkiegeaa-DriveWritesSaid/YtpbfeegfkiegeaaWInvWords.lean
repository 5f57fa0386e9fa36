/- Words that this claim's texts use: out of a text of the kit's print, with the theorems that nothing here uses left out (prune.py); no condition of its own. -/
import Derived.Test.YtpbfeegfkiegeaaWInv
import Derived.Test.YtpbfeegfkiegeaaWFootNe
namespace Go.Proofs.YtpbfeegfkiegeaaW.PrintWords
open Go.RowKit
end Go.Proofs.YtpbfeegfkiegeaaW.PrintWords
namespace Go.Proofs.YtpbfeegfkiegeaaW.PrintLast
section
variable {ops : Array Oper} {a : Act} {o og : Oper} {g : Nat} {t : Tmp} {u : Bool}
end
end Go.Proofs.YtpbfeegfkiegeaaW.PrintLast
