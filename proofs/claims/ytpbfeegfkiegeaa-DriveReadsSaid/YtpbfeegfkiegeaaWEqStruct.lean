/- Words that this claim's texts use: out of a text of the kit's print, with the theorems that nothing here uses left out (prune.py); no condition of its own. -/
import Derived.Test.YtpbfeegfkiegeaaWWords
import Derived.Laws.StructEq
/-! ### 53. '==' of structs as_ one Bool -/
namespace Go.Proofs.YtpbfeegfkiegeaaW.PrintWords
open Go.RowKit
section
variable {P : Program} {d : Nat} {xs ys : Array Value} {f : Field} {fs : List Field} {a b : Value} {r s : Bool} {w : World}
end
end Go.Proofs.YtpbfeegfkiegeaaW.PrintWords
