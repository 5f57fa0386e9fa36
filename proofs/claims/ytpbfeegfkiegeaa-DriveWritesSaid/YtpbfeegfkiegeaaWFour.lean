/- Words that this claim's texts use: out of a text of the kit's print, with the theorems that nothing here uses left out (prune.py); no condition of its own. -/
import Derived.Test.YtpbfeegfkiegeaaWTab
/-! ### 56. Four, five, six operations that may come up next, in any order -/
namespace Go.Proofs.YtpbfeegfkiegeaaW.PrintLast
section
variable {P : Program} {ops : Array Oper} {Q : Exit → Act → World → Prop} {md : Region.Mode} {S : World → Prop} {ds : List Nat} {T : Bool × List (List Nat × List Nat)}
end
end Go.Proofs.YtpbfeegfkiegeaaW.PrintLast
