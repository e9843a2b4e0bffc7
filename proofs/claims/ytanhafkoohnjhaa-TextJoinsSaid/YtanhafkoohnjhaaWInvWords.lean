/- Words that the contracts of this seat use (what the kit's print lays for it, but what nothing here names). -/
import Derived.Test.YtanhafkoohnjhaaWInv
import Derived.Test.YtanhafkoohnjhaaWFootNe
namespace Go.Proofs.YtanhafkoohnjhaaW.PrintWords
open Go.RowKit
end Go.Proofs.YtanhafkoohnjhaaW.PrintWords
namespace Go.Proofs.YtanhafkoohnjhaaW.PrintLast
section
variable {ops : Array Oper} {a : Act} {o og : Oper} {g : Nat} {t : Tmp} {u : Bool}
end
end Go.Proofs.YtanhafkoohnjhaaW.PrintLast
