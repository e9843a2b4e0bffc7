/- Words that the contracts of this seat use (what the kit's print lays for it, but what nothing here names). -/
import Derived.Test.YtepllkdlnajbjaaWInv
import Derived.Test.YtepllkdlnajbjaaWFootNe
namespace Go.Proofs.YtepllkdlnajbjaaW.PrintWords
open Go.RowKit
end Go.Proofs.YtepllkdlnajbjaaW.PrintWords
namespace Go.Proofs.YtepllkdlnajbjaaW.PrintLast
section
variable {ops : Array Oper} {a : Act} {o og : Oper} {g : Nat} {t : Tmp} {u : Bool}
end
end Go.Proofs.YtepllkdlnajbjaaW.PrintLast
