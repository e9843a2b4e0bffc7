/- Words that the contracts of this seat use (what the kit's print lays for it, but what nothing here names). -/
import Derived.Test.YtihiiidbhhlfnaaWInv
import Derived.Test.YtihiiidbhhlfnaaWFootNe
namespace Go.Proofs.YtihiiidbhhlfnaaW.PrintWords
open Go.RowKit
end Go.Proofs.YtihiiidbhhlfnaaW.PrintWords
namespace Go.Proofs.YtihiiidbhhlfnaaW.PrintLast
section
variable {ops : Array Oper} {a : Act} {o og : Oper} {g : Nat} {t : Tmp} {u : Bool}
end
end Go.Proofs.YtihiiidbhhlfnaaW.PrintLast
