/- Words that the contracts of this seat use (what the kit's print lays for it, but what nothing here names). -/
import Derived.Test.YtpijgpjoobffoaaWInv
import Derived.Test.YtpijgpjoobffoaaWFootNe
namespace Go.Proofs.YtpijgpjoobffoaaW.PrintWords
open Go.RowKit
end Go.Proofs.YtpijgpjoobffoaaW.PrintWords
namespace Go.Proofs.YtpijgpjoobffoaaW.PrintLast
section
variable {ops : Array Oper} {a : Act} {o og : Oper} {g : Nat} {t : Tmp} {u : Bool}
end
end Go.Proofs.YtpijgpjoobffoaaW.PrintLast
