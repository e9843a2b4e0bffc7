/- Words that the contracts of this seat use (what the kit's print lays for it, but what nothing here names). -/
import Derived.Test.YtpicbjcpdngmlaaWInv
import Derived.Test.YtpicbjcpdngmlaaWFootNe
namespace Go.Proofs.YtpicbjcpdngmlaaW.PrintWords
open Go.RowKit
end Go.Proofs.YtpicbjcpdngmlaaW.PrintWords
namespace Go.Proofs.YtpicbjcpdngmlaaW.PrintLast
section
variable {ops : Array Oper} {a : Act} {o og : Oper} {g : Nat} {t : Tmp} {u : Bool}
end
end Go.Proofs.YtpicbjcpdngmlaaW.PrintLast
