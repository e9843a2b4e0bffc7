/- Words that the contracts of this seat use (what the kit's print lays for it, but what nothing here names). -/
import Derived.Test.YtejpnfaaboicdaaWInv
import Derived.Test.YtejpnfaaboicdaaWFootNe
namespace Go.Proofs.YtejpnfaaboicdaaW.PrintWords
open Go.RowKit
end Go.Proofs.YtejpnfaaboicdaaW.PrintWords
namespace Go.Proofs.YtejpnfaaboicdaaW.PrintLast
section
variable {ops : Array Oper} {a : Act} {o og : Oper} {g : Nat} {t : Tmp} {u : Bool}
end
end Go.Proofs.YtejpnfaaboicdaaW.PrintLast
