/- Words that the contracts of this seat use (what the kit's print lays for it, but what nothing here names). -/
import Derived.Test.YtogkaifcelooaaaWInv
import Derived.Test.YtogkaifcelooaaaWFootNe
namespace Go.Proofs.YtogkaifcelooaaaW.PrintWords
open Go.RowKit
end Go.Proofs.YtogkaifcelooaaaW.PrintWords
namespace Go.Proofs.YtogkaifcelooaaaW.PrintLast
section
variable {ops : Array Oper} {a : Act} {o og : Oper} {g : Nat} {t : Tmp} {u : Bool}
end
end Go.Proofs.YtogkaifcelooaaaW.PrintLast
