/- Words that the contracts of this seat use (what the kit's print lays for it, but what nothing here names). -/
import Derived.Test.YtihiiidbhhlfnaaWTab
namespace Go.Proofs.YtihiiidbhhlfnaaW.PrintLast
section
variable {P : Program} {ops : Array Oper} {Q : Exit → Act → World → Prop} {md : Region.Mode} {S : World → Prop} {ds : List Nat} {T : Bool × List (List Nat × List Nat)}
end
end Go.Proofs.YtihiiidbhhlfnaaW.PrintLast
