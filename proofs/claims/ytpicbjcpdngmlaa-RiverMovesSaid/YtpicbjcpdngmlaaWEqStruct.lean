/- Words that the contracts of this seat use (what the kit's print lays for it, but what nothing here names). -/
import Derived.Test.YtpicbjcpdngmlaaWWords
import Derived.Laws.StructEq
namespace Go.Proofs.YtpicbjcpdngmlaaW.PrintWords
open Go.RowKit
section
variable {P : Program} {d : Nat} {xs ys : Array Value} {f : Field} {fs : List Field} {a b : Value} {r s : Bool} {w : World}
end
end Go.Proofs.YtpicbjcpdngmlaaW.PrintWords
