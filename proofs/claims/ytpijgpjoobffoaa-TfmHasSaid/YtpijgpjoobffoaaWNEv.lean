/- Words that the contracts of this seat use (what the kit's print lays for it, but what nothing here names). -/
import Derived.Test.YtpijgpjoobffoaaWN
namespace Go.Proofs.YtpijgpjoobffoaaW.PrintWords
open Go.RowKit
namespace Kd
section
variable {α : Type} {d : Kd α} {e base n cap g : Nat} {ok ok' okp : Nat → Prop} {w w1 W : World} {v v1 : Value} {xs ys : List α}
end
section
variable {P : Program} {ops : Array Oper} {rest : List Oper} {o : Oper} {a : Act} {Q : Exit → Act → World → Prop} {Kc : Act → World → Prop} {α : Type}
end
end Kd
end Go.Proofs.YtpijgpjoobffoaaW.PrintWords
