/- What is asked at the head of each statement holds. -/
import Derived.Test.YtanhafkoohnjhaaGx6
import Derived.Test.YtanhafkoohnjhaaLEv
namespace Go.Proofs.Ytanhafkoohnjhaa.L
open Go.RowKit Go.Proofs.Ytanhafkoohnjhaa.G Go.Proofs.YtanhafkoohnjhaaW.PrintWords Go.Proofs.YtanhafkoohnjhaaW.PrintLast
theorem awake_60 : compositorlaw13_awake.f 60 = some true := by decide +kernel
theorem awake_ev : Ev (fun k => compositorlaw13_awake.f k) true := Ev.of (fun k => compositorlaw13_awake.mono k) awake_60
end Go.Proofs.Ytanhafkoohnjhaa.L
