/- What is asked at the head of each statement holds. -/
import Derived.Test.YtepllkdlnajbjaaGx10
import Derived.Test.YtepllkdlnajbjaaLEv
namespace Go.Proofs.Ytepllkdlnajbjaa.L
open Go.RowKit Go.Proofs.Ytepllkdlnajbjaa.G Go.Proofs.YtepllkdlnajbjaaW.PrintWords Go.Proofs.YtepllkdlnajbjaaW.PrintLast
theorem awake_60 : compositorlaw17_awake.f 60 = some true := by decide +kernel
theorem awake_ev : Ev (fun k => compositorlaw17_awake.f k) true := Ev.of (fun k => compositorlaw17_awake.mono k) awake_60
end Go.Proofs.Ytepllkdlnajbjaa.L
