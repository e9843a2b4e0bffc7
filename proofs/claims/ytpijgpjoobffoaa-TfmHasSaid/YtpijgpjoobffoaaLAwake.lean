/- What is asked at the head of each statement holds. -/
import Derived.Test.YtpijgpjoobffoaaGx16
import Derived.Test.YtpijgpjoobffoaaLEv
namespace Go.Proofs.Ytpijgpjoobffoaa.L
open Go.RowKit Go.Proofs.Ytpijgpjoobffoaa.G Go.Proofs.YtpijgpjoobffoaaW.PrintWords Go.Proofs.YtpijgpjoobffoaaW.PrintLast
theorem awake_60 : compositorlaw07_awake.f 60 = some true := by decide +kernel
theorem awake_ev : Ev (fun k => compositorlaw07_awake.f k) true := Ev.of (fun k => compositorlaw07_awake.mono k) awake_60
end Go.Proofs.Ytpijgpjoobffoaa.L
