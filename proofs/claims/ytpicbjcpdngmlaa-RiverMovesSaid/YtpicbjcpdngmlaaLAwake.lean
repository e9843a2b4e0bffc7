/- What is asked at the head of each statement holds. -/
import Derived.Test.YtpicbjcpdngmlaaGx6
import Derived.Test.YtpicbjcpdngmlaaLEv
namespace Go.Proofs.Ytpicbjcpdngmlaa.L
open Go.RowKit Go.Proofs.Ytpicbjcpdngmlaa.G Go.Proofs.YtpicbjcpdngmlaaW.PrintWords Go.Proofs.YtpicbjcpdngmlaaW.PrintLast
theorem awake_60 : compositorlaw20_awake.f 60 = some true := by decide +kernel
theorem awake_ev : Ev (fun k => compositorlaw20_awake.f k) true := Ev.of (fun k => compositorlaw20_awake.mono k) awake_60
end Go.Proofs.Ytpicbjcpdngmlaa.L
