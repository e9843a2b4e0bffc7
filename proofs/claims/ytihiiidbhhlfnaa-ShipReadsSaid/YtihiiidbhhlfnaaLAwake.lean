/- What is asked at the head of each statement holds. -/
import Derived.Test.YtihiiidbhhlfnaaGx12
import Derived.Test.YtihiiidbhhlfnaaLEv
namespace Go.Proofs.Ytihiiidbhhlfnaa.L
open Go.RowKit Go.Proofs.Ytihiiidbhhlfnaa.G Go.Proofs.YtihiiidbhhlfnaaW.PrintWords Go.Proofs.YtihiiidbhhlfnaaW.PrintLast
theorem awake_60 : compositorlaw23_awake.f 60 = some true := by decide +kernel
theorem awake_ev : Ev (fun k => compositorlaw23_awake.f k) true := Ev.of (fun k => compositorlaw23_awake.mono k) awake_60
end Go.Proofs.Ytihiiidbhhlfnaa.L
