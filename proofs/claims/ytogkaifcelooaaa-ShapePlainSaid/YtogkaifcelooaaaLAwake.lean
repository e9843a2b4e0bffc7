/- What is asked at the head of each statement holds. -/
import Derived.Test.YtogkaifcelooaaaGx6
namespace Go.Proofs.Ytogkaifcelooaaa.L
open Go.RowKit Go.Proofs.Ytogkaifcelooaaa.G Go.Proofs.YtogkaifcelooaaaW.PrintWords Go.Proofs.YtogkaifcelooaaaW.PrintLast
theorem awake_t : compositorlaw15_awake.f = some true := by decide +kernel
end Go.Proofs.Ytogkaifcelooaaa.L
