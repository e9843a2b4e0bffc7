/- The one pure statement of RiverTells. -/
import Derived.Test.YtpicbjcpdngmlaaGx9
import Derived.Test.YtpicbjcpdngmlaaGOpen
namespace Go.Proofs.Ytpicbjcpdngmlaa.G
open Go.RowKit Go.Proofs.YtpicbjcpdngmlaaW.PrintWords Go.Proofs.Ytpicbjcpdngmlaa.O
def compositorlaw20_RiverTells.Pure : Prop := ∀ (a0 : S24) (a1 : S24), (good24 a0) → (good24 a1) → ∃ k, compositorlaw20_RiverTells.f k a0.f0 a0.f1 a0.f2 a0.f3 a0.f4 a1.f0 a1.f1 a1.f2 a1.f3 a1.f4 = some true
end Go.Proofs.Ytpicbjcpdngmlaa.G
