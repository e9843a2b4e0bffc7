/- The one pure statement of RiverMoves. -/
import Derived.Test.YtpicbjcpdngmlaaGx12
import Derived.Test.YtpicbjcpdngmlaaGOpen
namespace Go.Proofs.Ytpicbjcpdngmlaa.G
open Go.RowKit Go.Proofs.YtpicbjcpdngmlaaW.PrintWords Go.Proofs.Ytpicbjcpdngmlaa.O
def compositorlaw20_RiverMoves.Pure : Prop := ∀ (a0 : S24) (a1 : S24) (a2 : Int), (good24 a0) → (good24 a1) → ((Lit.int .i32 a2).wf = true) → ∃ k, compositorlaw20_RiverMoves.f k a0.f0 a0.f1 a0.f2 a0.f3 a0.f4 a1.f0 a1.f1 a1.f2 a1.f3 a1.f4 a2 = some true
end Go.Proofs.Ytpicbjcpdngmlaa.G
