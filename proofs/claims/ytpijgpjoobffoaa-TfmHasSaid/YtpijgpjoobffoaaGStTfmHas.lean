/- The one pure statement of TfmHas. -/
import Derived.Test.YtpijgpjoobffoaaGx28
import Derived.Test.YtpijgpjoobffoaaGOpen
namespace Go.Proofs.Ytpijgpjoobffoaa.G
open Go.RowKit Go.Proofs.YtpijgpjoobffoaaW.PrintWords Go.Proofs.Ytpijgpjoobffoaa.O
def compositorlaw07_TfmHas.Pure : Prop := ∀ (a0 : S26) (a1 : Int), (good26 a0) → ((Lit.int .i64 a1).wf = true) → ∃ k, compositorlaw07_TfmHas.f k a0.f0 a0.f1 a0.f2 a0.f3 a0.f4 a0.f5 a0.f6 a0.f7 a0.f8 a0.f9 a0.f10 a1 = some true
end Go.Proofs.Ytpijgpjoobffoaa.G
