/- The one pure statement of DemPlain. -/
import Derived.Test.YtejpnfaaboicdaaGx17
import Derived.Test.YtejpnfaaboicdaaGOpen
namespace Go.Proofs.Ytejpnfaaboicdaa.G
open Go.RowKit Go.Proofs.YtejpnfaaboicdaaW.PrintWords Go.Proofs.Ytejpnfaaboicdaa.O
def compositorlaw21_DemPlain.Pure : Prop := ∀ (a0 : S24) (a1 : Int) (a2 : Int) (a3 : S26) (a4 : S26) (a5 : Int), (good24 a0) → ((Lit.int .u16 a1).wf = true) → ((Lit.int .u8 a2).wf = true) → (good26 a3) → (good26 a4) → ((Lit.int .u8 a5).wf = true) → ∃ k, compositorlaw21_DemPlain.f k a0.f0 a0.f1 a0.f2 a0.f3 a0.f4 a0.f5 a0.f6 a0.f7 a0.f8 a0.f9 a0.f10 a0.f11 a0.f12 a0.f13 a0.f14 a0.f15 a0.f16 a0.f17 a0.f18 a0.f19 a0.f20 a1 a2 a3.f0 a3.f1 a3.f2 a4.f0 a4.f1 a4.f2 a5 = some true
end Go.Proofs.Ytejpnfaaboicdaa.G
