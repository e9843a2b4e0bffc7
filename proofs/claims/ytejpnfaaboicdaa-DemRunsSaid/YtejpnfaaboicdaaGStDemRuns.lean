/- The one pure statement of DemRuns. -/
import Derived.Test.YtejpnfaaboicdaaGx18
import Derived.Test.YtejpnfaaboicdaaGOpen
namespace Go.Proofs.Ytejpnfaaboicdaa.G
open Go.RowKit Go.Proofs.YtejpnfaaboicdaaW.PrintWords Go.Proofs.Ytejpnfaaboicdaa.O
def compositorlaw21_DemRuns.Pure : Prop := ∀ (a0 : S24) (l1 : List Int) (a2 : Int) (a3 : Int), (good24 a0) → (l1.length ≤ 9223372036854775807 ∧ l1.length * 1 ≤ 140737488351232 ∧ ∀ y1 ∈ l1, (Lit.int .u8 y1).wf = true) → ((Lit.int .u8 a2).wf = true) → ((Lit.int .u8 a3).wf = true) → ∃ k, compositorlaw21_DemRuns.f k a0.f0 a0.f1 a0.f2 a0.f3 a0.f4 a0.f5 a0.f6 a0.f7 a0.f8 a0.f9 a0.f10 a0.f11 a0.f12 a0.f13 a0.f14 a0.f15 a0.f16 a0.f17 a0.f18 a0.f19 a0.f20 l1 a2 a3 = some true
end Go.Proofs.Ytejpnfaaboicdaa.G
