/- The one pure statement of RiverSelf. -/
import Derived.Test.YtpicbjcpdngmlaaGx11
import Derived.Test.YtpicbjcpdngmlaaGOpen
namespace Go.Proofs.Ytpicbjcpdngmlaa.G
open Go.RowKit Go.Proofs.YtpicbjcpdngmlaaW.PrintWords Go.Proofs.Ytpicbjcpdngmlaa.O
def compositorlaw20_RiverSelf.Pure : Prop := ∀ (l0 : List Int) (l1 : List Int), (l0.length ≤ 9223372036854775807 ∧ l0.length * 1 ≤ 140737488351232 ∧ ∀ y1 ∈ l0, (Lit.int .u8 y1).wf = true) → (l1.length ≤ 9223372036854775807 ∧ l1.length * 1 ≤ 140737488351232 ∧ ∀ y1 ∈ l1, (Lit.int .u8 y1).wf = true) → ∃ k, compositorlaw20_RiverSelf.f k l0 l1 = some true
end Go.Proofs.Ytpicbjcpdngmlaa.G
