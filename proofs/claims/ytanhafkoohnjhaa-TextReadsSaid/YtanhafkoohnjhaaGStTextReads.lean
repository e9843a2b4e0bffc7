/- The one pure statement of TextReads. -/
import Derived.Test.YtanhafkoohnjhaaGx12
import Derived.Test.YtanhafkoohnjhaaGOpen
namespace Go.Proofs.Ytanhafkoohnjhaa.G
open Go.RowKit Go.Proofs.YtanhafkoohnjhaaW.PrintWords Go.Proofs.Ytanhafkoohnjhaa.O
def compositorlaw13_TextReads.Pure : Prop := ∀ (l0 : List Int), (l0.length ≤ 9223372036854775807 ∧ l0.length * 1 ≤ 140737488351232 ∧ ∀ y1 ∈ l0, (Lit.int .u8 y1).wf = true) → ∃ k, compositorlaw13_TextReads.f k l0 = some true
end Go.Proofs.Ytanhafkoohnjhaa.G
