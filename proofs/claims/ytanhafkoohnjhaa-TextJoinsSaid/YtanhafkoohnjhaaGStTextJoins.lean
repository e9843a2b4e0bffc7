/- The one pure statement of TextJoins. -/
import Derived.Test.YtanhafkoohnjhaaGx18
import Derived.Test.YtanhafkoohnjhaaGOpen
namespace Go.Proofs.Ytanhafkoohnjhaa.G
open Go.RowKit Go.Proofs.YtanhafkoohnjhaaW.PrintWords Go.Proofs.Ytanhafkoohnjhaa.O
def compositorlaw13_TextJoins.Pure : Prop := ∀ (l0 : List Int) (l1 : List Int) (a2 : Int), (l0.length ≤ 9223372036854775807 ∧ l0.length * 1 ≤ 140737488351232 ∧ ∀ y1 ∈ l0, (Lit.int .u8 y1).wf = true) → (l1.length ≤ 9223372036854775807 ∧ l1.length * 1 ≤ 140737488351232 ∧ ∀ y1 ∈ l1, (Lit.int .u8 y1).wf = true) → ((Lit.int .u8 a2).wf = true) → ∃ k, compositorlaw13_TextJoins.f k l0 l1 a2 = some true
end Go.Proofs.Ytanhafkoohnjhaa.G
