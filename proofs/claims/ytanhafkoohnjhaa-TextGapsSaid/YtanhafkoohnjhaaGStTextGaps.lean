/- The one pure statement of TextGaps. -/
import Derived.Test.YtanhafkoohnjhaaGx16
import Derived.Test.YtanhafkoohnjhaaGOpen
namespace Go.Proofs.Ytanhafkoohnjhaa.G
open Go.RowKit Go.Proofs.YtanhafkoohnjhaaW.PrintWords Go.Proofs.Ytanhafkoohnjhaa.O
def compositorlaw13_TextGaps.Pure : Prop := ∀ (l0 : List (S36)) (l1 : List Int), (l0.length ≤ 9223372036854775807 ∧ l0.length * 48 ≤ 140737488351232 ∧ ∀ y1 ∈ l0, good36 y1) → (l1.length ≤ 9223372036854775807 ∧ l1.length * 1 ≤ 140737488351232 ∧ ∀ y1 ∈ l1, (Lit.int .u8 y1).wf = true) → ∃ k, compositorlaw13_TextGaps.f k l0 l1 = some true
end Go.Proofs.Ytanhafkoohnjhaa.G
