/- The one pure statement of TextCounts. -/
import Derived.Test.YtanhafkoohnjhaaGx19
import Derived.Test.YtanhafkoohnjhaaGOpen
namespace Go.Proofs.Ytanhafkoohnjhaa.G
open Go.RowKit Go.Proofs.YtanhafkoohnjhaaW.PrintWords Go.Proofs.Ytanhafkoohnjhaa.O
def compositorlaw13_TextCounts.Pure : Prop := ∀ (l0 : List (S36)), (l0.length ≤ 9223372036854775807 ∧ l0.length * 48 ≤ 140737488351232 ∧ ∀ y1 ∈ l0, good36 y1) → ∃ k, compositorlaw13_TextCounts.f k l0 = some true
end Go.Proofs.Ytanhafkoohnjhaa.G
