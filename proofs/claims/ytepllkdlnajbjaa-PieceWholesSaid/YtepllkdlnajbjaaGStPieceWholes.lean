/- The one pure statement of PieceWholes. -/
import Derived.Test.YtepllkdlnajbjaaGx20
import Derived.Test.YtepllkdlnajbjaaGOpen
namespace Go.Proofs.Ytepllkdlnajbjaa.G
open Go.RowKit Go.Proofs.YtepllkdlnajbjaaW.PrintWords Go.Proofs.Ytepllkdlnajbjaa.O
def compositorlaw17_PieceWholes.Pure : Prop := ∀ (l0 : List (List (List Int))) (l1 : List (S24)), (l0.length ≤ 9223372036854775807 ∧ l0.length * 24 ≤ 140737488351232 ∧ ∀ y3 ∈ l0, y3.length ≤ 9223372036854775807 ∧ y3.length * 24 ≤ 140737488351232 ∧ ∀ y2 ∈ y3, y2.length ≤ 9223372036854775807 ∧ y2.length * 8 ≤ 140737488351232 ∧ ∀ y1 ∈ y2, (Lit.int .i64 y1).wf = true) → (l1.length ≤ 9223372036854775807 ∧ l1.length * 24 ≤ 140737488351232 ∧ ∀ y1 ∈ l1, good24 y1) → ∃ k, compositorlaw17_PieceWholes.f k l0 l1 = some true
end Go.Proofs.Ytepllkdlnajbjaa.G
