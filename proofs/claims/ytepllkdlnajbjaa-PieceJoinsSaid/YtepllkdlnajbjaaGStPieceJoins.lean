/- The one pure statement of PieceJoins. -/
import Derived.Test.YtepllkdlnajbjaaGx21
import Derived.Test.YtepllkdlnajbjaaGOpen
namespace Go.Proofs.Ytepllkdlnajbjaa.G
open Go.RowKit Go.Proofs.YtepllkdlnajbjaaW.PrintWords Go.Proofs.Ytepllkdlnajbjaa.O
def compositorlaw17_PieceJoins.Pure : Prop := ∀ (l0 : List (S41)) (a1 : S24) (a2 : S24) (a3 : S24), (l0.length ≤ 9223372036854775807 ∧ l0.length * 48 ≤ 140737488351232 ∧ ∀ y1 ∈ l0, good41 y1) → (good24 a1) → (good24 a2) → (good24 a3) → ∃ k, compositorlaw17_PieceJoins.f k l0 a1.f0 a1.f1 a1.f2 a2.f0 a2.f1 a2.f2 a3.f0 a3.f1 a3.f2 = some true
end Go.Proofs.Ytepllkdlnajbjaa.G
