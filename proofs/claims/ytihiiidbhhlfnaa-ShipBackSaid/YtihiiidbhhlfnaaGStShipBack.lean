/- The one pure statement of ShipBack. -/
import Derived.Test.YtihiiidbhhlfnaaGx22
import Derived.Test.YtihiiidbhhlfnaaGOpen
namespace Go.Proofs.Ytihiiidbhhlfnaa.G
open Go.RowKit Go.Proofs.YtihiiidbhhlfnaaW.PrintWords Go.Proofs.Ytihiiidbhhlfnaa.O
def compositorlaw23_ShipBack.Pure : Prop := ∀ (l0 : List (S41)) (l1 : List Int) (a2 : Int), (l0.length ≤ 9223372036854775807 ∧ l0.length * 56 ≤ 140737488351232 ∧ ∀ y1 ∈ l0, good41 y1) → (l1.length ≤ 9223372036854775807 ∧ l1.length * 1 ≤ 140737488351232 ∧ ∀ y1 ∈ l1, (Lit.int .u8 y1).wf = true) → ((Lit.int .u16 a2).wf = true) → ∃ k, compositorlaw23_ShipBack.f k l0 l1 a2 = some true
end Go.Proofs.Ytihiiidbhhlfnaa.G
