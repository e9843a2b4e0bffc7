/- The one pure statement of ShipSize. -/
import Derived.Test.YtihiiidbhhlfnaaGx23
import Derived.Test.YtihiiidbhhlfnaaGOpen
namespace Go.Proofs.Ytihiiidbhhlfnaa.G
open Go.RowKit Go.Proofs.YtihiiidbhhlfnaaW.PrintWords Go.Proofs.Ytihiiidbhhlfnaa.O
def compositorlaw23_ShipSize.Pure : Prop := ∀ (l0 : List (S41)), (l0.length ≤ 9223372036854775807 ∧ l0.length * 56 ≤ 140737488351232 ∧ ∀ y1 ∈ l0, good41 y1) → ∃ k, compositorlaw23_ShipSize.f k l0 = some true
end Go.Proofs.Ytihiiidbhhlfnaa.G
