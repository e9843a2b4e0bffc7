/- The one pure statement of ShipReads. -/
import Derived.Test.YtihiiidbhhlfnaaGx21
import Derived.Test.YtihiiidbhhlfnaaGOpen
namespace Go.Proofs.Ytihiiidbhhlfnaa.G
open Go.RowKit Go.Proofs.YtihiiidbhhlfnaaW.PrintWords Go.Proofs.Ytihiiidbhhlfnaa.O
def compositorlaw23_ShipReads.Pure : Prop := ∀ (l0 : List Int), (l0.length ≤ 9223372036854775807 ∧ l0.length * 1 ≤ 140737488351232 ∧ ∀ y1 ∈ l0, (Lit.int .u8 y1).wf = true) → ∃ k, compositorlaw23_ShipReads.f k l0 = some true
end Go.Proofs.Ytihiiidbhhlfnaa.G
