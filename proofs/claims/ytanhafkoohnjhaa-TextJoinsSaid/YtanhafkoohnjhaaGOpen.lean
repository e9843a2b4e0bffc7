/- Opening of the arguments' types of this seat: what reads as data at such a type has cells of its kind, and is good. -/
import Derived.Test.YtanhafkoohnjhaaGx0
import Derived.Test.YtanhafkoohnjhaaLOpen
namespace Go.Proofs.Ytanhafkoohnjhaa.G
open Go.RowKit Go.Proofs.YtanhafkoohnjhaaW.PrintWords Go.Proofs.Ytanhafkoohnjhaa.O
set_option linter.unusedVariables false
set_option maxRecDepth 100000
def good36 (x : S36) : Prop := (x.f0.length ≤ 9223372036854775807 ∧ x.f0.length * 8 ≤ 140737488351232 ∧ ∀ y1 ∈ x.f0, (Lit.int .i64 y1).wf = true) ∧ (x.f1.length ≤ 9223372036854775807 ∧ x.f1.length * 8 ≤ 140737488351232 ∧ ∀ y1 ∈ x.f1, (Lit.int .i64 y1).wf = true)
theorem opens36 : Opens Try.prog 36 k36 good36 := opens_imp (opens_iso (opens_struct Try.underlying36 (opens_cons rfl (opens_slice Try.underlying34 (opens_int Try.underlying3) (by kernel_rfl) 8 (by kernel_rfl)) (by kernel_rfl) (opens_last rfl (opens_slice Try.underlying34 (opens_int Try.underlying3) (by kernel_rfl) 8 (by kernel_rfl)) (by kernel_rfl))) (by kernel_rfl)) (fun x : S36 => (x.f0, x.f1)) (fun p => ⟨p.1, p.2⟩) (fun _ => rfl)) (fun _ h => h)
end Go.Proofs.Ytanhafkoohnjhaa.G
