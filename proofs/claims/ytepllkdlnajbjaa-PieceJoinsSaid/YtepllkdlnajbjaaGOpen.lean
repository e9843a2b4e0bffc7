/- Opening of the arguments' types of this seat: what reads as data at such a type has cells of its kind, and is good. -/
import Derived.Test.YtepllkdlnajbjaaGx0
import Derived.Test.YtepllkdlnajbjaaLOpen
namespace Go.Proofs.Ytepllkdlnajbjaa.G
open Go.RowKit Go.Proofs.YtepllkdlnajbjaaW.PrintWords Go.Proofs.Ytepllkdlnajbjaa.O
set_option linter.unusedVariables false
set_option maxRecDepth 100000
def good41 (x : S41) : Prop := (x.f0.length ≤ 9223372036854775807 ∧ x.f0.length * 8 ≤ 140737488351232 ∧ ∀ y1 ∈ x.f0, (Lit.int .i64 y1).wf = true) ∧ (x.f1.length ≤ 9223372036854775807 ∧ x.f1.length * 8 ≤ 140737488351232 ∧ ∀ y1 ∈ x.f1, (Lit.int .i64 y1).wf = true)
theorem opens41 : Opens Try.prog 41 k41 good41 := opens_imp (opens_iso (opens_struct Try.underlying41 (opens_cons rfl (opens_slice Try.underlying36 (opens_int Try.underlying3) (by kernel_rfl) 8 (by kernel_rfl)) (by kernel_rfl) (opens_last rfl (opens_slice Try.underlying36 (opens_int Try.underlying3) (by kernel_rfl) 8 (by kernel_rfl)) (by kernel_rfl))) (by kernel_rfl)) (fun x : S41 => (x.f0, x.f1)) (fun p => ⟨p.1, p.2⟩) (fun _ => rfl)) (fun _ h => h)
def good24 (x : S24) : Prop := ((Lit.int .i64 x.f0).wf = true) ∧ ((Lit.int .i64 x.f1).wf = true) ∧ ((Lit.int .i64 x.f2).wf = true)
theorem opens24 : Opens Try.prog 24 k24 good24 := opens_imp (opens_iso (opens_struct Try.underlying24 (opens_cons rfl (opens_int Try.underlying3) (by kernel_rfl) (opens_cons rfl (opens_int Try.underlying3) (by kernel_rfl) (opens_last rfl (opens_int Try.underlying3) (by kernel_rfl)))) (by kernel_rfl)) (fun x : S24 => (x.f0, x.f1, x.f2)) (fun p => ⟨p.1, p.2.1, p.2.2⟩) (fun _ => rfl)) (fun _ h => h)
end Go.Proofs.Ytepllkdlnajbjaa.G
