/- Opening of the arguments' types of this seat: what reads as data at such a type has cells of its kind, and is good. -/
import Derived.Test.YtpicbjcpdngmlaaGx0
import Derived.Test.YtpicbjcpdngmlaaLOpen
namespace Go.Proofs.Ytpicbjcpdngmlaa.G
open Go.RowKit Go.Proofs.YtpicbjcpdngmlaaW.PrintWords Go.Proofs.Ytpicbjcpdngmlaa.O
set_option linter.unusedVariables false
set_option maxRecDepth 100000
def good33 (x : S33) : Prop := ((Lit.int .i64 x.f0).wf = true) ∧ ((Lit.int .i64 x.f1).wf = true)
theorem opens33 : Opens Try.prog 33 k33 good33 := opens_imp (opens_iso (opens_struct Try.underlying33 (opens_cons rfl (opens_int Try.underlying3) (by kernel_rfl) (opens_last rfl (opens_int Try.underlying3) (by kernel_rfl))) (by kernel_rfl)) (fun x : S33 => (x.f0, x.f1)) (fun p => ⟨p.1, p.2⟩) (fun _ => rfl)) (fun _ h => h)
def good24 (x : S24) : Prop := ((Lit.int .i64 x.f0).wf = true) ∧ ((Lit.int .i64 x.f1).wf = true) ∧ ((Lit.int .i64 x.f2).wf = true) ∧ ((Lit.int .i64 x.f3).wf = true) ∧ (x.f4.length ≤ 9223372036854775807 ∧ x.f4.length * 16 ≤ 140737488351232 ∧ ∀ y1 ∈ x.f4, good33 y1)
theorem opens24 : Opens Try.prog 24 k24 good24 := opens_imp (opens_iso (opens_struct Try.underlying24 (opens_cons rfl (opens_int Try.underlying3) (by kernel_rfl) (opens_cons rfl (opens_int Try.underlying3) (by kernel_rfl) (opens_cons rfl (opens_int Try.underlying3) (by kernel_rfl) (opens_cons rfl (opens_int Try.underlying3) (by kernel_rfl) (opens_last rfl (opens_slice Try.underlying22 opens33 (by kernel_rfl) 16 (by kernel_rfl)) (by kernel_rfl)))))) (by kernel_rfl)) (fun x : S24 => (x.f0, x.f1, x.f2, x.f3, x.f4)) (fun p => ⟨p.1, p.2.1, p.2.2.1, p.2.2.2.1, p.2.2.2.2⟩) (fun _ => rfl)) (fun _ h => h)
end Go.Proofs.Ytpicbjcpdngmlaa.G
