/- Opening of the arguments' types of this seat: what reads as data at such a type has cells of its kind, and is good. -/
import Derived.Test.YtihiiidbhhlfnaaGx0
import Derived.Test.YtihiiidbhhlfnaaLOpen
namespace Go.Proofs.Ytihiiidbhhlfnaa.G
open Go.RowKit Go.Proofs.YtihiiidbhhlfnaaW.PrintWords Go.Proofs.Ytihiiidbhhlfnaa.O
set_option linter.unusedVariables false
set_option maxRecDepth 100000
def good43 (x : S43) : Prop := ((Lit.int .i64 x.f0).wf = true) ∧ ((Lit.int .i64 x.f1).wf = true)
theorem opens43 : Opens Try.prog 43 k43 good43 := opens_imp (opens_iso (opens_struct Try.underlying43 (opens_cons rfl (opens_int Try.underlying3) (by kernel_rfl) (opens_last rfl (opens_int Try.underlying3) (by kernel_rfl))) (by kernel_rfl)) (fun x : S43 => (x.f0, x.f1)) (fun p => ⟨p.1, p.2⟩) (fun _ => rfl)) (fun _ h => h)
def good41 (x : S41) : Prop := ((Lit.int .i64 x.f0).wf = true) ∧ ((Lit.int .i64 x.f1).wf = true) ∧ ((Lit.int .i64 x.f2).wf = true) ∧ ((Lit.int .i64 x.f3).wf = true) ∧ (x.f4.length ≤ 9223372036854775807 ∧ x.f4.length * 16 ≤ 140737488351232 ∧ ∀ y1 ∈ x.f4, good43 y1)
theorem opens41 : Opens Try.prog 41 k41 good41 := opens_imp (opens_iso (opens_struct Try.underlying41 (opens_cons rfl (opens_int Try.underlying3) (by kernel_rfl) (opens_cons rfl (opens_int Try.underlying3) (by kernel_rfl) (opens_cons rfl (opens_int Try.underlying3) (by kernel_rfl) (opens_cons rfl (opens_int Try.underlying3) (by kernel_rfl) (opens_last rfl (opens_slice Try.underlying39 opens43 (by kernel_rfl) 16 (by kernel_rfl)) (by kernel_rfl)))))) (by kernel_rfl)) (fun x : S41 => (x.f0, x.f1, x.f2, x.f3, x.f4)) (fun p => ⟨p.1, p.2.1, p.2.2.1, p.2.2.2.1, p.2.2.2.2⟩) (fun _ => rfl)) (fun _ h => h)
end Go.Proofs.Ytihiiidbhhlfnaa.G
