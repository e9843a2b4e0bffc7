/- Whether any words may be, and a text of them, are what the document says, or its error (at most a hundred and ten words of a hundred codes). -/
import Derived.Test.YtanhafkoohnjhaaLWrite
import Derived.Test.YtanhafkoohnjhaaLAwake
import Derived.Test.YtanhafkoohnjhaaGStTextWrites
namespace Go.Proofs.Ytanhafkoohnjhaa.Pure
open Go.RowKit Go.Proofs.Ytanhafkoohnjhaa.G Go.Proofs.Ytanhafkoohnjhaa.L Go.Proofs.YtanhafkoohnjhaaW.PrintWords Go.Proofs.YtanhafkoohnjhaaW.PrintLast Go.Proofs.YtanhafkoohnjhaaW.PrintMore
set_option linter.unusedVariables false
set_option linter.unusedSimpArgs false
theorem TextWrites : compositorlaw13_TextWrites.Pure := by
  intro l0 _
  refine Ev.rounds (g := fun k => compositorlaw13_TextWrites.f k l0) ?_
  unfold compositorlaw13_TextWrites.f
  refine Ev.bind awake_ev ?_
  refine Ev.bind (few_f l0) ?_
  cases hf : fewB l0 with
  | false => simp only [Bool.false_eq_true, if_false]; exact Ev.now _
  | true =>
    have h := fewB_iff hf
    have hc : ∀ x ∈ l0, x.f0.length < 9223372036854775807 := fun x hx => by have := h.2 x hx; omega
    have hs : ∀ x ∈ l0, x.f1.length < 9223372036854775807 := fun x hx => by have := h.2 x hx; omega
    simp only [if_true]
    refine Ev.bind (write_f l0 (by omega) hs) ?_
    refine Ev.bind (rwrite_f l0 hc hs) ?_
    refine Ev.bind (check_f l0 (by omega) hs) ?_
    refine Ev.bind (rcheck_f l0 hc hs) ?_
    simp only [BEq.rfl, if_true]
    exact Ev.now _
end Go.Proofs.Ytanhafkoohnjhaa.Pure
