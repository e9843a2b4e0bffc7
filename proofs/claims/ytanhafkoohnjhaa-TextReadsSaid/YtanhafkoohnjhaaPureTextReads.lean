/- The words of any text are what the document says, or its error (at most two thousand bytes). -/
import Derived.Test.YtanhafkoohnjhaaLWrite
import Derived.Test.YtanhafkoohnjhaaLAwake
import Derived.Test.YtanhafkoohnjhaaGStTextReads
namespace Go.Proofs.Ytanhafkoohnjhaa.Pure
open Go.RowKit Go.Proofs.Ytanhafkoohnjhaa.G Go.Proofs.Ytanhafkoohnjhaa.L Go.Proofs.YtanhafkoohnjhaaW.PrintWords Go.Proofs.YtanhafkoohnjhaaW.PrintLast Go.Proofs.YtanhafkoohnjhaaW.PrintMore
set_option linter.unusedVariables false
set_option linter.unusedSimpArgs false
theorem TextReads : compositorlaw13_TextReads.Pure := by
  intro l0 h
  refine Ev.rounds (g := fun k => compositorlaw13_TextReads.f k l0) ?_
  unfold compositorlaw13_TextReads.f
  refine Ev.bind awake_ev ?_
  by_cases hl : (l0.length : Int) > 2000
  · simp only [if_pos hl]; exact Ev.now _
  · simp only [if_neg hl]
    have hb := bytes_of h.2.2
    have hs := readV_small l0
    refine Ev.bind (read_f l0 hb (by omega)) ?_
    refine Ev.bind (rread_f l0 hb (by omega)) ?_
    refine Ev.bind (same13 _ (by omega) (fun x hx => by have := hs.2 x hx; omega)) ?_
    simp only [if_true, BEq.rfl]
    exact Ev.now _
end Go.Proofs.Ytanhafkoohnjhaa.Pure
