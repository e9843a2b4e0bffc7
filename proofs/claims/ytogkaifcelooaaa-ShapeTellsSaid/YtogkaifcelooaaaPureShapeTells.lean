/- What is left of any line, and from which on all are alike, are what the document says, or its error (at most a hundred lines of a shape). -/
import Derived.Test.YtogkaifcelooaaaLShape
import Derived.Test.YtogkaifcelooaaaLAwake
import Derived.Test.YtogkaifcelooaaaGStShapeTells
namespace Go.Proofs.Ytogkaifcelooaaa.Pure
open Go.RowKit Go.Proofs.Ytogkaifcelooaaa.G Go.Proofs.Ytogkaifcelooaaa.L Go.Proofs.YtogkaifcelooaaaW.PrintWords Go.Proofs.YtogkaifcelooaaaW.PrintLast Go.Proofs.YtogkaifcelooaaaW.PrintMore
set_option linter.unusedVariables false
set_option linter.unusedSimpArgs false
theorem ShapeTells : compositorlaw15_ShapeTells.Pure := by
  intro a0 line _ _
  refine ⟨20 + W 199 + a0.f4.length + 8, ?_⟩
  unfold compositorlaw15_ShapeTells.f
  rw [awake_t]
  simp only [Option.bind_some]
  by_cases hl : (a0.f4.length : Int) > 100
  · rw [if_pos hl]
  · rw [if_neg hl, at_f, from_f, rfrom_f 20, show 20 + W 199 + a0.f4.length + 8 = (20 + W 199 + 2) + a0.f4.length + 6 by omega, rat_f]
    simp
end Go.Proofs.Ytogkaifcelooaaa.Pure
