/- ShipReads: what the walk says it computes is true. -/
import Derived.Test.YtihiiidbhhlfnaaGStShipReads
import Derived.Test.YtihiiidbhhlfnaaLShipQ
import Derived.Test.YtihiiidbhhlfnaaLAwake
namespace Go.Proofs.Ytihiiidbhhlfnaa.Pure
open Go.RowKit Go.Proofs.Ytihiiidbhhlfnaa.G Go.Proofs.Ytihiiidbhhlfnaa.L Go.Proofs.YtihiiidbhhlfnaaW.PrintWords
theorem shipReads_ev (b : List Int) (hb : Bytes b) : Ev (fun k => compositorlaw23_ShipReads.f k b) true := by
  unfold compositorlaw23_ShipReads.f
  refine Ev.bind awake_ev ?_
  by_cases h : (b.length : Int) > 5000
  · simp only [if_pos h]
    exact Ev.now _
  simp only [if_neg h]
  refine Ev.bind (read_f b hb) ?_
  refine Ev.bind (rread_f b hb (by omega)) ?_
  have := read_few b hb
  refine Ev.bind (all_f _ this.1 this.2) ?_
  simp only [if_true, BEq.rfl]
  exact Ev.now _
theorem ShipReads : compositorlaw23_ShipReads.Pure := fun b h => (shipReads_ev b (wf_bytes h.2.2)).rounds
end Go.Proofs.Ytihiiidbhhlfnaa.Pure
