/- ShipWrites: what the walk says it computes is true. -/
import Derived.Test.YtihiiidbhhlfnaaGStShipWrites
import Derived.Test.YtihiiidbhhlfnaaLShipW
import Derived.Test.YtihiiidbhhlfnaaLShipR
import Derived.Test.YtihiiidbhhlfnaaLAwake
namespace Go.Proofs.Ytihiiidbhhlfnaa.Pure
open Go.RowKit Go.Proofs.Ytihiiidbhhlfnaa.G Go.Proofs.Ytihiiidbhhlfnaa.L Go.Proofs.YtihiiidbhhlfnaaW.PrintWords
theorem shipWrites_ev (l : List Row) : Ev (fun k => compositorlaw23_ShipWrites.f k l) true := by
  unfold compositorlaw23_ShipWrites.f
  refine Ev.bind awake_ev ?_
  refine Ev.bind (few_f l) ?_
  cases h : fewB l
  · exact Ev.now _
  have hl := (few_in h).1
  have n1 := nums_len neg l 0
  have n2 := nums_len pos l 0
  simp only [if_true]
  refine Ev.bind (write_f l) ?_
  refine Ev.bind (rwrite_f l) ?_
  refine Ev.bind (report_f l hl) ?_
  refine Ev.bind (rreport_f l hl) ?_
  simp only [check_f, Option.bind_some]
  refine Ev.bind (rcheck_f l) ?_
  simp only [BEq.rfl, if_true]
  refine Ev.bind (same_f _ (by simp only [report]; omega)) ?_
  simp only [if_true]
  refine Ev.bind (same_f _ (by simp only [report]; omega)) ?_
  exact Ev.now _
theorem ShipWrites : compositorlaw23_ShipWrites.Pure := fun l _ => (shipWrites_ev l).rounds
end Go.Proofs.Ytihiiidbhhlfnaa.Pure
