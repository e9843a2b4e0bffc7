/- Whether any break may be one of any words, and what stands on a line between any two, are what the document says, or its error (at most a hundred and ten words of a hundred codes). -/
import Derived.Test.YtepllkdlnajbjaaLPiece
import Derived.Test.YtepllkdlnajbjaaLAwake
import Derived.Test.YtepllkdlnajbjaaGStPieceTells
namespace Go.Proofs.Ytepllkdlnajbjaa.Pure
open Go.RowKit Go.Proofs.Ytepllkdlnajbjaa.G Go.Proofs.Ytepllkdlnajbjaa.L Go.Proofs.YtepllkdlnajbjaaW.PrintWords Go.Proofs.YtepllkdlnajbjaaW.PrintLast Go.Proofs.YtepllkdlnajbjaaW.PrintMore
set_option linter.unusedVariables false
set_option linter.unusedSimpArgs false
theorem PieceTells : compositorlaw17_PieceTells.Pure := by
  intro l a b _ _ _
  refine Ev.rounds (g := fun k => compositorlaw17_PieceTells.f k l a.f0 a.f1 a.f2 b.f0 b.f1 b.f2) ?_
  unfold compositorlaw17_PieceTells.f
  refine Ev.bind awake_ev ?_
  refine Ev.bind (few_f l) ?_
  cases hf : fewB l with
  | false => simp only [Bool.false_eq_true, if_false]; exact Ev.now _
  | true =>
    have h := fewB_iff hf
    simp only [if_true]
    refine Ev.bind (pieces_f l h.1 h.2 _ _ _ _ _ _) ?_
    refine Ev.bind (rpieces_f l h.1 h.2 _ _ _ _ _ _) ?_
    refine Ev.bind (stand_f l h.1 h.2 _ _ _) ?_
    refine Ev.bind (rstand_f l h.1 h.2 _ _ _) ?_
    simp only [BEq.rfl, if_true]
    have hs := piecesV_small l h.1 h.2 a.f0 a.f1 a.f2 b.f0 b.f1 b.f2
    refine Ev.bind (same17 _ (by omega) (fun x hx => by have := hs.2 x hx; omega)) ?_
    simp only [if_true]
    exact Ev.now _
end Go.Proofs.Ytepllkdlnajbjaa.Pure
