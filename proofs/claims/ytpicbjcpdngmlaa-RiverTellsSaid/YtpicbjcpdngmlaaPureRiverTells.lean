/- Where any row's spaces begin and end, and how many of any two rows' lie over one another, are what the document says (at most three hundred items a row). -/
import Derived.Test.YtpicbjcpdngmlaaLRRef
import Derived.Test.YtpicbjcpdngmlaaLAwake
import Derived.Test.YtpicbjcpdngmlaaGStRiverTells
namespace Go.Proofs.Ytpicbjcpdngmlaa.Pure
open Go.RowKit Go.Proofs.Ytpicbjcpdngmlaa.G Go.Proofs.Ytpicbjcpdngmlaa.L Go.Proofs.YtpicbjcpdngmlaaW.PrintWords Go.Proofs.YtpicbjcpdngmlaaW.PrintLast Go.Proofs.YtpicbjcpdngmlaaW.PrintMore
set_option linter.unusedVariables false
set_option linter.unusedSimpArgs false
theorem tells_far (a b : S24) : Ev (fun k => compositorlaw20_RiverTells.j0 k true true a.f0 a.f1 a.f2 a.f3 a.f4 b.f0 b.f1 b.f2 b.f3 b.f4) true := by
  refine Ev.step (fun k => compositorlaw20_RiverTells.j0.eq_2 _ _ _ _ _ _ _ _ _ _ _ _ _) ?_
  simp only [if_true]
  exact Ev.now _
theorem RiverTells : compositorlaw20_RiverTells.Pure := by
  intro a b _ _
  refine Ev.rounds (g := fun k => compositorlaw20_RiverTells.f k a.f0 a.f1 a.f2 a.f3 a.f4 b.f0 b.f1 b.f2 b.f3 b.f4) ?_
  unfold compositorlaw20_RiverTells.f
  refine Ev.bind awake_ev ?_
  simp only [few_v, Option.bind_some, decide_eq_true_eq]
  by_cases ha : (a.f4.length : Int) ≤ 300
  · simp only [if_pos ha]
    by_cases hb : (b.f4.length : Int) ≤ 300
    · simp only [decide_eq_true hb, Bool.not_true]
      refine Ev.step (fun k => compositorlaw20_RiverTells.j0.eq_2 _ _ _ _ _ _ _ _ _ _ _ _ _) ?_
      simp only [Bool.false_eq_true, if_false, if_true]
      refine Ev.bind (gaps_f a.f0 a.f1 a.f2 a.f3 a.f4 (by omega)) ?_
      refine Ev.bind (rgaps_f a.f0 a.f1 a.f2 a.f3 a.f4 (by omega)) ?_
      refine Ev.bind (same_f _ (by have := fwd_len a.f4 a.f2; simp; omega)) ?_
      simp only [if_true]
      rw [count_f a.f0 a.f1 a.f2 a.f3 b.f0 b.f1 b.f2 b.f3 a.f4 b.f4 (by omega) (by omega)]
      simp only [Option.bind_some]
      refine Ev.bind (rcount_f a.f0 a.f1 a.f2 a.f3 b.f0 b.f1 b.f2 b.f3 a.f4 b.f4 (by omega) (by omega)) ?_
      simp only [beq_self_eq_true]
      exact Ev.now _
    · simp only [decide_eq_false hb, Bool.not_false]
      exact tells_far a b
  · simp only [if_neg ha]
    exact tells_far a b
end Go.Proofs.Ytpicbjcpdngmlaa.Pure
