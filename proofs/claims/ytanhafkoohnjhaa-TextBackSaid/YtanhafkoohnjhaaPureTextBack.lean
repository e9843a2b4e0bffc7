/- Words are read as they were written, and what is read is written so that it is read again (at most a hundred and ten words of a hundred codes; two thousand bytes). -/
import Derived.Test.YtanhafkoohnjhaaLWrite
import Derived.Test.YtanhafkoohnjhaaLAwake
import Derived.Test.YtanhafkoohnjhaaGStTextBack
namespace Go.Proofs.Ytanhafkoohnjhaa.Pure
open Go.RowKit Go.Proofs.Ytanhafkoohnjhaa.G Go.Proofs.Ytanhafkoohnjhaa.L Go.Proofs.YtanhafkoohnjhaaW.PrintWords Go.Proofs.YtanhafkoohnjhaaW.PrintLast Go.Proofs.YtanhafkoohnjhaaW.PrintMore
set_option linter.unusedVariables false
set_option linter.unusedSimpArgs false
theorem read_nil : readV [] = ([], 130) := rfl
theorem written_nil : writtenV [] = ([], 130) := rfl
theorem back_j1 (l1 : List Int) (hb : Bytes l1) (hl : l1.length ≤ 2000) : Ev (fun k => compositorlaw13_TextBack.j1 k l1 true false) true := by
  refine Ev.step (fun k => compositorlaw13_TextBack.j1.eq_2 _ _ _ _) ?_
  simp only [Bool.false_eq_true, if_false]
  have hs := readV_small l1
  refine Ev.bind (read_f l1 hb (by omega)) ?_
  refine Ev.bind (write_f _ (by omega) (fun x hx => by have := hs.2 x hx; omega)) ?_
  rcases readV_cases l1 with h | ⟨h0, hok, _⟩
  · rw [h, written_nil]
    refine Ev.bind (read_f [] (fun b hb => by cases hb) (by simp)) ?_
    rw [read_nil]
    refine Ev.bind (same_nil []) ?_
    simp only [if_true, show ¬ (130 : Int) = 0 by decide, if_false]
    exact Ev.now _
  · have hw : writtenV (readV l1).1 = (writeV (readV l1).1, 0) := by unfold writtenV; rw [hok]; rfl
    rw [hw]
    have hsm := write_small hok
    refine Ev.bind (read_f _ (write_bytes _ (okB_all hok)) (by simp only; omega)) ?_
    simp only [read_write hok]
    refine Ev.bind (same13 _ (by omega) (fun x hx => by have := hs.2 x hx; omega)) ?_
    have hre := rewrite_len h0
    simp only [h0, if_true, decide_eq_true (show ((writeV (readV l1).1).length : Int) ≤ (l1.length : Int) by omega)]
    exact Ev.now _
theorem TextBack : compositorlaw13_TextBack.Pure := by
  intro l0 l1 _ h1
  refine Ev.rounds (g := fun k => compositorlaw13_TextBack.f k l0 l1) ?_
  unfold compositorlaw13_TextBack.f
  refine Ev.bind awake_ev ?_
  refine Ev.bind (few_f l0) ?_
  cases hf : fewB l0 with
  | false =>
    simp only [Bool.false_eq_true, if_false]
    refine Ev.step (fun k => compositorlaw13_TextBack.j0.eq_2 _ _ _ _ _) ?_
    simp only [if_true]
    exact Ev.now _
  | true =>
    have h := fewB_iff hf
    have hs : ∀ x ∈ l0, x.f1.length < 9223372036854775807 := fun x hx => by have := h.2 x hx; omega
    simp only [if_true]
    refine Ev.step (fun k => compositorlaw13_TextBack.j0.eq_2 _ _ _ _ _) ?_
    by_cases hl : (l1.length : Int) > 2000
    · simp only [decide_eq_true hl, if_true]
      exact Ev.now _
    · simp only [decide_eq_false hl, Bool.false_eq_true, if_false]
      have hb := bytes_of h1.2.2
      refine Ev.bind (write_f l0 (by omega) hs) ?_
      cases ho : okB l0 with
      | false =>
        have hw : writtenV l0 = ([], 130) := by unfold writtenV; rw [ho]; rfl
        rw [hw]
        refine Ev.bind (read_f [] (fun b hb => by cases hb) (by simp)) ?_
        rw [read_nil]
        refine Ev.bind (same_nil l0) ?_
        simp only [show ¬ (130 : Int) = 0 by decide, if_false]
        refine Ev.bind (check_f l0 (by omega) hs) ?_
        rw [ho]
        exact back_j1 l1 hb (by omega)
      | true =>
        have hw : writtenV l0 = (writeV l0, 0) := by unfold writtenV; rw [ho]; rfl
        rw [hw]
        have hsm := write_small ho
        have hso := small_of_ok ho
        refine Ev.bind (read_f _ (write_bytes _ (okB_all ho)) (by simp only; omega)) ?_
        simp only [read_write ho]
        refine Ev.bind (same13 _ (by omega) (fun x hx => by have := hso.2 x hx; omega)) ?_
        simp only [if_true]
        refine Ev.bind (check_f l0 (by omega) hs) ?_
        rw [ho]
        exact back_j1 l1 hb (by omega)
end Go.Proofs.Ytanhafkoohnjhaa.Pure
