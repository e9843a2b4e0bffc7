/- A text of words that may be has as many bytes as there are codes, and one less than words, and two for each soft hyphen (at most a hundred and ten words of a hundred codes). -/
import Derived.Test.YtanhafkoohnjhaaLWrite
import Derived.Test.YtanhafkoohnjhaaLAwake
import Derived.Test.YtanhafkoohnjhaaGStTextCounts
namespace Go.Proofs.Ytanhafkoohnjhaa.Pure
open Go.RowKit Go.Proofs.Ytanhafkoohnjhaa.G Go.Proofs.Ytanhafkoohnjhaa.L Go.Proofs.YtanhafkoohnjhaaW.PrintWords Go.Proofs.YtanhafkoohnjhaaW.PrintLast Go.Proofs.YtanhafkoohnjhaaW.PrintMore
set_option linter.unusedVariables false
set_option linter.unusedSimpArgs false
theorem counts_sum (n a b : Nat) (h : n + a + 2 * b ≤ 1000000) : wrap64 (wrap64 ((n : Int) + (a : Int)) + wrap64 (2 * (b : Int))) = ((n + a + 2 * b : Nat) : Int) := by
  rw [wrap_in (n := (n : Int) + (a : Int)) (by omega) (by omega), wrap_in (n := 2 * (b : Int)) (by omega) (by omega), wrap_in (by omega) (by omega)]
  omega
theorem counts_first (m : Nat) (h : 1 ≤ m) (h2 : m ≤ 1000) : wrap64 ((m : Int) - 1) = ((m - 1 : Nat) : Int) := by
  rw [wrap_in (by omega) (by omega)]
  omega
theorem counts_l0 (l : List S36) (b : List Int) (hl : l.length ≤ 110) (hw : ∀ x ∈ l, x.f0.length ≤ 100 ∧ x.f1.length ≤ 100) (hok : okB l = true) : ∀ (d i n : Nat), l.length - i ≤ d → i ≤ l.length → n ≤ 110 + 300 * i → b.length = n + total (l.drop i) + 2 * softs (l.drop i) →
    Ev (fun k => compositorlaw13_TextCounts.l0 k l true b (n : Int) (i : Int)) true := by
  intro d
  induction d with
  | zero =>
    intro i n hd hi hn hb
    obtain rfl : i = l.length := by omega
    rw [List.drop_length] at hb
    refine Ev.step (fun k => compositorlaw13_TextCounts.l0.eq_2 _ _ _ _ _ _) ?_
    have e : (b.length : Int) = (n : Int) := by simp [total, softs] at hb; omega
    simp only [if_neg (show ¬ ((l.length : Nat) : Int) < (l.length : Int) by omega), if_true, if_pos e]
    refine Ev.bind (check_f l (by omega) (fun x hx => by have := hw x hx; omega)) ?_
    rw [hok]
    exact Ev.now _
  | succ d ih =>
    intro i n hd hi hn hb
    by_cases hlt : i < l.length
    · have hx := hw l[i] (List.getElem_mem hlt)
      refine Ev.step (fun k => compositorlaw13_TextCounts.l0.eq_2 _ _ _ _ _ _) ?_
      simp only [if_pos (show (i : Int) < (l.length : Int) by omega), if_pos (show (0 : Int) ≤ (i : Int) by omega), rd_word l i hlt, wrap_nat i (by omega), counts_sum n l[i].f0.length l[i].f1.length (by omega)]
      rw [drop_at l i hlt, total_cons, softs_cons] at hb
      exact ih (i + 1) _ (by omega) (by omega) (by omega) (by omega)
    · obtain rfl : i = l.length := by omega
      rw [List.drop_length] at hb
      refine Ev.step (fun k => compositorlaw13_TextCounts.l0.eq_2 _ _ _ _ _ _) ?_
      have e : (b.length : Int) = (n : Int) := by simp [total, softs] at hb; omega
      simp only [if_neg (show ¬ ((l.length : Nat) : Int) < (l.length : Int) by omega), if_true, if_pos e]
      refine Ev.bind (check_f l (by omega) (fun x hx => by have := hw x hx; omega)) ?_
      rw [hok]
      exact Ev.now _
theorem TextCounts : compositorlaw13_TextCounts.Pure := by
  intro l0 _
  refine Ev.rounds (g := fun k => compositorlaw13_TextCounts.f k l0) ?_
  unfold compositorlaw13_TextCounts.f
  refine Ev.bind awake_ev ?_
  refine Ev.bind (few_f l0) ?_
  cases hf : fewB l0 with
  | false => simp only [Bool.false_eq_true, if_false]; exact Ev.now _
  | true =>
    have h := fewB_iff hf
    have hs : ∀ x ∈ l0, x.f1.length < 9223372036854775807 := fun x hx => by have := h.2 x hx; omega
    simp only [if_true]
    refine Ev.bind (write_f l0 (by omega) hs) ?_
    cases ho : okB l0 with
    | false =>
      have hw : writtenV l0 = ([], 130) := by unfold writtenV; rw [ho]; rfl
      rw [hw]
      simp only [show ¬ (130 : Int) = 0 by decide, if_false]
      refine Ev.bind (check_f l0 (by omega) hs) ?_
      rw [ho]
      simp only [Bool.false_eq_true, if_false]
      exact Ev.now _
    | true =>
      have hw : writtenV l0 = (writeV l0, 0) := by unfold writtenV; rw [ho]; rfl
      rw [hw]
      simp only [if_true]
      have h1 := (okB_iff ho).1
      have hwl := write_len l0 (okB_all ho) h1
      rw [counts_first l0.length h1 (by omega)]
      exact counts_l0 l0 _ h.1 h.2 ho l0.length 0 _ (by omega) (by omega) (by omega) (by rw [List.drop_zero]; omega)
end Go.Proofs.Ytanhafkoohnjhaa.Pure
