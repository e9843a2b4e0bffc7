/- TfmHas: a font has just those characters from First on whose Width is not 0. -/
import Derived.Test.YtpijgpjoobffoaaGStTfmHas
import Derived.Test.YtpijgpjoobffoaaLFont
import Derived.Test.YtpijgpjoobffoaaLAwake
namespace Go.Proofs.Ytpijgpjoobffoaa.Pure
open Go.RowKit Go.Proofs.Ytpijgpjoobffoaa.G Go.Proofs.Ytpijgpjoobffoaa.L Go.Proofs.YtpijgpjoobffoaaW.PrintWords
set_option linter.unusedVariables false
set_option linter.unusedSimpArgs false
theorem mid (x n : Int) (h : 0 ≤ x ∧ x ≤ n) : mx 0 (mn x n) = x := by
  unfold mx mn
  split <;> split <;> omega
theorem clamp (x n : Int) (h : 0 ≤ n) : 0 ≤ mx 0 (mn x n) ∧ mx 0 (mn x n) ≤ n := by
  unfold mx mn
  split <;> split <;> omega
theorem rd_mem (cs : List Ch) (i : Int) (h0 : 0 ≤ i) (h1 : i < (cs.length : Int)) : rd_T42 cs i ∈ cs := by
  obtain ⟨j, rfl⟩ : ∃ j : Nat, i = (j : Int) := ⟨i.toNat, by omega⟩
  have hj : j < cs.length := by omega
  have e : rd_T42 cs (j : Int) = cs[j] := getD_nat cs _ j hj
  rw [e]
  exact List.getElem_mem hj
theorem tfmHas_j (a b c : Int) (cs : List Ch) (ws hs ds is : List Int) (ss : List St) (ks ps : List Int) (n : Int) (hl : cs.length ≤ 300) (hn : -9223372036854775808 ≤ n ∧ n ≤ 9223372036854775807) :
    Ev (fun k => compositorlaw07_TfmHas.j0 k n true false a b c cs ws hs ds is ss ks ps) true := by
  refine Ev.step (fun k => compositorlaw07_TfmHas.j0.eq_2 _ _ _ _ _ _ _ _ _ _ _ _ _ _ _) ?_
  simp only [Bool.false_eq_true, if_false]
  refine Ev.bind (has_ev a b c cs ws hs ds is ss ks ps n) ?_
  refine Ev.bind (check_ev a b c cs ws hs ds is ss ks ps) ?_
  unfold hasB
  cases h : fontB a b c cs ws hs ds is ss ks ps
  · simp only [Bool.false_eq_true, if_false, Bool.false_and, Bool.not_false, if_true]
    exact Ev.now _
  · have hf := font_in h
    have hc := hf.2.2.1
    have hs' := hf.2.2.2.1
    have hch := hf.2.2.2.2.2.2.2.1
    clear hf
    simp only [if_true, Bool.true_and]
    by_cases h1 : n ≥ c
    · have e1 : wrap64 (c + (cs.length : Int)) = c + (cs.length : Int) := wrap_in (by omega) (by omega)
      have e3 : wrap64 ((cs.length : Int) - 1) = (cs.length : Int) - 1 := wrap_in (by omega) (by omega)
      simp only [if_pos h1, decide_eq_true (show c ≤ n from h1), e1, e3, Bool.true_and]
      clear e1 e3
      by_cases h2 : n < c + (cs.length : Int)
      · have e2 : wrap64 (n - c) = n - c := wrap_in (by omega) (by omega)
        simp only [if_pos h2, decide_eq_true h2, e2, Bool.true_and]
        clear e2
        rw [mid (n - c) ((cs.length : Int) - 1) (by omega)]
        simp only [if_pos (show 0 ≤ n - c by omega), if_pos (show n - c < (cs.length : Int) by omega)]
        have hm := hch _ (rd_mem cs (n - c) (by omega) (by omega))
        simp only [charB, ofB, Bool.and_eq_true, decide_eq_true_eq] at hm
        have hw := hm.2.1.1
        have e : decide (0 < (rd_T42 cs (n - c)).f0) = ((rd_T42 cs (n - c)).f0 != 0) := by
          rw [Bool.eq_iff_iff, decide_eq_true_eq, bne_iff_ne]
          omega
        rw [e, BEq.rfl]
        exact Ev.now _
      · simp only [if_neg h2, decide_eq_false h2, Bool.false_and, BEq.rfl]
        exact Ev.now _
    · simp only [if_neg h1, decide_eq_false (show ¬ c ≤ n from h1), Bool.false_and, BEq.rfl]
      exact Ev.now _
theorem tfmHas_ev (a b c : Int) (cs : List Ch) (ws hs ds is : List Int) (ss : List St) (ks ps : List Int) (n : Int) (hn : -9223372036854775808 ≤ n ∧ n ≤ 9223372036854775807) :
    Ev (fun k => compositorlaw07_TfmHas.f k a b c cs ws hs ds is ss ks ps n) true := by
  have out : Ev (fun k => compositorlaw07_TfmHas.j0 k n true true a b c cs ws hs ds is ss ks ps) true := by
    refine Ev.step (fun k => compositorlaw07_TfmHas.j0.eq_2 _ _ _ _ _ _ _ _ _ _ _ _ _ _ _) ?_
    simp only [if_true]
    exact Ev.now _
  unfold compositorlaw07_TfmHas.f
  refine Ev.bind awake_ev ?_
  by_cases h3 : (cs.length : Int) > 300
  · simp only [if_pos h3]; exact out
  simp only [if_neg h3]
  by_cases h4 : (ws.length : Int) > 300
  · simp only [if_pos h4]; exact out
  simp only [if_neg h4]
  by_cases h5 : (hs.length : Int) > 300
  · simp only [if_pos h5]; exact out
  simp only [if_neg h5]
  by_cases h6 : (ds.length : Int) > 300
  · simp only [if_pos h6]; exact out
  simp only [if_neg h6]
  by_cases h7 : (is.length : Int) > 300
  · simp only [if_pos h7]; exact out
  simp only [if_neg h7]
  by_cases h8 : (ss.length : Int) > 300
  · simp only [if_pos h8]; exact out
  simp only [if_neg h8]
  by_cases h9 : (ks.length : Int) > 300
  · simp only [if_pos h9]; exact out
  simp only [if_neg h9]
  by_cases h10 : (ps.length : Int) > 300
  · simp only [decide_eq_true h10]; exact out
  simp only [decide_eq_false h10]
  exact tfmHas_j a b c cs ws hs ds is ss ks ps n (by omega) hn
theorem TfmHas : compositorlaw07_TfmHas.Pure := fun x n _ hn => (tfmHas_ev _ _ _ _ _ _ _ _ _ _ _ n (wf_i64 hn)).rounds
end Go.Proofs.Ytpijgpjoobffoaa.Pure
