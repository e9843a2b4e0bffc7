/- A text without its soft hyphens has the same codes, and none (at most a hundred and ten words of a hundred codes). -/
import Derived.Test.YtanhafkoohnjhaaLWrite
import Derived.Test.YtanhafkoohnjhaaLAwake
import Derived.Test.YtanhafkoohnjhaaGStTextSoft
namespace Go.Proofs.Ytanhafkoohnjhaa.Pure
open Go.RowKit Go.Proofs.Ytanhafkoohnjhaa.G Go.Proofs.Ytanhafkoohnjhaa.L Go.Proofs.YtanhafkoohnjhaaW.PrintWords Go.Proofs.YtanhafkoohnjhaaW.PrintLast Go.Proofs.YtanhafkoohnjhaaW.PrintMore
set_option linter.unusedVariables false
set_option linter.unusedSimpArgs false
def hard (b : Int) : Bool := !(decide (b = 194) || decide (b = 173))
def strip (x : S36) : S36 := ⟨x.f0, []⟩
theorem filter_put (cs : List Int) : ∀ (i : Nat) (soft : List Int), cs.all codeB = true → (text_Write.put cs i soft []).filter hard = cs := by
  induction cs with
  | nil => intro i soft _; rfl
  | cons x cs ih =>
    intro i soft ha
    simp only [List.all_cons, Bool.and_eq_true] at ha
    obtain ⟨hx1, hx2, _, _, _, hx3⟩ := code_b ha.1
    have hx : hard x = true := by simp [hard, hx2, hx3]
    by_cases hh : soft.head? = some (i : Int)
    · obtain ⟨t, rfl⟩ : ∃ t, soft = (i : Int) :: t := by
        cases soft with
        | nil => simp at hh
        | cons y t => simp at hh; exact ⟨t, by rw [hh]⟩
      rw [put_soft, hx1, List.filter_cons, if_neg (by decide), List.filter_cons, if_neg (by decide), List.filter_cons, if_pos hx, ih _ _ ha.2]
    · rw [put_plain x cs i soft hh, hx1, List.filter_cons, if_pos hx, ih _ _ ha.2]
theorem put_nil (cs : List Int) : ∀ (i : Nat), cs.all codeB = true → text_Write.put cs i [] [] = cs := by
  induction cs with
  | nil => intro i _; rfl
  | cons x cs ih =>
    intro i ha
    simp only [List.all_cons, Bool.and_eq_true] at ha
    rw [put_plain x cs i [] (by simp), (code_b ha.1).1, ih _ ha.2]
theorem filter_wb {x : S36} (h : okW x = true) : (wb x).filter hard = wb (strip x) := by
  unfold wb strip
  rw [filter_put _ _ _ (okW_iff h).2.1, put_nil _ _ (okW_iff h).2.1]
theorem filter_tail (l : List S36) (h : ∀ x ∈ l, okW x = true) : (tailV l).filter hard = tailV (l.map strip) := by
  induction l with
  | nil => rfl
  | cons x l ih =>
    rw [tailV, List.filter_cons, if_pos (by decide), List.filter_append, filter_wb (h x (by simp)), ih (fun y hy => h y (by simp [hy]))]
    rfl
theorem filter_write (l : List S36) (h : ∀ x ∈ l, okW x = true) : (writeV l).filter hard = writeV (l.map strip) := by
  cases l with
  | nil => rfl
  | cons x l =>
    rw [writeV, List.filter_append, filter_wb (h x (by simp)), filter_tail l (fun y hy => h y (by simp [hy]))]
    rfl
theorem total_strip (l : List S36) : total (l.map strip) = total l := by unfold total; rw [List.map_map]; rfl
theorem ok_strip {l : List S36} (h : okB l = true) : okB (l.map strip) = true := by
  have h1 := okB_iff h
  unfold okB
  rw [total_strip, List.length_map]
  have h2 : (l.map strip).all okW = true := by
    rw [List.all_eq_true]
    intro x hx
    obtain ⟨y, hy, rfl⟩ := List.mem_map.1 hx
    have := h1.2.2.1 y hy
    simp only [wordB, Bool.and_eq_true] at this
    unfold okW strip wordB
    simp only [softB, Bool.true_and, Bool.and_eq_true]
    exact this.2
  simp only [h2, Bool.true_and, Bool.and_eq_true, decide_eq_true_eq]
  omega
theorem soft_l1 (l m : List S36) (hm : m = l.map strip) (hl : l.length ≤ 110) (hw : ∀ x ∈ l, x.f0.length ≤ 100 ∧ x.f1.length ≤ 100) : ∀ (d i : Nat), l.length - i ≤ d → i ≤ l.length →
    Ev (fun k => compositorlaw13_TextSoft.l1 k l true m (i : Int)) true := by
  have hml : m.length = l.length := by rw [hm, List.length_map]
  intro d
  induction d with
  | zero =>
    intro i hd hi
    refine Ev.step (fun k => compositorlaw13_TextSoft.l1.eq_2 _ _ _ _ _) ?_
    simp only [if_neg (show ¬ (i : Int) < (m.length : Int) by omega)]
    exact Ev.now _
  | succ d ih =>
    intro i hd hi
    by_cases hlt : i < l.length
    · refine Ev.step (fun k => compositorlaw13_TextSoft.l1.eq_2 _ _ _ _ _) ?_
      have hx := hw l[i] (List.getElem_mem hlt)
      have e : m[i]'(by omega) = strip l[i] := by subst hm; exact List.getElem_map ..
      simp only [if_pos (show (i : Int) < (m.length : Int) by omega), if_pos (show (0 : Int) ≤ (i : Int) by omega), if_pos (show (i : Int) < (l.length : Int) by omega), rd_word l i hlt, rd_word m i (by omega), wrap_nat i (by omega), e]
      simp only [strip, List.length_nil, show ¬ (((0 : Nat) : Int) > 0) by omega, if_false]
      refine Ev.bind (same04 _ (by omega)) ?_
      simp only [if_true]
      exact ih (i + 1) (by omega) (by omega)
    · refine Ev.step (fun k => compositorlaw13_TextSoft.l1.eq_2 _ _ _ _ _) ?_
      simp only [if_neg (show ¬ (i : Int) < (m.length : Int) by omega)]
      exact Ev.now _
theorem soft_l0 (l : List S36) (hl : l.length ≤ 110) (hw : ∀ x ∈ l, x.f0.length ≤ 100 ∧ x.f1.length ≤ 100) (hok : okB l = true) : ∀ (d i : Nat) (out : List Int), (writeV l).length - i ≤ d → i ≤ (writeV l).length → out.length ≤ i → out ++ ((writeV l).drop i).filter hard = (writeV l).filter hard →
    Ev (fun k => compositorlaw13_TextSoft.l0 k l true (writeV l) out (i : Int)) true := by
  have hsm := write_small hok
  have fin : ∀ out, out = (writeV l).filter hard → Ev (fun k => (text_Read.f k out).bind fun bt346 => (if bt346.2 = 0 then (compositorlaw13_TextSoft.j1 k l true bt346.1 ((bt346.1.length : Int) != (l.length : Int))) else (compositorlaw13_TextSoft.j1 k l true bt346.1 true))) true := by
    intro out ho
    have hok2 := ok_strip hok
    have hsm2 := write_small hok2
    rw [ho, filter_write l (okB_all hok)]
    refine Ev.bind (read_f _ (write_bytes _ (okB_all hok2)) (by omega)) ?_
    simp only [read_write hok2, if_true, List.length_map]
    refine Ev.step (fun k => compositorlaw13_TextSoft.j1.eq_2 _ _ _ _ _) ?_
    simp only [bne_self_eq_false, Bool.false_eq_true, if_false]
    exact soft_l1 l _ rfl hl hw l.length 0 (by omega) (by omega)
  intro d
  induction d with
  | zero =>
    intro i out hd hi ho h
    obtain rfl : i = (writeV l).length := by omega
    rw [List.drop_length] at h
    refine Ev.step (fun k => compositorlaw13_TextSoft.l0.eq_2 _ _ _ _ _ _) ?_
    simp only [if_neg (show ¬ (((writeV l).length : Nat) : Int) < ((writeV l).length : Int) by omega)]
    exact fin out (by simpa using h)
  | succ d ih =>
    intro i out hd hi ho h
    by_cases hlt : i < (writeV l).length
    · refine Ev.step (fun k => compositorlaw13_TextSoft.l0.eq_2 _ _ _ _ _ _) ?_
      simp only [if_pos (show (i : Int) < ((writeV l).length : Int) by omega), if_pos (show (0 : Int) ≤ (i : Int) by omega), rd_nat _ i hlt, wrap_nat i (by omega)]
      rw [drop_at _ i hlt, List.filter_cons] at h
      by_cases h1 : (writeV l)[i] = 194
      · simp only [if_pos h1]
        rw [if_neg (by rw [h1]; decide)] at h
        exact ih (i + 1) out (by omega) (by omega) (by omega) h
      · by_cases h2 : (writeV l)[i] = 173
        · simp only [if_neg h1, if_pos h2]
          rw [if_neg (by rw [h2]; decide)] at h
          exact ih (i + 1) out (by omega) (by omega) (by omega) h
        · simp only [if_neg h1, if_neg h2, if_pos (show out.length < 140737488355328 by omega)]
          rw [if_pos (by simp [hard, h1, h2])] at h
          exact ih (i + 1) _ (by omega) (by omega) (by simp; omega) (by rw [← h]; simp)
    · obtain rfl : i = (writeV l).length := by omega
      rw [List.drop_length] at h
      refine Ev.step (fun k => compositorlaw13_TextSoft.l0.eq_2 _ _ _ _ _ _) ?_
      simp only [if_neg (show ¬ (((writeV l).length : Nat) : Int) < ((writeV l).length : Int) by omega)]
      exact fin out (by simpa using h)
theorem TextSoft : compositorlaw13_TextSoft.Pure := by
  intro l0 _
  refine Ev.rounds (g := fun k => compositorlaw13_TextSoft.f k l0) ?_
  unfold compositorlaw13_TextSoft.f
  refine Ev.bind awake_ev ?_
  refine Ev.bind (few_f l0) ?_
  cases hf : fewB l0 with
  | false => simp only [Bool.false_eq_true, if_false]; exact Ev.now _
  | true =>
    have h := fewB_iff hf
    have hs : ∀ x ∈ l0, x.f1.length < 9223372036854775807 := fun x hx => by have := h.2 x hx; omega
    simp only [if_true]
    refine Ev.bind (write_f l0 (by omega) hs) ?_
    cases ho : okB l0 with
    | false =>
      have hw : writtenV l0 = ([], 130) := by unfold writtenV; rw [ho]; rfl
      rw [hw]
      simp only [show ¬ (130 : Int) = 0 by decide, if_false]
      exact Ev.now _
    | true =>
      have hw : writtenV l0 = (writeV l0, 0) := by unfold writtenV; rw [ho]; rfl
      rw [hw]
      simp only [if_true]
      exact soft_l0 l0 h.1 h.2 ho _ 0 [] (Nat.le_refl _) (by omega) (by simp) (by simp)
end Go.Proofs.Ytanhafkoohnjhaa.Pure
