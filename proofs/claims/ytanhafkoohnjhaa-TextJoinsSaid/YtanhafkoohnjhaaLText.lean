/- Words of texts: whether any may be, as one Bool; the program's and the reference's check both tell it. -/
import Derived.Test.YtanhafkoohnjhaaGx1
import Derived.Test.YtanhafkoohnjhaaGx8
import Derived.Test.YtanhafkoohnjhaaGx12
import Derived.Test.YtanhafkoohnjhaaLEv
namespace Go.Proofs.Ytanhafkoohnjhaa.L
open Go.RowKit Go.Proofs.Ytanhafkoohnjhaa.G Go.Proofs.YtanhafkoohnjhaaW.PrintWords
set_option linter.unusedVariables false
set_option linter.unusedSimpArgs false
def softB (n : Int) : Int → List Int → Bool
  | _, [] => true
  | last, x :: s => decide (last < x) && (decide (x < n) && softB n x s)
def codeB (x : Int) : Bool := decide (33 ≤ x) && decide (x ≤ 126)
def sizeB (c : List Int) : Bool := decide (1 ≤ (c.length : Int)) && decide ((c.length : Int) ≤ 60)
def wordB (c s : List Int) : Bool := softB c.length 0 s && (sizeB c && c.all codeB)
def okW (x : S36) : Bool := wordB x.f0 x.f1
def total (l : List S36) : Nat := (l.map fun x => x.f0.length).sum
def okB (l : List S36) : Bool := decide (1 ≤ (l.length : Int)) && (decide ((l.length : Int) ≤ 100) && (l.all okW && decide ((total l : Int) ≤ 400)))
theorem rd_word (l : List S36) (i : Nat) (h : i < l.length) : rd_T36 l (i : Int) = l[i] := getD_nat l _ i h
theorem wordB_len {c s : List Int} (h : wordB c s = true) : 1 ≤ c.length ∧ c.length ≤ 60 := by
  simp only [wordB, sizeB, Bool.and_eq_true, decide_eq_true_eq] at h
  omega
theorem total_nil : total [] = 0 := rfl
theorem total_cons (x : S36) (l : List S36) : total (x :: l) = x.f0.length + total l := by simp [total]
theorem any_bad (c : List Int) : text_word_1_any.f c = some (!c.all codeB) := by
  have e : ∀ x, text_word_1.f x = some (!codeB x) := by
    intro x
    unfold text_word_1.f codeB
    by_cases h : x < 33
    · have : ¬ 33 ≤ x := by omega
      rw [if_pos h]; simp [this]
    · have h1 : 33 ≤ x := by omega
      rw [if_neg h]
      by_cases h2 : x ≤ 126
      · have h3 : ¬ x > 126 := by omega
        simp [h1, h2, h3]
      · have h3 : x > 126 := by omega
        simp [h1, h2, h3]
  unfold text_word_1_any.f
  simp only [e, Option.isSome_some]
  rw [if_pos (by simp)]
  congr 1
  rw [Bool.eq_iff_iff]
  simp
theorem word_l0 (c s : List Int) (hs : s.length < 9223372036854775807) : ∀ (d i : Nat) (last : Int), s.length - i = d → i ≤ s.length →
    Ev (fun k => text_word.l0 k last s (s.length : Int) (i : Int) c s) (softB c.length last (s.drop i) && (sizeB c && c.all codeB)) := by
  intro d
  induction d with
  | zero =>
    intro i last hd hi
    refine Ev.step (fun k => text_word.l0.eq_2 _ _ _ _ _ _ _) ?_
    have hge : ¬ (i : Int) < (s.length : Int) := by omega
    simp only [if_neg hge, any_bad, Option.bind_some, Bool.not_not]
    rw [List.drop_of_length_le (by omega)]
    simp only [softB, Bool.true_and, sizeB]
    by_cases h1 : (c.length : Int) ≥ 1
    · by_cases h2 : (c.length : Int) ≤ 60
      · simp only [if_pos h1, if_pos h2]
        have h1' : (1 : Int) ≤ (c.length : Int) := h1
        simp only [h1', h2, decide_true, Bool.true_and]
        exact Ev.now _
      · simp only [if_pos h1, if_neg h2]
        simp only [h2, decide_false, Bool.and_false, Bool.false_and]
        exact Ev.now _
    · simp only [if_neg h1]
      have h1' : ¬ (1 : Int) ≤ (c.length : Int) := h1
      simp only [h1', decide_false, Bool.false_and]
      exact Ev.now _
  | succ d ih =>
    intro i last hd hi
    have hlt : i < s.length := by omega
    refine Ev.step (fun k => text_word.l0.eq_2 _ _ _ _ _ _ _) ?_
    rw [drop_at s i hlt]
    simp only [rd_nat s i hlt, wrap_nat i (by omega)]
    simp only [if_pos (show (0 : Int) ≤ (i : Int) by omega), if_pos (show (i : Int) < (s.length : Int) by omega), softB]
    by_cases h1 : s[i] ≤ last
    · have h1' : ¬ last < s[i] := by omega
      simp only [if_pos h1, h1', decide_false, Bool.false_and]
      exact Ev.now _
    · have h1' : last < s[i] := by omega
      simp only [if_neg h1, h1', decide_true, Bool.true_and]
      by_cases h2 : s[i] ≥ (c.length : Int)
      · have h2' : ¬ s[i] < (c.length : Int) := by omega
        simp only [if_pos h2, h2', decide_false, Bool.false_and]
        exact Ev.now _
      · have h2' : s[i] < (c.length : Int) := by omega
        simp only [if_neg h2, h2', decide_true, Bool.true_and]
        exact ih (i + 1) s[i] (by omega) (by omega)
theorem word_f (c s : List Int) (hs : s.length < 9223372036854775807) : Ev (fun k => text_word.f k c s) (wordB c s) := by
  have := word_l0 c s hs s.length 0 0 (by omega) (by omega)
  simpa [text_word.f, wordB] using this
theorem check_l0 (l : List S36) (hl : l.length ≤ 1000000000000) (hs : ∀ x ∈ l, x.f1.length < 9223372036854775807) : ∀ (d i n : Nat), l.length - i = d → i ≤ l.length → n ≤ 60 * i →
    Ev (fun k => text_Check.l0 k l (n : Int) l (l.length : Int) (i : Int)) ((l.drop i).all okW && (decide (1 ≤ (l.length : Int)) && (decide ((l.length : Int) ≤ 100) && decide (((n + total (l.drop i) : Nat) : Int) ≤ 400)))) := by
  intro d
  induction d with
  | zero =>
    intro i n hd hi hn
    refine Ev.step (fun k => text_Check.l0.eq_2 _ _ _ _ _ _) ?_
    have hge : ¬ (i : Int) < (l.length : Int) := by omega
    simp only [if_neg hge]
    rw [List.drop_of_length_le (by omega), total_nil, Nat.add_zero]
    simp only [List.all_nil, Bool.true_and]
    by_cases h1 : (l.length : Int) ≥ 1
    · have h1' : (1 : Int) ≤ (l.length : Int) := h1
      by_cases h2 : (l.length : Int) ≤ 100
      · simp only [if_pos h1, if_pos h2, h1', h2, decide_true, Bool.true_and]
        exact Ev.now _
      · simp only [if_pos h1, if_neg h2, h1', h2, decide_true, decide_false, Bool.true_and, Bool.false_and]
        exact Ev.now _
    · have h1' : ¬ (1 : Int) ≤ (l.length : Int) := h1
      simp only [if_neg h1, h1', decide_false, Bool.false_and]
      exact Ev.now _
  | succ d ih =>
    intro i n hd hi hn
    have hlt : i < l.length := by omega
    refine Ev.step (fun k => text_Check.l0.eq_2 _ _ _ _ _ _) ?_
    rw [drop_at l i hlt]
    simp only [rd_word l i hlt, wrap_nat i (by omega), if_pos (show (i : Int) < (l.length : Int) by omega), if_pos (show (0 : Int) ≤ (i : Int) by omega), List.all_cons, total_cons]
    refine Ev.bind (word_f _ _ (hs _ (List.getElem_mem hlt))) ?_
    show Ev _ ((okW l[i] && (l.drop (i + 1)).all okW) && _)
    cases hw : wordB l[i].f0 l[i].f1 with
    | false =>
      simp only [okW, hw, Bool.false_and, Bool.false_eq_true, if_false]
      exact Ev.now _
    | true =>
      have hb := wordB_len hw
      have e : wrap64 ((n : Int) + (l[i].f0.length : Int)) = ((n + l[i].f0.length : Nat) : Int) := by
        rw [wrap_in (by omega) (by omega)]; omega
      simp only [okW, hw, if_true, Bool.true_and, e]
      refine Ev.eq (ih (i + 1) (n + l[i].f0.length) (by omega) (by omega) (by omega)) ?_
      rw [Nat.add_assoc]
theorem check_f (l : List S36) (hl : l.length ≤ 1000000000000) (hs : ∀ x ∈ l, x.f1.length < 9223372036854775807) : Ev (fun k => text_Check.f k l) (okB l) := by
  have := check_l0 l hl hs l.length 0 0 (by omega) (by omega) (by omega)
  simp only [List.drop_zero, Nat.zero_add] at this
  refine Ev.eq (g := fun k => text_Check.f k l) this ?_
  unfold okB
  cases l.all okW <;> simp
theorem rword_l1 (c s : List Int) (hs : s.length < 9223372036854775807) : ∀ (d i : Nat) (last : Int), s.length - i = d → i ≤ s.length → 0 ≤ last → (∀ (j : Nat) (h : j < s.length), i = j + 1 → s[j] = last ∧ 1 ≤ last) → (i = 0 → last = 0) →
    Ev (fun k => compositorref13_word.l1 k (i : Int) c s) (softB c.length last (s.drop i)) := by
  intro d
  induction d with
  | zero =>
    intro i last hd hi _ _ _
    refine Ev.step (fun k => compositorref13_word.l1.eq_2 _ _ _ _) ?_
    have hge : ¬ (i : Int) < (s.length : Int) := by omega
    simp only [if_neg hge]
    rw [List.drop_of_length_le (by omega)]
    exact Ev.now _
  | succ d ih =>
    intro i last hd hi h0 hp hz
    have hlt : i < s.length := by omega
    refine Ev.step (fun k => compositorref13_word.l1.eq_2 _ _ _ _) ?_
    rw [drop_at s i hlt]
    simp only [rd_nat s i hlt, wrap_nat i (by omega), if_pos (show (i : Int) < (s.length : Int) by omega), if_pos (show (0 : Int) ≤ (i : Int) by omega), softB]
    by_cases h1 : s[i] < 1
    · have h1' : ¬ last < s[i] := by
        rcases Nat.eq_zero_or_pos i with hi0 | hi0
        · have := hz hi0; omega
        · have := hp (i - 1) (by omega) (by omega); omega
      simp only [if_pos h1, h1', decide_false, Bool.false_and]
      exact Ev.now _
    · simp only [if_neg h1]
      by_cases h2 : s[i] ≥ (c.length : Int)
      · have h2' : ¬ s[i] < (c.length : Int) := by omega
        simp only [if_pos h2, h2', decide_false, Bool.false_and, Bool.and_false]
        exact Ev.now _
      · have h2' : s[i] < (c.length : Int) := by omega
        simp only [if_neg h2, h2', decide_true, Bool.true_and]
        rcases Nat.eq_zero_or_pos i with hi0 | hi0
        · have hlast := hz hi0
          have h3 : ¬ (i : Int) > 0 := by omega
          have h4 : last < s[i] := by omega
          simp only [if_neg h3, h4, decide_true, Bool.true_and]
          refine ih (i + 1) s[i] (by omega) (by omega) (by omega) (fun j hj e => ?_) (by omega)
          obtain rfl : j = i := by omega
          exact ⟨rfl, by omega⟩
        · obtain ⟨j, rfl⟩ : ∃ j, i = j + 1 := ⟨i - 1, by omega⟩
          have hl := hp j (by omega) rfl
          have h3 : ((j + 1 : Nat) : Int) > 0 := by omega
          have e : wrap64 (((j + 1 : Nat) : Int) - 1) = (j : Int) := by rw [wrap_in (by omega) (by omega)]; omega
          simp only [if_pos h3, e, if_pos (show (0 : Int) ≤ (j : Int) by omega), if_pos (show (j : Int) < (s.length : Int) by omega), rd_nat s j (by omega), hl.1]
          by_cases h4 : last ≥ s[j + 1]
          · have h4' : ¬ last < s[j + 1] := by omega
            simp only [if_pos h4, h4', decide_false, Bool.false_and]
            exact Ev.now _
          · have h4' : last < s[j + 1] := by omega
            simp only [if_neg h4, h4', decide_true, Bool.true_and]
            refine ih (j + 1 + 1) s[j + 1] (by omega) (by omega) (by omega) (fun j' hj e => ?_) (by omega)
            obtain rfl : j' = j + 1 := by omega
            exact ⟨rfl, by omega⟩
theorem rword_l0 (c s : List Int) (hc : c.length < 9223372036854775807) (hs : s.length < 9223372036854775807) : ∀ (d i : Nat), c.length - i = d → i ≤ c.length →
    Ev (fun k => compositorref13_word.l0 k (i : Int) c s) ((c.drop i).all codeB && softB c.length 0 s) := by
  intro d
  induction d with
  | zero =>
    intro i hd hi
    refine Ev.step (fun k => compositorref13_word.l0.eq_2 _ _ _ _) ?_
    have hge : ¬ (i : Int) < (c.length : Int) := by omega
    simp only [if_neg hge]
    rw [List.drop_of_length_le (by omega)]
    simpa using rword_l1 c s hs s.length 0 0 (by omega) (by omega) (by omega) (by omega) (fun _ => rfl)
  | succ d ih =>
    intro i hd hi
    have hlt : i < c.length := by omega
    refine Ev.step (fun k => compositorref13_word.l0.eq_2 _ _ _ _) ?_
    rw [drop_at c i hlt]
    simp only [rd_nat c i hlt, wrap_nat i (by omega), if_pos (show (i : Int) < (c.length : Int) by omega), if_pos (show (0 : Int) ≤ (i : Int) by omega), List.all_cons, codeB]
    by_cases h1 : c[i] < 33
    · have h1' : ¬ 33 ≤ c[i] := by omega
      simp only [if_pos h1, h1', decide_false, Bool.false_and]
      exact Ev.now _
    · have h1' : 33 ≤ c[i] := by omega
      by_cases h2 : c[i] > 126
      · have h2' : ¬ c[i] ≤ 126 := by omega
        simp only [if_neg h1, if_pos h2, h2', decide_false, Bool.and_false, Bool.false_and]
        exact Ev.now _
      · have h2' : c[i] ≤ 126 := by omega
        simp only [if_neg h1, if_neg h2, h1', h2', decide_true, Bool.true_and]
        exact ih (i + 1) (by omega) (by omega)
theorem rword_f (c s : List Int) (hc : c.length < 9223372036854775807) (hs : s.length < 9223372036854775807) : Ev (fun k => compositorref13_word.f k c s) (wordB c s) := by
  have h0 : Ev (fun k => compositorref13_word.j0 k true c s) false := Ev.step (fun k => compositorref13_word.j0.eq_2 _ _ _ _) (by simp only [if_true]; exact Ev.now _)
  unfold compositorref13_word.f wordB sizeB
  by_cases h1 : (c.length : Int) < 1
  · have h1' : ¬ 1 ≤ (c.length : Int) := by omega
    simp only [if_pos h1, h1', decide_false, Bool.false_and, Bool.and_false]
    exact h0
  · have h1' : 1 ≤ (c.length : Int) := by omega
    simp only [if_neg h1, h1', decide_true, Bool.true_and]
    by_cases h2 : (c.length : Int) > 60
    · have h2' : ¬ (c.length : Int) ≤ 60 := by omega
      simp only [h2, h2', decide_true, decide_false, Bool.false_and, Bool.and_false]
      exact h0
    · have h2' : (c.length : Int) ≤ 60 := by omega
      simp only [h2, h2', decide_true, decide_false, Bool.true_and]
      refine Ev.step (fun k => compositorref13_word.j0.eq_2 _ _ _ _) ?_
      simp only [Bool.false_eq_true, if_false]
      refine Ev.eq (rword_l0 c s hc hs c.length 0 (by omega) (by omega)) ?_
      rw [List.drop_zero, Bool.and_comm]
theorem rcheck_l0 (l : List S36) (hl : l.length ≤ 100) (hc : ∀ x ∈ l, x.f0.length < 9223372036854775807) (hs : ∀ x ∈ l, x.f1.length < 9223372036854775807) : ∀ (d i n : Nat), l.length - i = d → i ≤ l.length → n ≤ 60 * i →
    Ev (fun k => compositorref13_Check.l0 k l (n : Int) (i : Int)) ((l.drop i).all okW && decide (((n + total (l.drop i) : Nat) : Int) ≤ 400)) := by
  intro d
  induction d with
  | zero =>
    intro i n hd hi hn
    refine Ev.step (fun k => compositorref13_Check.l0.eq_2 _ _ _ _) ?_
    have hge : ¬ (i : Int) < (l.length : Int) := by omega
    simp only [if_neg hge]
    rw [List.drop_of_length_le (by omega), total_nil, Nat.add_zero]
    simp only [List.all_nil, Bool.true_and]
    exact Ev.now _
  | succ d ih =>
    intro i n hd hi hn
    have hlt : i < l.length := by omega
    refine Ev.step (fun k => compositorref13_Check.l0.eq_2 _ _ _ _) ?_
    rw [drop_at l i hlt]
    simp only [rd_word l i hlt, wrap_nat i (by omega), if_pos (show (i : Int) < (l.length : Int) by omega), if_pos (show (0 : Int) ≤ (i : Int) by omega), List.all_cons, total_cons]
    refine Ev.bind (rword_f _ _ (hc _ (List.getElem_mem hlt)) (hs _ (List.getElem_mem hlt))) ?_
    show Ev _ ((okW l[i] && (l.drop (i + 1)).all okW) && _)
    cases hw : wordB l[i].f0 l[i].f1 with
    | false =>
      simp only [okW, hw, Bool.false_and, Bool.false_eq_true, if_false]
      exact Ev.now _
    | true =>
      have hb := wordB_len hw
      have e : wrap64 ((n : Int) + (l[i].f0.length : Int)) = ((n + l[i].f0.length : Nat) : Int) := by
        rw [wrap_in (by omega) (by omega)]; omega
      simp only [okW, hw, if_true, Bool.true_and, e]
      refine Ev.eq (ih (i + 1) (n + l[i].f0.length) (by omega) (by omega) (by omega)) ?_
      rw [Nat.add_assoc]
theorem rcheck_f (l : List S36) (hc : ∀ x ∈ l, x.f0.length < 9223372036854775807) (hs : ∀ x ∈ l, x.f1.length < 9223372036854775807) : Ev (fun k => compositorref13_Check.f k l) (okB l) := by
  have h0 : Ev (fun k => compositorref13_Check.j0 k l true) false := Ev.step (fun k => compositorref13_Check.j0.eq_2 _ _ _) (by simp only [if_true]; exact Ev.now _)
  unfold compositorref13_Check.f okB
  by_cases h1 : (l.length : Int) < 1
  · have h1' : ¬ 1 ≤ (l.length : Int) := by omega
    simp only [if_pos h1, h1', decide_false, Bool.false_and]
    exact h0
  · have h1' : 1 ≤ (l.length : Int) := by omega
    simp only [if_neg h1, h1', decide_true, Bool.true_and]
    by_cases h2 : (l.length : Int) > 100
    · have h2' : ¬ (l.length : Int) ≤ 100 := by omega
      simp only [h2, h2', decide_true, decide_false, Bool.false_and]
      exact h0
    · have h2' : (l.length : Int) ≤ 100 := by omega
      simp only [h2, h2', decide_true, decide_false, Bool.true_and]
      refine Ev.step (fun k => compositorref13_Check.j0.eq_2 _ _ _) ?_
      simp only [Bool.false_eq_true, if_false]
      refine Ev.eq (rcheck_l0 l (by omega) hc hs l.length 0 0 (by omega) (by omega) (by omega)) ?_
      rw [List.drop_zero, Nat.zero_add]
def fewB (l : List S36) : Bool := decide (l.length ≤ 110) && l.all fun x => decide (x.f0.length ≤ 100) && decide (x.f1.length ≤ 100)
theorem few_l0 (l : List S36) (hl : l.length ≤ 110) : ∀ (d i : Nat), l.length - i = d → i ≤ l.length →
    Ev (fun k => compositorref13_Few.l0 k l (i : Int)) ((l.drop i).all fun x => decide (x.f0.length ≤ 100) && decide (x.f1.length ≤ 100)) := by
  intro d
  induction d with
  | zero =>
    intro i hd hi
    refine Ev.step (fun k => compositorref13_Few.l0.eq_2 _ _ _) ?_
    have hge : ¬ (i : Int) < (l.length : Int) := by omega
    simp only [if_neg hge]
    rw [List.drop_of_length_le (by omega)]
    exact Ev.now _
  | succ d ih =>
    intro i hd hi
    have hlt : i < l.length := by omega
    refine Ev.step (fun k => compositorref13_Few.l0.eq_2 _ _ _) ?_
    rw [drop_at l i hlt]
    simp only [rd_word l i hlt, wrap_nat i (by omega), if_pos (show (i : Int) < (l.length : Int) by omega), if_pos (show (0 : Int) ≤ (i : Int) by omega), List.all_cons]
    by_cases h1 : (l[i].f0.length : Int) > 100
    · have h1' : ¬ l[i].f0.length ≤ 100 := by omega
      simp only [if_pos h1, h1', decide_false, Bool.false_and]
      exact Ev.now _
    · have h1' : l[i].f0.length ≤ 100 := by omega
      by_cases h2 : (l[i].f1.length : Int) > 100
      · have h2' : ¬ l[i].f1.length ≤ 100 := by omega
        simp only [if_neg h1, if_pos h2, h2', decide_false, Bool.false_and, Bool.and_false]
        exact Ev.now _
      · have h2' : l[i].f1.length ≤ 100 := by omega
        simp only [if_neg h1, if_neg h2, h1', h2', decide_true, Bool.true_and]
        exact ih (i + 1) (by omega) (by omega)
theorem few_f (l : List S36) : Ev (fun k => compositorref13_Few.f k l) (fewB l) := by
  unfold compositorref13_Few.f fewB
  by_cases h1 : (l.length : Int) > 110
  · have h1' : ¬ l.length ≤ 110 := by omega
    simp only [if_pos h1, h1', decide_false, Bool.false_and]
    exact Ev.now _
  · have h1' : l.length ≤ 110 := by omega
    simp only [if_neg h1, h1', decide_true, Bool.true_and]
    simpa using few_l0 l h1' l.length 0 (by omega) (by omega)
theorem fewB_iff {l : List S36} (h : fewB l = true) : l.length ≤ 110 ∧ ∀ x ∈ l, x.f0.length ≤ 100 ∧ x.f1.length ≤ 100 := by
  simp only [fewB, Bool.and_eq_true, decide_eq_true_eq, List.all_eq_true] at h
  exact h
theorem okB_iff {l : List S36} (h : okB l = true) : 1 ≤ l.length ∧ l.length ≤ 100 ∧ (∀ x ∈ l, wordB x.f0 x.f1 = true) ∧ total l ≤ 400 := by
  simp only [okB, okW, Bool.and_eq_true, decide_eq_true_eq, List.all_eq_true] at h
  obtain ⟨h1, h2, h3, h4⟩ := h
  exact ⟨by omega, by omega, h3, by omega⟩
end Go.Proofs.Ytanhafkoohnjhaa.L
