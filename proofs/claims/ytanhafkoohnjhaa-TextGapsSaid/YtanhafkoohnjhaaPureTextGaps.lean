/- It does not matter how many gaps stand between words, and ahead, and behind (at most fifty words of a hundred codes). -/
import Derived.Test.YtanhafkoohnjhaaLWrite
import Derived.Test.YtanhafkoohnjhaaLAwake
import Derived.Test.YtanhafkoohnjhaaGStTextGaps
namespace Go.Proofs.Ytanhafkoohnjhaa.Pure
open Go.RowKit Go.Proofs.Ytanhafkoohnjhaa.G Go.Proofs.Ytanhafkoohnjhaa.L Go.Proofs.YtanhafkoohnjhaaW.PrintWords Go.Proofs.YtanhafkoohnjhaaW.PrintLast Go.Proofs.YtanhafkoohnjhaaW.PrintMore
set_option linter.unusedVariables false
set_option linter.unusedSimpArgs false
def GapEnd (acc : List Int) : Prop := acc = [] ∨ ∃ a g, acc = a ++ [g] ∧ gapB g = true
theorem all_snoc_gap (a : List Int) {g : Int} (h : gapB g = true) : text_words_2.all (a ++ [g]) = text_words_2.all a := by
  rw [all_app a h]
  show _ ++ [] = _
  rw [List.append_nil]
theorem all_snoc_word {acc : List Int} (h : GapEnd acc) {x : S36} (hx : okW x = true) : text_words_2.all (acc ++ wb x) = text_words_2.all acc ++ [wb x] := by
  have h1 := all_one (wb x) (wb_ne hx) (fun b hb => (wb_mem hx b hb).1)
  rcases h with rfl | ⟨a, g, rfl, hg⟩
  · rw [List.nil_append, h1]
    rfl
  · rw [List.append_assoc, List.singleton_append, all_app a hg, h1, all_snoc_gap a hg]
theorem ok_one (x : S36) : okB [x] = okW x := by
  cases h : okW x with
  | false => exact okB_no (x := x) (by simp) h
  | true =>
    have := (okW_iff h).2.2
    unfold okB
    simp only [List.length_cons, List.length_nil, List.all_cons, List.all_nil, h, Bool.and_self, Bool.true_and, total_cons, total_nil, Bool.and_eq_true, decide_eq_true_eq]
    omega
theorem gaps_l1 (l : List S36) (l1 : List Int) (i n : Nat) (hn : 1 ≤ n) (hn3 : n ≤ 3) (A : List Int) (b : Nat)
    (H : ∀ acc, GapEnd acc → text_words_2.all acc = text_words_2.all A → Bytes acc → acc.length ≤ b + n → Ev (fun k => compositorlaw13_TextGaps.l0 k l l1 true acc (wrap64 ((i : Int) + 1))) true) :
    ∀ (d j : Nat) (acc : List Int), n - j = d → j ≤ n → (j = 0 ∨ GapEnd acc) → text_words_2.all acc = text_words_2.all A → Bytes acc → acc.length ≤ b + j → b ≤ 100000 →
    Ev (fun k => compositorlaw13_TextGaps.l1 k l l1 true acc (i : Int) (n : Int) (j : Int)) true := by
  intro d
  induction d with
  | zero =>
    intro j acc hd hj hg ha hb hl hb0
    obtain rfl : j = n := by omega
    refine Ev.step (fun k => compositorlaw13_TextGaps.l1.eq_2 _ _ _ _ _ _ _ _) ?_
    simp only [if_neg (show ¬ (j : Int) < (j : Int) by omega)]
    exact H acc (hg.resolve_left (by omega)) ha hb hl
  | succ d ih =>
    intro j acc hd hj hg ha hb hl hb0
    refine Ev.step (fun k => compositorlaw13_TextGaps.l1.eq_2 _ _ _ _ _ _ _ _) ?_
    have step : ∀ g : Int, gapB g = true → 0 ≤ g ∧ g < 256 → Ev (fun k => compositorlaw13_TextGaps.l1 k l l1 true (acc ++ [g]) (i : Int) (n : Int) ((j + 1 : Nat) : Int)) true := by
      intro g h1 h2
      refine ih (j + 1) _ (by omega) (by omega) (.inr (.inr ⟨acc, g, rfl, h1⟩)) (by rw [all_snoc_gap acc h1, ha]) ?_ (by simp; omega) hb0
      intro x hx
      rcases List.mem_append.1 hx with hx | hx
      · exact hb x hx
      · rw [List.mem_singleton.1 hx]; exact h2
    simp only [if_pos (show (j : Int) < (n : Int) by omega), if_pos (show acc.length < 140737488355328 by omega), wrap_nat j (by omega)]
    by_cases h0 : Int.tmod (wrap64 ((i : Int) + (j : Int))) 4 = 0
    · simp only [if_pos h0]; exact step 32 (by decide) (by decide)
    · by_cases h1 : Int.tmod (wrap64 ((i : Int) + (j : Int))) 4 = 1
      · simp only [if_neg h0, if_pos h1]; exact step 10 (by decide) (by decide)
      · by_cases h2 : Int.tmod (wrap64 ((i : Int) + (j : Int))) 4 = 2
        · simp only [if_neg h0, if_neg h1, if_pos h2]; exact step 9 (by decide) (by decide)
        · simp only [if_neg h0, if_neg h1, if_neg h2]; exact step 13 (by decide) (by decide)
theorem gaps_n (b : Int) (h : 0 ≤ b ∧ b < 256) : ∃ n : Nat, 1 ≤ n ∧ n ≤ 3 ∧ wrap64 (1 + wrap64 (Int.tmod b 3)) = (n : Int) := by
  rw [Int.tmod_eq_emod_of_nonneg h.1, wrap_in (n := b % 3) (by omega) (by omega), wrap_in (by omega) (by omega)]
  exact ⟨(1 + b % 3).toNat, by omega, by omega, by omega⟩
theorem gaps_l0 (l : List S36) (l1 : List Int) (hl : l.length ≤ 50) (hw : ∀ x ∈ l, x.f0.length ≤ 100 ∧ x.f1.length ≤ 100) (hb1 : Bytes l1) : ∀ (d i : Nat) (acc : List Int), l.length - i ≤ d → i ≤ l.length → GapEnd acc → text_words_2.all acc = (l.take i).map wb → (∀ x ∈ l.take i, okW x = true) → Bytes acc → acc.length ≤ 400 * i →
    Ev (fun k => compositorlaw13_TextGaps.l0 k l l1 true acc (i : Int)) true := by
  have hs : ∀ x ∈ l, x.f1.length < 9223372036854775807 := fun x hx => by have := hw x hx; omega
  have fin : ∀ acc : List Int, text_words_2.all acc = l.map wb → (∀ x ∈ l, okW x = true) → Bytes acc → acc.length ≤ 100000 → Ev (fun k => compositorlaw13_TextGaps.l0 k l l1 true acc (l.length : Int)) true := by
    intro acc ha hok hb hla
    refine Ev.step (fun k => compositorlaw13_TextGaps.l0.eq_2 _ _ _ _ _ _) ?_
    simp only [if_neg (show ¬ ((l.length : Nat) : Int) < (l.length : Int) by omega), Option.bind_some, if_pos (show ([32, 10] : List Int).length + acc.length < 140737488355328 by simp; omega)]
    have hb2 : Bytes ([32, 10] ++ acc) := by
      intro x hx
      rcases List.mem_append.1 hx with hx | hx
      · simp only [List.mem_cons, List.not_mem_nil, or_false] at hx
        omega
      · exact hb x hx
    refine Ev.bind (read_f _ hb2 (by simp; omega)) ?_
    have hr : readV ([32, 10] ++ acc) = if okB l = true then (l, 0) else ([], 130) := by
      unfold readV
      rw [List.cons_append, List.cons_append, List.nil_append, all_gap (by decide), all_gap (by decide), ha, parseAll_wb l hok]
    rw [hr]
    cases ho : okB l with
    | true =>
      simp only [if_true]
      refine Ev.bind (same13 l (by omega) (fun x hx => by have := hw x hx; omega)) ?_
      refine Ev.bind (check_f l (by omega) hs) ?_
      rw [ho]
      simp only [BEq.rfl, if_true]
      exact Ev.now _
    | false =>
      simp only [Bool.false_eq_true, if_false]
      refine Ev.bind (same_nil l) ?_
      refine Ev.bind (check_f l (by omega) hs) ?_
      rw [ho]
      simp only [show (((130 : Int) == 0) == false) = true by decide, if_true, show ¬ (130 : Int) = 0 by decide, if_false]
      exact Ev.now _
  intro d
  induction d with
  | zero =>
    intro i acc hd hi hg ha hok hb hla
    obtain rfl : i = l.length := by omega
    rw [List.take_length] at ha hok
    exact fin acc ha hok hb (by omega)
  | succ d ih =>
    intro i acc hd hi hg ha hok hb hla
    by_cases hlt : i < l.length
    · refine Ev.step (fun k => compositorlaw13_TextGaps.l0.eq_2 _ _ _ _ _ _) ?_
      have hcut : (l.take (i + 1)).drop i = [l[i]] := by
        rw [List.drop_take, show i + 1 - i = 1 by omega, List.drop_eq_getElem_cons hlt]
        rfl
      have hx := hw l[i] (List.getElem_mem hlt)
      simp only [if_pos (show (i : Int) < (l.length : Int) by omega), if_pos (show (0 : Int) ≤ (i : Int) by omega), wrap_nat i (by omega), if_pos (show (i : Int) ≤ ((i + 1 : Nat) : Int) by omega), if_pos (show ((i + 1 : Nat) : Int) ≤ (l.length : Int) by omega), Int.toNat_natCast, hcut]
      refine Ev.bind (write_f [l[i]] (by simp) (fun x hxm => by rw [List.mem_singleton.1 hxm]; omega)) ?_
      cases ho : okW l[i] with
      | false =>
        have hwv : writtenV [l[i]] = ([], 130) := by unfold writtenV; rw [ok_one, ho]; rfl
        rw [hwv]
        simp only [show ¬ (130 : Int) = 0 by decide, if_false]
        exact Ev.now _
      | true =>
        have hwv : writtenV [l[i]] = (wb l[i], 0) := by
          unfold writtenV
          rw [ok_one, ho, if_pos rfl]
          simp [writeV, tailV]
        have hwl := wb_len ho
        have hwc := (okW_iff ho).2.2.2
        have hws := okW_soft ho
        rw [hwv]
        simp only [if_true, if_pos (show acc.length + (wb l[i]).length < 140737488355328 by omega), Option.bind_some]
        have htake : l.take (i + 1) = l.take i ++ [l[i]] := List.take_succ_eq_append_getElem hlt
        have hok2 : ∀ x ∈ l.take (i + 1), okW x = true := by
          intro x hxm
          rw [htake] at hxm
          rcases List.mem_append.1 hxm with hxm | hxm
          · exact hok x hxm
          · rw [List.mem_singleton.1 hxm]; exact ho
        have hall : text_words_2.all (acc ++ wb l[i]) = (l.take (i + 1)).map wb := by
          rw [all_snoc_word hg ho, ha, htake, List.map_append]
          rfl
        have hb2 : Bytes (acc ++ wb l[i]) := by
          intro x hxm
          rcases List.mem_append.1 hxm with hxm | hxm
          · exact hb x hxm
          · exact (wb_mem ho x hxm).2
        have go : ∀ n : Nat, 1 ≤ n → n ≤ 3 → Ev (fun k => compositorlaw13_TextGaps.j2 k l l1 true (acc ++ wb l[i]) (i : Int) (n : Int)) true := by
          intro n h1 h3
          refine Ev.step (fun k => compositorlaw13_TextGaps.j2.eq_2 _ _ _ _ _ _ _) ?_
          refine gaps_l1 l l1 i n h1 h3 (acc ++ wb l[i]) (acc.length + 190) ?_ n 0 _ (by omega) (by omega) (.inl rfl) rfl hb2 (by simp; omega) (by omega)
          intro acc' hg' ha' hb' hl'
          rw [wrap_nat i (by omega)]
          exact ih (i + 1) acc' (by omega) (by omega) hg' (by rw [ha', hall]) hok2 hb' (by omega)
        by_cases h1 : i < l1.length
        · obtain ⟨n, hn1, hn3, hn⟩ := gaps_n l1[i] (hb1 _ (List.getElem_mem h1))
          simp only [if_pos (show (i : Int) < (l1.length : Int) by omega), rd_nat l1 i h1]
          rw [hn]
          exact go n hn1 hn3
        · simp only [if_neg (show ¬ (i : Int) < (l1.length : Int) by omega)]
          exact go 1 (by omega) (by omega)
    · obtain rfl : i = l.length := by omega
      rw [List.take_length] at ha hok
      exact fin acc ha hok hb (by omega)
theorem TextGaps : compositorlaw13_TextGaps.Pure := by
  intro l0 l1 _ h1
  refine Ev.rounds (g := fun k => compositorlaw13_TextGaps.f k l0 l1) ?_
  unfold compositorlaw13_TextGaps.f
  refine Ev.bind awake_ev ?_
  refine Ev.bind (few_f l0) ?_
  have out : Ev (fun k => compositorlaw13_TextGaps.j0 k l0 l1 true true) true := by
    refine Ev.step (fun k => compositorlaw13_TextGaps.j0.eq_2 _ _ _ _ _) ?_
    simp only [if_true]
    exact Ev.now _
  cases hf : fewB l0 with
  | false =>
    simp only [Bool.false_eq_true, if_false]
    exact out
  | true =>
    have h := fewB_iff hf
    simp only [if_true]
    by_cases h5 : (l0.length : Int) > 50
    · simp only [if_pos h5]; exact out
    · simp only [if_neg h5]
      by_cases h6 : (l1.length : Int) > 60
      · simp only [decide_eq_true h6]; exact out
      · simp only [decide_eq_false h6]
        refine Ev.step (fun k => compositorlaw13_TextGaps.j0.eq_2 _ _ _ _ _) ?_
        simp only [Bool.false_eq_true, if_false]
        exact gaps_l0 l0 l1 (by omega) h.2 (bytes_of h1.2.2) l0.length 0 [] (by omega) (by omega) (.inl rfl) rfl (fun x hx => by cases hx) (fun x hx => by cases hx) (by simp)
end Go.Proofs.Ytanhafkoohnjhaa.Pure
