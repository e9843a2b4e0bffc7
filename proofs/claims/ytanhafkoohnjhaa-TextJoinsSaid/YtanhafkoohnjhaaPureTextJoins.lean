/- The words of two texts, one behind the other, are those of both, if these may be together, and the text of the first words is what the text of all begins with (at most two thousand bytes each). -/
import Derived.Test.YtanhafkoohnjhaaLWrite
import Derived.Test.YtanhafkoohnjhaaLAwake
import Derived.Test.YtanhafkoohnjhaaGStTextJoins
namespace Go.Proofs.Ytanhafkoohnjhaa.Pure
open Go.RowKit Go.Proofs.Ytanhafkoohnjhaa.G Go.Proofs.Ytanhafkoohnjhaa.L Go.Proofs.YtanhafkoohnjhaaW.PrintWords Go.Proofs.YtanhafkoohnjhaaW.PrintLast Go.Proofs.YtanhafkoohnjhaaW.PrintMore
set_option linter.unusedVariables false
set_option linter.unusedSimpArgs false
theorem tail_app (a b : List S36) : tailV (a ++ b) = tailV a ++ tailV b := by
  induction a with
  | nil => rfl
  | cons x a ih => rw [List.cons_append, tailV, ih, tailV]; simp
theorem write_app (a b : List S36) (h : a ≠ []) : writeV (a ++ b) = writeV a ++ tailV b := by
  cases a with
  | nil => exact absurd rfl h
  | cons x a => rw [List.cons_append, writeV, tail_app, writeV, List.append_assoc]
theorem total_app (a b : List S36) : total (a ++ b) = total a + total b := by simp [total]
theorem ok_take {l : List S36} (h : okB l = true) (K : Nat) (h1 : 1 ≤ K) : okB (l.take K) = true := by
  have h2 := okB_iff h
  have h3 := total_app (l.take K) (l.drop K)
  rw [List.take_append_drop] at h3
  have h4 : (l.take K).all okW = true := by
    rw [List.all_eq_true]
    exact fun x hx => okB_all h x (List.mem_of_mem_take hx)
  unfold okB
  simp only [h4, Bool.true_and, List.length_take, Bool.and_eq_true, decide_eq_true_eq]
  omega
theorem joins_k (x2 : Int) (h : 0 ≤ x2 ∧ x2 < 256) (L : Nat) (h1 : 1 ≤ L) (h2 : L ≤ 100) : ∃ K : Nat, 1 ≤ K ∧ K ≤ L ∧ wrap64 (1 + Int.tmod (wrap64 x2) (mx (L : Int) 1)) = (K : Int) ∧ mx (L : Int) 1 ≠ 0 := by
  have e : mx (L : Int) 1 = (L : Int) := by unfold mx; omega
  rw [e, wrap_in (n := x2) (by omega) (by omega), Int.tmod_eq_emod_of_nonneg h.1]
  have h3 := Int.emod_nonneg x2 (show (L : Int) ≠ 0 by omega)
  have h4 := Int.emod_lt_of_pos x2 (show (0 : Int) < (L : Int) by omega)
  rw [wrap_in (by omega) (by omega)]
  exact ⟨(1 + x2 % (L : Int)).toNat, by omega, by omega, by omega, by omega⟩
theorem joins_j1 (x2 : Int) (h2 : 0 ≤ x2 ∧ x2 < 256) (l m : List S36) (hl : okB l = true) (hm : okB m = true) :
    Ev (fun k => compositorlaw13_TextJoins.j1 k x2 true l m (if okB (l ++ m) = true then (l ++ m, (0 : Int)) else ([], 130)).1 (if okB (l ++ m) = true then (l ++ m, (0 : Int)) else ([], 130)).2 false) true := by
  have sl := small_of_ok hl
  have sm := small_of_ok hm
  have hs : ∀ x ∈ l ++ m, x.f0.length ≤ 60 ∧ x.f1.length ≤ 60 := by
    intro x hx
    rcases List.mem_append.1 hx with hx | hx
    · exact sl.2 x hx
    · exact sm.2 x hx
  refine Ev.step (fun k => compositorlaw13_TextJoins.j1.eq_2 _ _ _ _ _ _ _ _) ?_
  simp only [Bool.false_eq_true, if_false, Option.bind_some, List.nil_append, List.length_nil, Nat.zero_add, if_pos (show l.length < 2932031007402 by omega), if_pos (show l.length + m.length < 2932031007402 by omega)]
  cases ho : okB (l ++ m) with
  | false =>
    simp only [Bool.false_eq_true, if_false, show ¬ (130 : Int) = 0 by decide, if_true]
    refine Ev.bind (check_f (l ++ m) (by rw [List.length_append]; omega) (fun x hx => by have := hs x hx; omega)) ?_
    rw [ho]
    exact Ev.now _
  | true =>
    have hob := okB_iff ho
    obtain ⟨K, hK1, hK2, hK, hmx⟩ := joins_k x2 h2 (l ++ m).length hob.1 hob.2.1
    simp only [if_true, if_neg hmx, hK, if_neg (show ¬ (K : Int) > ((l ++ m).length : Int) by omega), if_pos (show (0 : Int) ≤ (K : Int) by omega), if_pos (show (K : Int) ≤ ((l ++ m).length : Int) by omega), Int.toNat_natCast]
    have hot := ok_take ho K hK1
    have sth := small_of_ok hot
    have hw1 : writtenV ((l ++ m).take K) = (writeV ((l ++ m).take K), 0) := by unfold writtenV; rw [hot]; rfl
    have hw2 : writtenV (l ++ m) = (writeV (l ++ m), 0) := by unfold writtenV; rw [ho]; rfl
    refine Ev.bind (write_f _ (by omega) (fun x hx => by have := sth.2 x hx; omega)) ?_
    refine Ev.bind (write_f _ (by omega) (fun x hx => by have := hs x hx; omega)) ?_
    rw [hw1, hw2]
    simp only [if_true]
    have hsplit : writeV (l ++ m) = writeV ((l ++ m).take K) ++ tailV ((l ++ m).drop K) := by
      rw [← write_app _ _ (by intro e; have := congrArg List.length e; rw [List.length_take, List.length_nil] at this; omega), List.take_append_drop]
    have hle : ¬ (((writeV ((l ++ m).take K)).length : Int) > ((writeV (l ++ m)).length : Int)) := by
      have := congrArg List.length hsplit
      rw [List.length_append] at this
      omega
    rw [decide_eq_false hle]
    refine Ev.step (fun k => compositorlaw13_TextJoins.j2.eq_2 _ _ _ _ _ _ _) ?_
    simp only [Bool.false_eq_true, if_false, if_true]
    refine Ev.bind (check_f (l ++ m) (by omega) (fun x hx => by have := hs x hx; omega)) ?_
    rw [ho]
    simp only [if_true]
    refine Ev.bind (same13 _ (by omega) (fun x hx => by have := hs x hx; omega)) ?_
    simp only [if_true, if_pos (show (0 : Int) ≤ ((writeV ((l ++ m).take K)).length : Int) by omega), if_pos (show ((writeV ((l ++ m).take K)).length : Int) ≤ ((writeV (l ++ m)).length : Int) by omega), Int.toNat_natCast]
    have htk : (writeV (l ++ m)).take (writeV ((l ++ m).take K)).length = writeV ((l ++ m).take K) := by rw [hsplit, List.take_left']; rfl
    rw [htk]
    simp only [BEq.rfl]
    exact Ev.now _
theorem joins_out (x2 : Int) (x8 x10 x12 : List S36) (x13 : Int) (h : (x8.length : Int) * (x10.length : Int) = 0) : Ev (fun k => compositorlaw13_TextJoins.j1 k x2 true x8 x10 x12 x13 true) true := by
  refine Ev.step (fun k => compositorlaw13_TextJoins.j1.eq_2 _ _ _ _ _ _ _ _) ?_
  simp only [if_true, h]
  exact Ev.eq (Ev.now _) (by rw [wrap_in (by decide) (by decide)]; rfl)
theorem TextJoins : compositorlaw13_TextJoins.Pure := by
  intro l0 l1 a2 h0 h1 h2
  have h2' : 0 ≤ a2 ∧ a2 < 256 := bytes_of (l := [a2]) (fun y hy => by rw [List.mem_singleton.1 hy]; exact h2) a2 (by simp)
  refine Ev.rounds (g := fun k => compositorlaw13_TextJoins.f k l0 l1 a2) ?_
  unfold compositorlaw13_TextJoins.f
  refine Ev.bind awake_ev ?_
  have out : Ev (fun k => compositorlaw13_TextJoins.j0 k l0 l1 a2 true true) true := by
    refine Ev.step (fun k => compositorlaw13_TextJoins.j0.eq_2 _ _ _ _ _ _) ?_
    simp only [if_true]
    exact Ev.now _
  by_cases hl0 : (l0.length : Int) > 2000
  · simp only [if_pos hl0]; exact out
  · simp only [if_neg hl0]
    by_cases hl1 : (l1.length : Int) > 2000
    · simp only [decide_eq_true hl1]; exact out
    · simp only [decide_eq_false hl1]
      have hb0 := bytes_of h0.2.2
      have hb1 := bytes_of h1.2.2
      refine Ev.step (fun k => compositorlaw13_TextJoins.j0.eq_2 _ _ _ _ _ _) ?_
      simp only [Bool.false_eq_true, if_false]
      refine Ev.bind (read_f l0 hb0 (by omega)) ?_
      refine Ev.bind (read_f l1 hb1 (by omega)) ?_
      have hlen : (l0 ++ [32]).length = l0.length + 1 := by simp
      simp only [Option.bind_some, List.nil_append, List.length_nil, Nat.zero_add, if_pos (show l0.length < 140737488355328 by omega), hlen, if_pos (show l0.length + 1 + l1.length < 140737488355328 by omega)]
      have hb : Bytes ((l0 ++ [32]) ++ l1) := by
        intro x hx
        rcases List.mem_append.1 hx with hx | hx
        · rcases List.mem_append.1 hx with hx | hx
          · exact hb0 x hx
          · rw [List.mem_singleton.1 hx]; exact ⟨by decide, by decide⟩
        · exact hb1 x hx
      refine Ev.bind (read_f _ hb (by rw [List.length_append, hlen]; omega)) ?_
      rcases readV_cases l0 with hA | ⟨hA0, hA1, hA2⟩
      · rw [hA]
        simp only [show ¬ (130 : Int) = 0 by decide, if_false]
        exact joins_out a2 _ _ _ _ (by simp)
      · simp only [if_pos hA0]
        rcases readV_cases l1 with hB | ⟨hB0, hB1, hB2⟩
        · rw [hB]
          exact joins_out a2 _ _ _ _ (by simp)
        · rw [hB0]
          have hr : readV ((l0 ++ [32]) ++ l1) = if okB ((readV l0).1 ++ (readV l1).1) = true then ((readV l0).1 ++ (readV l1).1, 0) else ([], 130) := by
            conv => lhs; unfold readV
            rw [List.append_assoc, List.singleton_append, all_app l0 (by decide), parseAll_app, hA2, hB2]
            rfl
          rw [hr]
          exact joins_j1 a2 h2' _ _ hA1 hB1
end Go.Proofs.Ytanhafkoohnjhaa.Pure
