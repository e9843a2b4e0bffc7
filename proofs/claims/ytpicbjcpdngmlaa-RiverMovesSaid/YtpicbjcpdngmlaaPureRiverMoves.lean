/- Rows that are moved alike have as many rivers, and each gap as long as it was (at most three hundred items a row, at most 2^40 off). -/
import Derived.Test.YtpicbjcpdngmlaaLRRef
import Derived.Test.YtpicbjcpdngmlaaLAwake
import Derived.Test.YtpicbjcpdngmlaaGStRiverMoves
namespace Go.Proofs.Ytpicbjcpdngmlaa.Pure
open Go.RowKit Go.Proofs.Ytpicbjcpdngmlaa.G Go.Proofs.Ytpicbjcpdngmlaa.L Go.Proofs.YtpicbjcpdngmlaaW.PrintWords Go.Proofs.YtpicbjcpdngmlaaW.PrintLast Go.Proofs.YtpicbjcpdngmlaaW.PrintMore
set_option linter.unusedVariables false
set_option linter.unusedSimpArgs false
abbrev R24 := S24
abbrev near (x : Int) : Prop := -1099511627776 ≤ x ∧ x ≤ 1099511627776
theorem shift_snoc (y : Int) (l : List I33) (i : Nat) (h : i < l.length) : shift y (l.take i) ++ [(⟨l[i].f0, l[i].f1 + y⟩ : I33)] = shift y (l.take (i + 1)) := by
  rw [List.take_succ_eq_append_getElem h]
  unfold shift
  rw [List.map_append]
  rfl
theorem moves_l1_far (a b : R24) (hb : b.f4.length ≤ 300) (y : Int) (o1 : List I33) (e1 e2 : Int) : ∀ (d i : Nat) (o : List I33), b.f4.length - i ≤ d → i ≤ b.f4.length → o.length = i →
    Ev (fun k => compositorlaw20_RiverMoves.l1 k y true true (i : Int) a.f0 a.f1 a.f2 a.f3 a.f4 b.f0 b.f1 b.f2 b.f3 b.f4 0 0 e1 0 o1 0 0 e2 0 o) true := by
  intro d
  have done : ∀ (i : Nat) (o : List I33), i = b.f4.length → Ev (fun k => compositorlaw20_RiverMoves.l1 k y true true (i : Int) a.f0 a.f1 a.f2 a.f3 a.f4 b.f0 b.f1 b.f2 b.f3 b.f4 0 0 e1 0 o1 0 0 e2 0 o) true := by
    intro i o hi
    subst hi
    refine Ev.step (fun k => compositorlaw20_RiverMoves.l1.eq_2 _ _ _ _ _ _ _ _ _ _ _ _ _ _ _ _ _ _ _ _ _ _ _ _ _) ?_
    simp only [if_neg (show ¬ ((b.f4.length : Nat) : Int) < (b.f4.length : Int) by omega), if_true]
    exact Ev.now _
  induction d with
  | zero => intro i o hd hi ho; exact done i o (by omega)
  | succ d ih =>
    intro i o hd hi ho
    by_cases hlt : i < b.f4.length
    · refine Ev.step (fun k => compositorlaw20_RiverMoves.l1.eq_2 _ _ _ _ _ _ _ _ _ _ _ _ _ _ _ _ _ _ _ _ _ _ _ _ _) ?_
      simp only [if_pos (show (i : Int) < (b.f4.length : Int) by omega), if_true, if_pos (show (0 : Int) ≤ (i : Int) by omega), if_pos (show o.length < 8796093022208 by omega), wrap_nat i (by omega)]
      exact ih (i + 1) _ (by omega) (by omega) (by simp [ho])
    · exact done i o (by omega)
theorem moves_l0_far (a b : R24) (ha : a.f4.length ≤ 300) (hb : b.f4.length ≤ 300) (y : Int) (e1 e2 : Int) : ∀ (d i : Nat) (o : List I33), a.f4.length - i ≤ d → i ≤ a.f4.length → o.length = i →
    Ev (fun k => compositorlaw20_RiverMoves.l0 k y true true (i : Int) a.f0 a.f1 a.f2 a.f3 a.f4 b.f0 b.f1 b.f2 b.f3 b.f4 0 0 e1 0 o 0 0 e2 0) true := by
  intro d
  have done : ∀ (i : Nat) (o : List I33), i = a.f4.length → Ev (fun k => compositorlaw20_RiverMoves.l0 k y true true (i : Int) a.f0 a.f1 a.f2 a.f3 a.f4 b.f0 b.f1 b.f2 b.f3 b.f4 0 0 e1 0 o 0 0 e2 0) true := by
    intro i o hi
    subst hi
    refine Ev.step (fun k => compositorlaw20_RiverMoves.l0.eq_2 _ _ _ _ _ _ _ _ _ _ _ _ _ _ _ _ _ _ _ _ _ _ _ _) ?_
    simp only [if_neg (show ¬ ((a.f4.length : Nat) : Int) < (a.f4.length : Int) by omega)]
    exact moves_l1_far a b hb y o e1 e2 b.f4.length 0 [] (by omega) (by omega) rfl
  induction d with
  | zero => intro i o hd hi ho; exact done i o (by omega)
  | succ d ih =>
    intro i o hd hi ho
    by_cases hlt : i < a.f4.length
    · refine Ev.step (fun k => compositorlaw20_RiverMoves.l0.eq_2 _ _ _ _ _ _ _ _ _ _ _ _ _ _ _ _ _ _ _ _ _ _ _ _) ?_
      simp only [if_pos (show (i : Int) < (a.f4.length : Int) by omega), if_true, if_pos (show (0 : Int) ≤ (i : Int) by omega), if_pos (show o.length < 8796093022208 by omega), wrap_nat i (by omega)]
      exact ih (i + 1) _ (by omega) (by omega) (by simp [ho])
    · exact done i o (by omega)
theorem moves_j1_far (a b : R24) (ha : a.f4.length ≤ 300) (hb : b.f4.length ≤ 300) (y : Int) (e1 e2 : Int) : Ev (fun k => compositorlaw20_RiverMoves.j1 k y true true a.f0 a.f1 a.f2 a.f3 a.f4 b.f0 b.f1 b.f2 b.f3 b.f4 0 0 e1 0 0 0 e2 0) true := by
  refine Ev.step (fun k => compositorlaw20_RiverMoves.j1.eq_2 _ _ _ _ _ _ _ _ _ _ _ _ _ _ _ _ _ _ _ _ _ _) ?_
  exact moves_l0_far a b ha hb y e1 e2 a.f4.length 0 [] (by omega) (by omega) rfl
section
variable (a b : R24) (ha : a.f4.length ≤ 300) (hb : b.f4.length ≤ 300) (y : Int) (hy : -2147483648 ≤ y ∧ y ≤ 2147483647)
include ha hb hy
theorem moves_l2 (hA : near a.f2) (hAi : ∀ x ∈ a.f4, near x.f1) : ∀ (d i : Nat), (fwd a.f4 a.f2).length - i ≤ d → i ≤ (fwd a.f4 a.f2).length →
    Ev (fun k => compositorlaw20_RiverMoves.l2 k y true ((fwd a.f4 a.f2).map mk2) ((fwd (shift y a.f4) (a.f2 + y)).map mk2) (i : Int) a.f0 a.f1 a.f2 a.f3 a.f4 b.f0 b.f1 b.f2 b.f3 b.f4 0 0 (a.f2 + y) 0 (shift y a.f4) 0 0 (b.f2 + y) 0 (shift y b.f4)) true := by
  intro d
  have hs1 : (shift y a.f4).length ≤ 400 := by unfold shift; simp; omega
  have hs2 : (shift y b.f4).length ≤ 400 := by unfold shift; simp; omega
  have done : ∀ i : Nat, i = (fwd a.f4 a.f2).length → Ev (fun k => compositorlaw20_RiverMoves.l2 k y true ((fwd a.f4 a.f2).map mk2) ((fwd (shift y a.f4) (a.f2 + y)).map mk2) (i : Int) a.f0 a.f1 a.f2 a.f3 a.f4 b.f0 b.f1 b.f2 b.f3 b.f4 0 0 (a.f2 + y) 0 (shift y a.f4) 0 0 (b.f2 + y) 0 (shift y b.f4)) true := by
    intro i hi
    subst hi
    refine Ev.step (fun k => compositorlaw20_RiverMoves.l2.eq_2 _ _ _ _ _ _ _ _ _ _ _ _ _ _ _ _ _ _ _ _ _ _ _ _ _ _) ?_
    simp only [List.length_map, if_neg (show ¬ (((fwd a.f4 a.f2).length : Nat) : Int) < ((fwd a.f4 a.f2).length : Int) by omega), if_true]
    rw [count_f _ _ _ _ _ _ _ _ _ _ (by omega) (by omega), count_f _ _ _ _ _ _ _ _ _ _ hs1 hs2, fwd_shift, fwd_shift, cnt_shift]
    simp only [Option.bind_some, beq_self_eq_true]
    exact Ev.now _
  induction d with
  | zero => intro i hd hi; exact done i (by omega)
  | succ d ih =>
    intro i hd hi
    by_cases hlt : i < (fwd a.f4 a.f2).length
    · have hfl := fwd_len a.f4 a.f2
      have hsl : (fwd (shift y a.f4) (a.f2 + y)).length = (fwd a.f4 a.f2).length := by rw [fwd_shift, List.length_map]
      have hg := fwd_within _ _ a.f4 a.f2 hA hAi (fwd a.f4 a.f2)[i] (List.getElem_mem hlt)
      have e : (fwd (shift y a.f4) (a.f2 + y))[i]'(by omega) = ((fwd a.f4 a.f2)[i].1 + y, (fwd a.f4 a.f2)[i].2 + y) := by simp only [fwd_shift, List.getElem_map]
      refine Ev.step (fun k => compositorlaw20_RiverMoves.l2.eq_2 _ _ _ _ _ _ _ _ _ _ _ _ _ _ _ _ _ _ _ _ _ _ _ _ _ _) ?_
      simp only [List.length_map, hsl, if_pos (show (i : Int) < ((fwd a.f4 a.f2).length : Int) by omega), if_pos (show (0 : Int) ≤ (i : Int) by omega), rd_mk2 (fwd a.f4 a.f2) i hlt, rd_mk2 (fwd (shift y a.f4) (a.f2 + y)) i (by omega), wrap_nat i (by omega), wrap_in (n := y) (by omega) (by omega), e]
      have w1 : wrap64 ((mk2 (fwd a.f4 a.f2)[i]).f0 + y) = (mk2 ((fwd a.f4 a.f2)[i].1 + y, (fwd a.f4 a.f2)[i].2 + y)).f0 := by
        show wrap64 ((fwd a.f4 a.f2)[i].1 + y) = (fwd a.f4 a.f2)[i].1 + y
        exact wrap_in (by omega) (by omega)
      have w2 : wrap64 ((mk2 (fwd a.f4 a.f2)[i]).f1 + y) = (mk2 ((fwd a.f4 a.f2)[i].1 + y, (fwd a.f4 a.f2)[i].2 + y)).f1 := by
        show wrap64 ((fwd a.f4 a.f2)[i].2 + y) = (fwd a.f4 a.f2)[i].2 + y
        exact wrap_in (by omega) (by omega)
      simp only [if_pos w1, if_pos w2]
      exact ih (i + 1) (by omega) (by omega)
    · exact done i (by omega)
theorem moves_l1 (hA : near a.f2) (hAi : ∀ x ∈ a.f4, near x.f1) : ∀ (d i : Nat), b.f4.length - i ≤ d → i ≤ b.f4.length →
    Ev (fun k => compositorlaw20_RiverMoves.l1 k y true false (i : Int) a.f0 a.f1 a.f2 a.f3 a.f4 b.f0 b.f1 b.f2 b.f3 b.f4 0 0 (a.f2 + y) 0 (shift y a.f4) 0 0 (b.f2 + y) 0 (shift y (b.f4.take i))) true := by
  intro d
  have done : ∀ (i : Nat), i = b.f4.length → Ev (fun k => compositorlaw20_RiverMoves.l1 k y true false (i : Int) a.f0 a.f1 a.f2 a.f3 a.f4 b.f0 b.f1 b.f2 b.f3 b.f4 0 0 (a.f2 + y) 0 (shift y a.f4) 0 0 (b.f2 + y) 0 (shift y (b.f4.take i))) true := by
    intro i hi
    subst hi
    rw [List.take_length]
    refine Ev.step (fun k => compositorlaw20_RiverMoves.l1.eq_2 _ _ _ _ _ _ _ _ _ _ _ _ _ _ _ _ _ _ _ _ _ _ _ _ _) ?_
    simp only [if_neg (show ¬ ((b.f4.length : Nat) : Int) < (b.f4.length : Int) by omega), Bool.false_eq_true, if_false]
    refine Ev.bind (gaps_f a.f0 a.f1 a.f2 a.f3 a.f4 (by omega)) ?_
    refine Ev.bind (gaps_f 0 0 (a.f2 + y) 0 (shift y a.f4) (by unfold shift; simp; omega)) ?_
    have e : ((((fwd a.f4 a.f2).map mk2).length : Nat) : Int) = ((((fwd (shift y a.f4) (a.f2 + y)).map mk2).length : Nat) : Int) := by simp [fwd_shift]
    simp only [if_pos e]
    exact moves_l2 a b ha hb y hy hA hAi (fwd a.f4 a.f2).length 0 (by omega) (by omega)
  induction d with
  | zero => intro i hd hi; exact done i (by omega)
  | succ d ih =>
    intro i hd hi
    by_cases hlt : i < b.f4.length
    · have ho : (shift y (b.f4.take i)).length = i := by unfold shift; simp; omega
      refine Ev.step (fun k => compositorlaw20_RiverMoves.l1.eq_2 _ _ _ _ _ _ _ _ _ _ _ _ _ _ _ _ _ _ _ _ _ _ _ _ _) ?_
      simp only [if_pos (show (i : Int) < (b.f4.length : Int) by omega), Bool.false_eq_true, if_false, if_pos (show (0 : Int) ≤ (i : Int) by omega), if_pos (show (shift y (b.f4.take i)).length < 8796093022208 by omega), wrap_nat i (by omega), rdP b.f4 i hlt]
      by_cases h1 : b.f4[i].f1 > 1099511627776
      · simp only [if_pos h1]
        exact moves_l1_far a b hb y _ _ _ d (i + 1) _ (by omega) (by omega) (by simp [ho])
      · simp only [if_neg h1]
        by_cases h2 : b.f4[i].f1 < -1099511627776
        · simp only [decide_eq_true h2]
          exact moves_l1_far a b hb y _ _ _ d (i + 1) _ (by omega) (by omega) (by simp [ho])
        · simp only [decide_eq_false h2, wrap_in (n := y) (by omega) (by omega), wrap_in (n := b.f4[i].f1 + y) (by omega) (by omega)]
          rw [shift_snoc y b.f4 i hlt]
          exact ih (i + 1) (by omega) (by omega)
    · exact done i (by omega)
theorem moves_l0 (hA : near a.f2) : ∀ (d i : Nat), a.f4.length - i ≤ d → i ≤ a.f4.length → (∀ x ∈ a.f4.take i, near x.f1) →
    Ev (fun k => compositorlaw20_RiverMoves.l0 k y true false (i : Int) a.f0 a.f1 a.f2 a.f3 a.f4 b.f0 b.f1 b.f2 b.f3 b.f4 0 0 (a.f2 + y) 0 (shift y (a.f4.take i)) 0 0 (b.f2 + y) 0) true := by
  intro d
  have done : ∀ (i : Nat), i = a.f4.length → (∀ x ∈ a.f4.take i, near x.f1) → Ev (fun k => compositorlaw20_RiverMoves.l0 k y true false (i : Int) a.f0 a.f1 a.f2 a.f3 a.f4 b.f0 b.f1 b.f2 b.f3 b.f4 0 0 (a.f2 + y) 0 (shift y (a.f4.take i)) 0 0 (b.f2 + y) 0) true := by
    intro i hi hx
    subst hi
    rw [List.take_length] at hx ⊢
    refine Ev.step (fun k => compositorlaw20_RiverMoves.l0.eq_2 _ _ _ _ _ _ _ _ _ _ _ _ _ _ _ _ _ _ _ _ _ _ _ _) ?_
    simp only [if_neg (show ¬ ((a.f4.length : Nat) : Int) < (a.f4.length : Int) by omega)]
    exact moves_l1 a b ha hb y hy hA hx b.f4.length 0 (by omega) (by omega)
  induction d with
  | zero => intro i hd hi hx; exact done i (by omega) hx
  | succ d ih =>
    intro i hd hi hx
    by_cases hlt : i < a.f4.length
    · have ho : (shift y (a.f4.take i)).length = i := by unfold shift; simp; omega
      refine Ev.step (fun k => compositorlaw20_RiverMoves.l0.eq_2 _ _ _ _ _ _ _ _ _ _ _ _ _ _ _ _ _ _ _ _ _ _ _ _) ?_
      simp only [if_pos (show (i : Int) < (a.f4.length : Int) by omega), Bool.false_eq_true, if_false, if_pos (show (0 : Int) ≤ (i : Int) by omega), if_pos (show (shift y (a.f4.take i)).length < 8796093022208 by omega), wrap_nat i (by omega), rdP a.f4 i hlt]
      by_cases h1 : a.f4[i].f1 > 1099511627776
      · simp only [if_pos h1]
        exact moves_l0_far a b ha hb y _ _ d (i + 1) _ (by omega) (by omega) (by simp [ho])
      · simp only [if_neg h1]
        by_cases h2 : a.f4[i].f1 < -1099511627776
        · simp only [decide_eq_true h2]
          exact moves_l0_far a b ha hb y _ _ d (i + 1) _ (by omega) (by omega) (by simp [ho])
        · simp only [decide_eq_false h2, wrap_in (n := y) (by omega) (by omega), wrap_in (n := a.f4[i].f1 + y) (by omega) (by omega)]
          rw [shift_snoc y a.f4 i hlt]
          refine ih (i + 1) (by omega) (by omega) (fun x hx2 => ?_)
          rw [List.take_succ_eq_append_getElem hlt] at hx2
          rcases List.mem_append.1 hx2 with hx2 | hx2
          · exact hx x hx2
          · obtain rfl := List.mem_singleton.1 hx2
            exact ⟨by omega, by omega⟩
    · exact done i (by omega) hx
theorem moves_j1 (hA : near a.f2) : Ev (fun k => compositorlaw20_RiverMoves.j1 k y true false a.f0 a.f1 a.f2 a.f3 a.f4 b.f0 b.f1 b.f2 b.f3 b.f4 0 0 (a.f2 + y) 0 0 0 (b.f2 + y) 0) true := by
  refine Ev.step (fun k => compositorlaw20_RiverMoves.j1.eq_2 _ _ _ _ _ _ _ _ _ _ _ _ _ _ _ _ _ _ _ _ _ _) ?_
  exact moves_l0 a b ha hb y hy hA a.f4.length 0 (by omega) (by omega) (fun x hx => by simp at hx)
end
theorem moves_j0 (a b : R24) (y : Int) : Ev (fun k => compositorlaw20_RiverMoves.j0 k y true true a.f0 a.f1 a.f2 a.f3 a.f4 b.f0 b.f1 b.f2 b.f3 b.f4) true := by
  refine Ev.step (fun k => compositorlaw20_RiverMoves.j0.eq_2 _ _ _ _ _ _ _ _ _ _ _ _ _ _) ?_
  simp only [if_true]
  exact Ev.now _
theorem RiverMoves : compositorlaw20_RiverMoves.Pure := by
  intro a b y _ _ hy
  have hy' : -2147483648 ≤ y ∧ y ≤ 2147483647 := by
    have h1 : IntKind.i32.min = -2147483648 := by decide
    have h2 : IntKind.i32.max = 2147483647 := by decide
    simp only [Lit.wf, Bool.and_eq_true, decide_eq_true_eq, h1, h2] at hy
    omega
  refine Ev.rounds (g := fun k => compositorlaw20_RiverMoves.f k a.f0 a.f1 a.f2 a.f3 a.f4 b.f0 b.f1 b.f2 b.f3 b.f4 y) ?_
  unfold compositorlaw20_RiverMoves.f
  refine Ev.bind awake_ev ?_
  simp only [few_v, Option.bind_some, decide_eq_true_eq]
  by_cases ha : (a.f4.length : Int) ≤ 300
  · simp only [if_pos ha]
    by_cases hb : (b.f4.length : Int) ≤ 300
    · simp only [decide_eq_true hb, Bool.not_true]
      refine Ev.step (fun k => compositorlaw20_RiverMoves.j0.eq_2 _ _ _ _ _ _ _ _ _ _ _ _ _ _) ?_
      simp only [Bool.false_eq_true, if_false]
      by_cases c1 : a.f2 > 1099511627776
      · simp only [if_pos c1]
        exact moves_j1_far a b (by omega) (by omega) y _ _
      · simp only [if_neg c1]
        by_cases c2 : a.f2 < -1099511627776
        · simp only [if_pos c2]
          exact moves_j1_far a b (by omega) (by omega) y _ _
        · simp only [if_neg c2]
          by_cases c3 : b.f2 > 1099511627776
          · simp only [if_pos c3]
            exact moves_j1_far a b (by omega) (by omega) y _ _
          · simp only [if_neg c3]
            by_cases c4 : b.f2 < -1099511627776
            · simp only [decide_eq_true c4]
              exact moves_j1_far a b (by omega) (by omega) y _ _
            · simp only [decide_eq_false c4, wrap_in (n := y) (by omega) (by omega), wrap_in (n := a.f2 + y) (by omega) (by omega), wrap_in (n := b.f2 + y) (by omega) (by omega)]
              exact moves_j1 a b (by omega) (by omega) y hy' ⟨by omega, by omega⟩
    · simp only [decide_eq_false hb, Bool.not_false]
      exact moves_j0 a b y
  · simp only [if_neg ha]
    exact moves_j0 a b y
end Go.Proofs.Ytpicbjcpdngmlaa.Pure
