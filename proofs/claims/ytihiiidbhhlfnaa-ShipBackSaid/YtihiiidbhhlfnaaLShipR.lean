/- Few rows; which rows are too long, and which too short. -/
import Derived.Test.YtihiiidbhhlfnaaLShip
import Derived.Test.YtihiiidbhhlfnaaGx6
import Derived.Test.YtihiiidbhhlfnaaGx17
import Derived.Test.YtihiiidbhhlfnaaGx17
namespace Go.Proofs.Ytihiiidbhhlfnaa.L
open Go.RowKit Go.Proofs.Ytihiiidbhhlfnaa.G Go.Proofs.YtihiiidbhhlfnaaW.PrintWords
set_option linter.unusedVariables false
set_option linter.unusedSimpArgs false
def fewB (l : List Row) : Bool := decide ((l.length : Int) ≤ 210) && l.all fun r => decide ((r.f4.length : Int) ≤ 700)
theorem few_l0 (l : List Row) (hl : (l.length : Int) ≤ 210) : ∀ (m i : Nat), l.length - i = m → i ≤ l.length →
    Ev (fun k => compositorref23_Few.l0 k l (i : Int)) ((l.drop i).all fun r => decide ((r.f4.length : Int) ≤ 700)) := by
  intro m
  induction m with
  | zero =>
    intro i hd hi
    refine Ev.step (fun k => compositorref23_Few.l0.eq_2 _ _ _) ?_
    have hge : ¬ (i : Int) < (l.length : Int) := by omega
    simp only [if_neg hge]
    rw [List.drop_of_length_le (by omega)]
    exact Ev.now _
  | succ m ih =>
    intro i hd hi
    have hlt : i < l.length := by omega
    refine Ev.step (fun k => compositorref23_Few.l0.eq_2 _ _ _) ?_
    rw [drop_at l i hlt]
    simp only [rd_row l i hlt, wrap_nat i (by omega)]
    simp only [if_pos (show (0 : Int) ≤ (i : Int) by omega), if_pos (show (i : Int) < (l.length : Int) by omega), List.all_cons]
    by_cases h1 : (l[i].f4.length : Int) > 700
    · simp only [if_pos h1, decide_eq_false (show ¬ (l[i].f4.length : Int) ≤ 700 by omega), Bool.false_and]
      exact Ev.now _
    · simp only [if_neg h1, decide_eq_true (show (l[i].f4.length : Int) ≤ 700 by omega), Bool.true_and]
      exact ih (i + 1) (by omega) (by omega)
theorem few_f (l : List Row) : Ev (fun k => compositorref23_Few.f k l) (fewB l) := by
  unfold compositorref23_Few.f fewB
  by_cases h : (l.length : Int) > 210
  · simp only [if_pos h, decide_eq_false (show ¬ (l.length : Int) ≤ 210 by omega), Bool.false_and]
    exact Ev.now _
  · simp only [if_neg h, decide_eq_true (show (l.length : Int) ≤ 210 by omega), Bool.true_and]
    exact few_l0 l (by omega) _ 0 rfl (by omega)
theorem few_in {l : List Row} (h : fewB l = true) : l.length ≤ 210 ∧ ∀ r ∈ l, r.f4.length ≤ 700 := by
  simp only [fewB, Bool.and_eq_true, decide_eq_true_eq, List.all_eq_true] at h
  exact ⟨by omega, fun r hr => by have := h.2 r hr; omega⟩
def nums (f : Row → Bool) : Nat → List Row → List Int
  | _, [] => []
  | i, r :: l => if f r then ((i + 1 : Nat) : Int) :: nums f (i + 1) l else nums f (i + 1) l
def neg (r : Row) : Bool := decide (r.f3 < 0)
def pos (r : Row) : Bool := decide (r.f3 > 0)
def report (l : List Row) : List Int × List Int := (nums neg 0 l, nums pos 0 l)
theorem report_l0 (l : List Row) (hl : l.length ≤ 210) : ∀ (m i : Nat) (x y : List Int), l.length - i = m → i ≤ l.length → x.length ≤ i → y.length ≤ i →
    Ev (fun k => ship_Report.l0 k x y l (l.length : Int) (i : Int)) (x ++ nums neg i (l.drop i), y ++ nums pos i (l.drop i)) := by
  intro m
  induction m with
  | zero =>
    intro i x y hd hi hx hy
    refine Ev.step (fun k => ship_Report.l0.eq_2 _ _ _ _ _ _) ?_
    have hge : ¬ (i : Int) < (l.length : Int) := by omega
    simp only [if_neg hge]
    rw [List.drop_of_length_le (by omega)]
    simp only [nums, List.append_nil]
    exact Ev.now _
  | succ m ih =>
    intro i x y hd hi hx hy
    have hlt : i < l.length := by omega
    refine Ev.step (fun k => ship_Report.l0.eq_2 _ _ _ _ _ _) ?_
    rw [drop_at l i hlt]
    simp only [rd_row l i hlt, wrap_nat i (by omega)]
    simp only [if_pos (show (0 : Int) ≤ (i : Int) by omega), if_pos (show (i : Int) < (l.length : Int) by omega), nums, neg, pos]
    by_cases h1 : l[i].f3 < 0
    · have h2 : ¬ l[i].f3 > 0 := by omega
      simp only [if_pos h1, if_pos (show x.length < 17592186044416 by omega), decide_eq_true h1, decide_eq_false h2, if_true, Bool.false_eq_true, if_false]
      refine Ev.eq (ih (i + 1) _ y (by omega) (by omega) (by simp; omega) (by omega)) ?_
      simp [neg, pos]
    · by_cases h2 : l[i].f3 > 0
      · simp only [if_neg h1, if_pos h2, if_pos (show y.length < 17592186044416 by omega), decide_eq_false h1, decide_eq_true h2, if_true, Bool.false_eq_true, if_false]
        refine Ev.eq (ih (i + 1) x _ (by omega) (by omega) (by omega) (by simp; omega)) ?_
        simp [neg, pos]
      · simp only [if_neg h1, if_neg h2, decide_eq_false h1, decide_eq_false h2, Bool.false_eq_true, if_false]
        exact ih (i + 1) x y (by omega) (by omega) (by omega) (by omega)
theorem report_f (l : List Row) (hl : l.length ≤ 210) : Ev (fun k => ship_Report.f k l) (report l) := by
  unfold ship_Report.f
  exact report_l0 l hl _ 0 [] [] rfl (by omega) (by simp) (by simp)
theorem rreport_l0 (l : List Row) (hl : l.length ≤ 210) : ∀ (m i : Nat) (x y : List Int), l.length - i = m → i ≤ l.length → x.length ≤ i → y.length ≤ i →
    Ev (fun k => compositorref23_Report.l0 k l x y (i : Int)) (x ++ nums neg i (l.drop i), y ++ nums pos i (l.drop i)) := by
  intro m
  induction m with
  | zero =>
    intro i x y hd hi hx hy
    refine Ev.step (fun k => compositorref23_Report.l0.eq_2 _ _ _ _ _) ?_
    have hge : ¬ (i : Int) < (l.length : Int) := by omega
    simp only [if_neg hge]
    rw [List.drop_of_length_le (by omega)]
    simp only [nums, List.append_nil]
    exact Ev.now _
  | succ m ih =>
    intro i x y hd hi hx hy
    have hlt : i < l.length := by omega
    refine Ev.step (fun k => compositorref23_Report.l0.eq_2 _ _ _ _ _) ?_
    rw [drop_at l i hlt]
    simp only [rd_row l i hlt, wrap_nat i (by omega)]
    simp only [if_pos (show (0 : Int) ≤ (i : Int) by omega), if_pos (show (i : Int) < (l.length : Int) by omega), nums, neg, pos, Option.bind_some]
    by_cases h1 : l[i].f3 < 0
    · have h2 : ¬ l[i].f3 > 0 := by omega
      simp only [if_pos h1, if_neg h2, if_pos (show x.length < 17592186044416 by omega), decide_eq_true h1, decide_eq_false h2, if_true, Bool.false_eq_true, if_false]
      refine Ev.eq (ih (i + 1) _ y (by omega) (by omega) (by simp; omega) (by omega)) ?_
      simp [neg, pos]
    · by_cases h2 : l[i].f3 > 0
      · simp only [if_neg h1, if_pos h2, if_pos (show y.length < 17592186044416 by omega), decide_eq_false h1, decide_eq_true h2, if_true, Bool.false_eq_true, if_false]
        refine Ev.eq (ih (i + 1) x _ (by omega) (by omega) (by omega) (by simp; omega)) ?_
        simp [neg, pos]
      · simp only [if_neg h1, if_neg h2, decide_eq_false h1, decide_eq_false h2, Bool.false_eq_true, if_false]
        exact ih (i + 1) x y (by omega) (by omega) (by omega) (by omega)
theorem rreport_f (l : List Row) (hl : l.length ≤ 210) : Ev (fun k => compositorref23_Report.f k l) (report l) := by
  unfold compositorref23_Report.f
  exact rreport_l0 l hl _ 0 [] [] rfl (by omega) (by simp) (by simp)
theorem nums_len (f : Row → Bool) : ∀ (l : List Row) (i : Nat), (nums f i l).length ≤ l.length := by
  intro l
  induction l with
  | nil => intro i; simp [nums]
  | cons r l ih =>
    intro i
    have := ih (i + 1)
    simp only [nums]
    split <;> simp <;> omega
theorem same_l0 (a : List Int) (ha : a.length < 9223372036854775807) : ∀ (m i : Nat), a.length - i = m → i ≤ a.length → Ev (fun k => compositorref04_Same.l0 k a a (i : Int)) true := by
  intro m
  induction m with
  | zero =>
    intro i hd hi
    refine Ev.step (fun k => compositorref04_Same.l0.eq_2 _ _ _ _) ?_
    have hge : ¬ (i : Int) < (a.length : Int) := by omega
    simp only [if_neg hge]
    exact Ev.now _
  | succ m ih =>
    intro i hd hi
    have hlt : i < a.length := by omega
    refine Ev.step (fun k => compositorref04_Same.l0.eq_2 _ _ _ _) ?_
    simp only [wrap_nat i (by omega)]
    simp only [if_pos (show (0 : Int) ≤ (i : Int) by omega), if_pos (show (i : Int) < (a.length : Int) by omega), if_true]
    exact ih (i + 1) (by omega) (by omega)
theorem same_f (a : List Int) (ha : a.length < 9223372036854775807) : Ev (fun k => compositorref04_Same.f k a a) true := by
  unfold compositorref04_Same.f
  simp only [if_true]
  exact same_l0 a ha _ 0 rfl (by omega)
end Go.Proofs.Ytihiiidbhhlfnaa.L
