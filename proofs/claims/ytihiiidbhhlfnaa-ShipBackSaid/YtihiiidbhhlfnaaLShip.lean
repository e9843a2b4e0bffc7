/- Rows, whether any may be, and their bytes: plain; the program's and the reference's checks tell it. -/
import Derived.Test.YtihiiidbhhlfnaaLRef
import Derived.Test.YtihiiidbhhlfnaaLStr
import Derived.Test.YtihiiidbhhlfnaaLEv
import Derived.Test.YtihiiidbhhlfnaaGx5
import Derived.Test.YtihiiidbhhlfnaaGx16
import Derived.Test.YtihiiidbhhlfnaaGx13
namespace Go.Proofs.Ytihiiidbhhlfnaa.L
open Go.RowKit Go.Proofs.Ytihiiidbhhlfnaa.G Go.Proofs.YtihiiidbhhlfnaaW.PrintWords
set_option linter.unusedVariables false
set_option linter.unusedSimpArgs false
abbrev Item := S43
abbrev Row := S41
def wordB (n : Int) : Bool := decide (-2147483648 ≤ n) && decide (n < 2147483648)
def itemB (p : Item) : Bool := decide (0 ≤ p.f0) && (decide (p.f0 ≤ 255) && wordB p.f1)
def rowB (r : Row) : Bool := decide (-8 ≤ r.f0) && (decide (r.f0 ≤ 8) && (decide (1 ≤ r.f1) && (decide (r.f1 ≤ 5) && (wordB r.f2 && (wordB r.f3 && (decide ((r.f4.length : Int) ≤ 600) && r.f4.all itemB))))))
def okB (l : List Row) : Bool := decide ((l.length : Int) ≤ 200) && l.all rowB
def bItem (p : Item) : List Int := (p.f0 % 256) :: be (p.f1 % 4294967296) 4
def bRow (r : Row) : List Int := [(r.f0 + 8) % 256, r.f1 % 256] ++ (be (r.f2 % 4294967296) 4 ++ (be (r.f3 % 4294967296) 4 ++ (be (r.f4.length : Int) 2 ++ r.f4.flatMap bItem)))
def bRows (l : List Row) : List Int := [67, 79, (l.length : Int) % 256] ++ l.flatMap bRow
theorem be_len (n : Int) (z : Nat) : (be n z).length = z := by
  induction z with
  | zero => rfl
  | succ z ih => simp [be, ih]
theorem bItem_len (p : Item) : (bItem p).length = 5 := by simp [bItem, be_len]
theorem bItems_len (l : List Item) : (l.flatMap bItem).length = 5 * l.length := by
  induction l with
  | nil => rfl
  | cons p l ih => simp only [List.flatMap_cons, List.length_append, bItem_len, ih, List.length_cons]; omega
theorem bRow_len (r : Row) : (bRow r).length = 12 + 5 * r.f4.length := by
  simp only [bRow, List.length_append, List.length_cons, List.length_nil, be_len, bItems_len]; omega
theorem rd_row (l : List Row) (i : Nat) (h : i < l.length) : rd_T41 l (i : Int) = l[i] := getD_nat l _ i h
theorem rd_item (l : List Item) (i : Nat) (h : i < l.length) : rd_T43 l (i : Int) = l[i] := getD_nat l _ i h
theorem ite_and {c : Prop} [Decidable c] (b : Bool) : (if c then some b else some false) = some (decide c && b) := by
  by_cases h : c <;> simp [h]
theorem word_f (n : Int) : ship_word.f n = some (wordB n) := by
  unfold ship_word.f wordB
  exact ite_and _
theorem rword_f (n : Int) : compositorref23_word.f n = some (wordB n) := by
  unfold compositorref23_word.f wordB
  rw [show decide (n < 2147483648) = decide (n ≤ 2147483647) from by rw [decide_eq_decide]; omega]
  exact ite_and _
theorem item_f (p : Item) : ship_row_1.f p.f0 p.f1 = some (!itemB p) := by
  unfold ship_row_1.f itemB
  rw [word_f]
  by_cases h1 : p.f0 < 0
  · rw [if_pos h1, decide_eq_false (show ¬ 0 ≤ p.f0 by omega)]; rfl
  · rw [if_neg h1, decide_eq_true (show 0 ≤ p.f0 by omega)]
    by_cases h2 : p.f0 > 255
    · rw [if_pos h2, decide_eq_false (show ¬ p.f0 ≤ 255 by omega)]; rfl
    · rw [if_neg h2, decide_eq_true (show p.f0 ≤ 255 by omega)]; rfl
theorem any_bad (l : List Item) : ship_row_1_any.f l = some (!l.all itemB) := by
  unfold ship_row_1_any.f
  simp only [item_f, Option.isSome_some]
  rw [if_pos (by simp)]
  congr 1
  rw [Bool.eq_iff_iff]
  simp
theorem row_f (r : Row) : ship_row.f r.f0 r.f1 r.f2 r.f3 r.f4 = some (rowB r) := by
  unfold ship_row.f rowB
  simp only [word_f, any_bad, Option.bind_some, Bool.not_not, ite_and, ge_iff_le, Bool.decide_eq_true]
theorem any_row (l : List Row) : ship_Check_1_any.f l = some (!l.all rowB) := by
  have e : ∀ x : Row, ship_Check_1.f x.f0 x.f1 x.f2 x.f3 x.f4 = some (!rowB x) := by
    intro x
    unfold ship_Check_1.f
    rw [row_f]; rfl
  unfold ship_Check_1_any.f
  simp only [e, Option.isSome_some]
  rw [if_pos (by simp)]
  congr 1
  rw [Bool.eq_iff_iff]
  simp
theorem check_f (l : List Row) : ship_Check.f l = some (okB l) := by
  unfold ship_Check.f okB
  simp only [any_row, Option.bind_some, Bool.not_not, ite_and]
theorem rcheck_l1 (x0 : List Row) (i : Int) (r : Bool) (a b c d : Int) (s : List Item) (hs : (s.length : Int) ≤ 600) (hr : Ev (fun k => compositorref23_Check.l0 k x0 (wrap64 (i + 1))) r) : ∀ (m j : Nat), s.length - j = m → j ≤ s.length →
    Ev (fun k => compositorref23_Check.l1 k x0 i (j : Int) a b c d s) ((s.drop j).all itemB && r) := by
  intro m
  induction m with
  | zero =>
    intro j hd hj
    refine Ev.step (fun k => compositorref23_Check.l1.eq_2 _ _ _ _ _ _ _ _ _) ?_
    have hge : ¬ (j : Int) < (s.length : Int) := by omega
    simp only [if_neg hge]
    rw [List.drop_of_length_le (by omega)]
    exact hr
  | succ m ih =>
    intro j hd hj
    have hlt : j < s.length := by omega
    refine Ev.step (fun k => compositorref23_Check.l1.eq_2 _ _ _ _ _ _ _ _ _) ?_
    rw [drop_at s j hlt]
    simp only [rd_item s j hlt, wrap_nat j (by omega), rword_f, Option.bind_some]
    simp only [if_pos (show (0 : Int) ≤ (j : Int) by omega), if_pos (show (j : Int) < (s.length : Int) by omega), List.all_cons, itemB]
    by_cases h1 : s[j].f0 < 0
    · simp only [if_pos h1, decide_eq_false (show ¬ 0 ≤ s[j].f0 by omega), Bool.false_and]
      exact Ev.now _
    · by_cases h2 : s[j].f0 > 255
      · simp only [if_neg h1, if_pos h2, decide_eq_false (show ¬ s[j].f0 ≤ 255 by omega), Bool.false_and, Bool.and_false]
        exact Ev.now _
      · cases h3 : wordB s[j].f1
        · simp only [if_neg h1, if_neg h2, Bool.false_eq_true, if_false, Bool.and_false, Bool.false_and]
          exact Ev.now _
        · simp only [if_neg h1, if_neg h2, if_true, decide_eq_true (show 0 ≤ s[j].f0 by omega), decide_eq_true (show s[j].f0 ≤ 255 by omega), Bool.true_and]
          exact ih (j + 1) (by omega) (by omega)
theorem rcheck_l0 (l : List Row) (hl : (l.length : Int) ≤ 200) : ∀ (m i : Nat), l.length - i = m → i ≤ l.length →
    Ev (fun k => compositorref23_Check.l0 k l (i : Int)) ((l.drop i).all rowB) := by
  intro m
  induction m with
  | zero =>
    intro i hd hi
    refine Ev.step (fun k => compositorref23_Check.l0.eq_2 _ _ _) ?_
    have hge : ¬ (i : Int) < (l.length : Int) := by omega
    simp only [if_neg hge]
    rw [List.drop_of_length_le (by omega)]
    exact Ev.now _
  | succ m ih =>
    intro i hd hi
    have hlt : i < l.length := by omega
    have hn := ih (i + 1) (by omega) (by omega)
    rw [← wrap_nat i (by omega)] at hn
    refine Ev.step (fun k => compositorref23_Check.l0.eq_2 _ _ _) ?_
    rw [drop_at l i hlt]
    simp only [rd_row l i hlt, rword_f, Option.bind_some]
    simp only [if_pos (show (0 : Int) ≤ (i : Int) by omega), if_pos (show (i : Int) < (l.length : Int) by omega), List.all_cons, rowB]
    have J1 : Ev (fun k => compositorref23_Check.j1 k l (i : Int) true l[i].f0 l[i].f1 l[i].f2 l[i].f3 l[i].f4) false := by
      refine Ev.step (fun k => compositorref23_Check.j1.eq_2 _ _ _ _ _ _ _ _ _) ?_
      simp only [if_true]
      exact Ev.now _
    by_cases h1 : l[i].f0 < -8
    · simp only [if_pos h1, decide_eq_false (show ¬ -8 ≤ l[i].f0 by omega), Bool.false_and, Bool.and_false]
      exact J1
    by_cases h2 : l[i].f0 > 8
    · simp only [if_neg h1, if_pos h2, decide_eq_false (show ¬ l[i].f0 ≤ 8 by omega), Bool.false_and, Bool.and_false]
      exact J1
    by_cases h3 : l[i].f1 < 1
    · simp only [if_neg h1, if_neg h2, if_pos h3, decide_eq_false (show ¬ 1 ≤ l[i].f1 by omega), Bool.false_and, Bool.and_false]
      exact J1
    by_cases h4 : l[i].f1 > 5
    · simp only [if_neg h1, if_neg h2, if_neg h3, if_pos h4, decide_eq_false (show ¬ l[i].f1 ≤ 5 by omega), Bool.false_and, Bool.and_false]
      exact J1
    simp only [if_neg h1, if_neg h2, if_neg h3, if_neg h4]
    cases h5 : wordB l[i].f2
    · simp only [Bool.false_eq_true, if_false, Bool.false_and, Bool.and_false]
      exact J1
    cases h6 : wordB l[i].f3
    · simp only [Bool.false_eq_true, if_false, if_true, Bool.false_and, Bool.and_false]
      exact J1
    simp only [if_true]
    by_cases h7 : (l[i].f4.length : Int) > 600
    · simp only [decide_eq_true h7, decide_eq_false (show ¬ (l[i].f4.length : Int) ≤ 600 by omega), Bool.false_and, Bool.and_false]
      exact J1
    · refine Ev.step (fun k => compositorref23_Check.j1.eq_2 _ _ _ _ _ _ _ _ _) ?_
      simp only [decide_eq_false h7, Bool.false_eq_true, if_false, decide_eq_true (show -8 ≤ l[i].f0 by omega), decide_eq_true (show l[i].f0 ≤ 8 by omega), decide_eq_true (show 1 ≤ l[i].f1 by omega), decide_eq_true (show l[i].f1 ≤ 5 by omega), decide_eq_true (show (l[i].f4.length : Int) ≤ 600 by omega), Bool.true_and]
      exact rcheck_l1 l i _ _ _ _ _ l[i].f4 (by omega) hn _ 0 rfl (by omega)
theorem rcheck_f (l : List Row) : Ev (fun k => compositorref23_Check.f k l) (okB l) := by
  unfold compositorref23_Check.f okB
  by_cases h : (l.length : Int) > 200
  · simp only [if_pos h, decide_eq_false (show ¬ (l.length : Int) ≤ 200 by omega), Bool.false_and]
    exact Ev.now _
  · simp only [if_neg h, decide_eq_true (show (l.length : Int) ≤ 200 by omega), Bool.true_and]
    exact rcheck_l0 l (by omega) _ 0 rfl (by omega)
end Go.Proofs.Ytihiiidbhhlfnaa.L
