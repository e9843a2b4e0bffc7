/- Gaps and rivers: what the program counts, in plain words. -/
import Derived.Test.YtpicbjcpdngmlaaGx5
import Derived.Test.YtpicbjcpdngmlaaGx8
import Derived.Test.YtpicbjcpdngmlaaGx2
import Derived.Test.YtpicbjcpdngmlaaGx7
import Derived.Test.YtpicbjcpdngmlaaLEv
namespace Go.Proofs.Ytpicbjcpdngmlaa.L
open Go.RowKit Go.Proofs.Ytpicbjcpdngmlaa.G Go.Proofs.YtpicbjcpdngmlaaW.PrintWords Go.Proofs.YtpicbjcpdngmlaaW.PrintLast Go.Proofs.YtpicbjcpdngmlaaW.PrintMore
set_option linter.unusedVariables false
set_option linter.unusedSimpArgs false
abbrev I33 := S33
/-- Where the next item begins. -/
def nxt : List I33 → Int → Int
  | [], e => e
  | y :: _, _ => y.f1
/-- The gaps, from the first one on. -/
def fwd : List I33 → Int → List (Int × Int)
  | [], _ => []
  | x :: l, e => (if x.f0 = 32 then [(x.f1, nxt l e)] else []) ++ fwd l e
def gOf : List I33 → Int → List (Int × Int)
  | [], _ => []
  | x :: l, e => (if x.f0 = 32 then [(x.f1, e)] else []) ++ gOf l x.f1
def eOf : List I33 → Int → Int
  | [], e => e
  | x :: l, _ => eOf l x.f1
theorem gapsOf_g (xs : List (Nat × I33)) : ∀ e, river_gaps_1.gapsOf xs e = gOf (xs.map (·.2)) e := by
  induction xs with
  | nil => intro e; rfl
  | cons x xs ih => intro e; rw [river_gaps_1.gapsOf, List.map_cons, gOf, ih]
theorem all_items (l : List I33) : (api_Placed_1.all l).map (·.2) = l.reverse := by
  rw [api_Placed_1.all, List.map_reverse, List.map_map]
  congr 1
  exact List.zipIdx_map_fst 0 l
theorem gOf_app (l m : List I33) : ∀ e, gOf (l ++ m) e = gOf l e ++ gOf m (eOf l e) := by
  induction l with
  | nil => intro e; rfl
  | cons x l ih => intro e; rw [List.cons_append, gOf, gOf, ih, eOf, List.append_assoc]
theorem eOf_app (l m : List I33) : ∀ e, eOf (l ++ m) e = eOf m (eOf l e) := by
  induction l with
  | nil => intro e; rfl
  | cons x l ih => intro e; rw [List.cons_append, eOf, eOf, ih]
theorem eOf_rev (l : List I33) (e : Int) : eOf l.reverse e = nxt l e := by
  cases l with
  | nil => rfl
  | cons x l => rw [List.reverse_cons, eOf_app]; rfl
theorem gOf_rev (l : List I33) (e : Int) : gOf l.reverse e = (fwd l e).reverse := by
  induction l with
  | nil => rfl
  | cons x l ih =>
    rw [List.reverse_cons, gOf_app, ih, eOf_rev, fwd, List.reverse_append]
    congr 1
    rw [gOf, gOf, List.append_nil]
    split <;> rfl
theorem gaps_rev (l : List I33) (e : Int) : river_gaps_1.gapsOf (api_Placed_1.all l) e = (fwd l e).reverse := by
  rw [gapsOf_g, all_items, gOf_rev]
theorem fwd_len (l : List I33) (e : Int) : (fwd l e).length ≤ l.length := by
  induction l with
  | nil => exact Nat.le_refl _
  | cons x l ih =>
    rw [fwd, List.length_append, List.length_cons]
    split <;> simp <;> omega
abbrev mk2 : Int × Int → S36 := slices_AppendSeq_2_int_2_int.mk2
/-! #### Reverse -/
theorem rd2 (l : List S36) (i : Nat) (h : i < l.length) : rd_T36 l (i : Int) = l[i] := getD_nat l _ i h
theorem rev_l0 (l : List S36) (hl : l.length < 9223372036854775807) : ∀ (d i : Nat) (x : List S36), l.length - 2 * i ≤ d → 2 * i ≤ l.length + 1 → x.length = l.length → (∀ m, m < l.length → x[m]? = if m < i ∨ l.length - i ≤ m then l[l.length - 1 - m]? else l[m]?) →
    Ev (fun k => slices_Reverse_2_int_2_int.l0 k x (i : Int) ((l.length : Int) - 1 - (i : Int))) l.reverse := by
  intro d
  have done : ∀ (i : Nat) (x : List S36), 2 * i ≤ l.length + 1 → l.length ≤ 2 * i + 1 → x.length = l.length → (∀ m, m < l.length → x[m]? = if m < i ∨ l.length - i ≤ m then l[l.length - 1 - m]? else l[m]?) → Ev (fun k => slices_Reverse_2_int_2_int.l0 k x (i : Int) ((l.length : Int) - 1 - (i : Int))) l.reverse := by
    intro i x h1 h2 hx hm
    refine Ev.step (fun k => slices_Reverse_2_int_2_int.l0.eq_2 _ _ _ _) ?_
    simp only [if_neg (show ¬ (i : Int) < (l.length : Int) - 1 - (i : Int) by omega)]
    have e : x = l.reverse := by
      apply List.ext_getElem?
      intro m
      by_cases hlt : m < l.length
      · rw [hm m hlt, List.getElem?_reverse hlt]
        split
        · rfl
        · rename_i hn
          congr 1
          omega
      · rw [List.getElem?_eq_none (by omega), List.getElem?_eq_none (by simp; omega)]
    rw [e]
    exact Ev.now _
  induction d with
  | zero => intro i x hd hi hx hm; exact done i x hi (by omega) hx hm
  | succ d ih =>
    intro i x hd hi hx hm
    by_cases hlt : 2 * i + 1 < l.length
    · have hj : (l.length : Int) - 1 - (i : Int) = ((l.length - 1 - i : Nat) : Int) := by omega
      refine Ev.step (fun k => slices_Reverse_2_int_2_int.l0.eq_2 _ _ _ _) ?_
      rw [hj]
      have hli : i < x.length := by omega
      have hlj : l.length - 1 - i < x.length := by omega
      simp only [if_pos (show (i : Int) < ((l.length - 1 - i : Nat) : Int) by omega), if_pos (show (0 : Int) ≤ ((l.length - 1 - i : Nat) : Int) by omega), if_pos (show ((l.length - 1 - i : Nat) : Int) < (x.length : Int) by omega), if_pos (show (0 : Int) ≤ (i : Int) by omega), if_pos (show (i : Int) < (x.length : Int) by omega), rd2 x i hli, rd2 x _ hlj, wrap_nat i (by omega), wrap_in (n := ((l.length - 1 - i : Nat) : Int) - 1) (by omega) (by omega), Int.toNat_natCast]
      have hk := ih (i + 1) ((x.set i x[l.length - 1 - i]).set (l.length - 1 - i) x[i]) (by omega) (by omega) (by simp [hx]) (fun m hml => ?_)
      · rw [show (l.length : Int) - 1 - ((i + 1 : Nat) : Int) = ((l.length - 1 - i : Nat) : Int) - 1 by omega] at hk
        exact hk
      · have hxi : x[i]? = l[i]? := by rw [hm i (by omega), if_neg (by omega)]
        have hxj : x[l.length - 1 - i]? = l[l.length - 1 - i]? := by rw [hm _ (by omega), if_neg (by omega)]
        rw [List.getElem?_set, List.getElem?_set]
        by_cases e1 : l.length - 1 - i = m
        · rw [if_pos e1, if_pos (by simp; omega), if_pos (by omega), ← List.getElem?_eq_getElem hli, hxi]
          congr 1
          omega
        · rw [if_neg e1]
          by_cases e2 : i = m
          · rw [if_pos e2, if_pos (by omega), if_pos (by omega), ← List.getElem?_eq_getElem hlj, hxj]
            congr 1
            omega
          · rw [if_neg e2, hm m hml]
            by_cases hc : m < i ∨ l.length - i ≤ m
            · rw [if_pos hc, if_pos (by omega)]
            · rw [if_neg hc, if_neg (by omega)]
    · exact done i x hi (by omega) hx hm
theorem rev_f (l : List S36) (hl : l.length < 1000000000000) : Ev (fun k => slices_Reverse_2_int_2_int.f k l) l.reverse := by
  unfold slices_Reverse_2_int_2_int.f
  have h := rev_l0 l (by omega) l.length 0 l (by omega) (by omega) rfl (fun m hm => by rw [if_neg (by omega)])
  rw [wrap_in (by omega) (by omega)]
  simpa using h
theorem gaps_f (a0 a1 a2 a3 : Int) (l : List I33) (hl : l.length < 1000000000000) : Ev (fun k => river_Gaps.f k a0 a1 a2 a3 l) ((fwd l a2).map mk2) := by
  unfold river_Gaps.f
  simp only [if_pos hl, gaps_rev]
  have h := rev_f ((fwd l a2).reverse.map mk2) (by have := fwd_len l a2; simp; omega)
  rwa [← List.map_reverse, List.reverse_reverse] at h
/-! #### Pairs -/
def ov (x y : Int × Int) : Bool := decide (max x.1 y.1 < min x.2 y.2)
theorem ov_comm (x y : Int × Int) : ov x y = ov y x := by unfold ov; rw [Int.max_comm, Int.min_comm]
def cnt (xs ys : List (Int × Int)) : Nat := (xs.map (fun x => ys.countP (ov x))).sum
theorem cnt_nil (ys : List (Int × Int)) : cnt [] ys = 0 := rfl
theorem cnt_cons (x : Int × Int) (xs ys : List (Int × Int)) : cnt (x :: xs) ys = ys.countP (ov x) + cnt xs ys := by simp [cnt]
theorem cnt_app (xs zs ys : List (Int × Int)) : cnt (xs ++ zs) ys = cnt xs ys + cnt zs ys := by simp [cnt]
theorem cnt_snd_nil (xs : List (Int × Int)) : cnt xs [] = 0 := by
  induction xs with
  | nil => rfl
  | cons x xs ih => rw [cnt_cons, ih]; rfl
theorem cnt_snd_cons (xs : List (Int × Int)) (y : Int × Int) (ys : List (Int × Int)) : cnt xs (y :: ys) = xs.countP (ov y) + cnt xs ys := by
  induction xs with
  | nil => rfl
  | cons x xs ih =>
    rw [cnt_cons, cnt_cons, ih, List.countP_cons, List.countP_cons, ov_comm x y]
    omega
theorem cnt_comm (xs ys : List (Int × Int)) : cnt xs ys = cnt ys xs := by
  induction xs with
  | nil => rw [cnt_nil, cnt_snd_nil]
  | cons x xs ih => rw [cnt_cons, cnt_snd_cons, ih]
theorem cnt_rev (xs ys : List (Int × Int)) : cnt xs.reverse ys.reverse = cnt xs ys := by
  have h1 : ∀ ys : List (Int × Int), cnt xs.reverse ys = cnt xs ys := fun ys => by
    unfold cnt
    rw [List.map_reverse, List.sum_reverse]
  rw [h1, cnt_comm, cnt_comm xs ys]
  unfold cnt
  rw [List.map_reverse, List.sum_reverse]
theorem cnt_le (xs ys : List (Int × Int)) : cnt xs ys ≤ xs.length * ys.length := by
  induction xs with
  | nil => simp [cnt_nil]
  | cons x xs ih =>
    rw [cnt_cons, List.length_cons, Nat.succ_mul]
    have := List.countP_le_length (p := ov x) (l := ys)
    omega
theorem fold_one (x : Int × Int) (ys : List (Int × Int)) : ∀ (n : Nat), n + ys.length < 9223372036854775807 → ys.foldl (river_Count.one x) (n : Int) = ((n + ys.countP (ov x) : Nat) : Int) := by
  induction ys with
  | nil => intro n _; rfl
  | cons y ys ih =>
    intro n hn
    rw [List.length_cons] at hn
    rw [List.foldl_cons, river_Count.one, List.countP_cons]
    by_cases h : max x.1 y.1 < min x.2 y.2
    · rw [if_pos h, wrap_nat n (by omega), ih (n + 1) (by omega), if_pos (show ov x y = true by unfold ov; exact decide_eq_true h)]
      congr 1
      omega
    · rw [if_neg h, ih n (by omega), if_neg (show ¬ ov x y = true by unfold ov; simpa using h)]
      simp
theorem fold_all (ys : List (Int × Int)) (xs : List (Int × Int)) : ∀ (n : Nat), n + xs.length * ys.length + ys.length < 9223372036854775807 → xs.foldl (fun n x => ys.foldl (river_Count.one x) n) (n : Int) = ((n + cnt xs ys : Nat) : Int) := by
  induction xs with
  | nil => intro n _; rfl
  | cons x xs ih =>
    intro n hn
    rw [List.length_cons, Nat.succ_mul] at hn
    have h1 := List.countP_le_length (p := ov x) (l := ys)
    rw [List.foldl_cons, fold_one x ys n (by omega), ih _ (by omega), cnt_cons]
    congr 1
    omega
theorem count_v (l m : List I33) (e1 e2 : Int) (hl : l.length ≤ 400) (hm : m.length ≤ 400) : river_Count.all (river_gaps_1.gapsOf (api_Placed_1.all l) e1) (river_gaps_1.gapsOf (api_Placed_1.all m) e2) = ((cnt (fwd l e1) (fwd m e2) : Nat) : Int) := by
  rw [gaps_rev, gaps_rev, river_Count.all]
  have h1 := fwd_len l e1
  have h2 := fwd_len m e2
  have h3 : (fwd l e1).length * (fwd m e2).length ≤ 400 * 400 := Nat.mul_le_mul (by omega) (by omega)
  have h := fold_all (fwd m e2).reverse (fwd l e1).reverse 0 (by simp only [List.length_reverse]; omega)
  rw [cnt_rev, Nat.zero_add] at h
  exact h
theorem count_f (a0 a1 a2 a3 b0 b1 b2 b3 : Int) (l m : List I33) (hl : l.length ≤ 400) (hm : m.length ≤ 400) : river_Count.f a0 a1 a2 a3 l b0 b1 b2 b3 m = some ((cnt (fwd l a2) (fwd m b2) : Nat) : Int) := by
  unfold river_Count.f
  rw [count_v l m a2 b2 hl hm]
/-! #### Moved rows -/
def shift (d : Int) (l : List I33) : List I33 := l.map (fun x => ⟨x.f0, x.f1 + d⟩)
theorem nxt_shift (d : Int) (l : List I33) (e : Int) : nxt (shift d l) (e + d) = nxt l e + d := by cases l <;> rfl
theorem fwd_shift (d : Int) (l : List I33) (e : Int) : fwd (shift d l) (e + d) = (fwd l e).map (fun g => (g.1 + d, g.2 + d)) := by
  induction l with
  | nil => rfl
  | cons x l ih =>
    show fwd (⟨x.f0, x.f1 + d⟩ :: shift d l) (e + d) = _
    rw [fwd, ih, fwd, List.map_append, nxt_shift]
    congr 1
    split <;> rfl
theorem ov_shift (d : Int) (x y : Int × Int) : ov (x.1 + d, x.2 + d) (y.1 + d, y.2 + d) = ov x y := by
  unfold ov
  simp only [decide_eq_decide]
  omega
theorem cnt_shift (d : Int) (xs ys : List (Int × Int)) : cnt (xs.map (fun g => (g.1 + d, g.2 + d))) (ys.map (fun g => (g.1 + d, g.2 + d))) = cnt xs ys := by
  unfold cnt
  rw [List.map_map]
  congr 1
  apply List.map_congr_left
  intro x _
  show (ys.map _).countP _ = _
  rw [List.countP_map]
  congr 1
  funext y
  exact ov_shift d x y
theorem fwd_within (p q : Int) (l : List I33) (e : Int) (he : p ≤ e ∧ e ≤ q) (hl : ∀ x ∈ l, p ≤ x.f1 ∧ x.f1 ≤ q) : ∀ g ∈ fwd l e, (p ≤ g.1 ∧ g.1 ≤ q) ∧ p ≤ g.2 ∧ g.2 ≤ q := by
  induction l with
  | nil => intro g hg; cases hg
  | cons x l ih =>
    intro g hg
    rw [fwd] at hg
    rcases List.mem_append.1 hg with hg | hg
    · split at hg
      · obtain rfl := List.mem_singleton.1 hg
        refine ⟨hl x (by simp), ?_⟩
        cases l with
        | nil => exact he
        | cons y l => exact hl y (by simp)
      · cases hg
    · exact ih (fun y hy => hl y (by simp [hy])) g hg
theorem cnt_apart (m : Int) (xs ys : List (Int × Int)) (hx : ∀ g ∈ xs, g.2 ≤ m) (hy : ∀ g ∈ ys, m ≤ g.1) : cnt xs ys = 0 := by
  induction xs with
  | nil => rfl
  | cons x xs ih =>
    rw [cnt_cons, ih (fun g hg => hx g (by simp [hg])), Nat.add_zero, List.countP_eq_zero]
    intro y hyy
    have h1 := hx x (by simp)
    have h2 := hy y hyy
    unfold ov
    simp only [decide_eq_true_eq]
    omega
end Go.Proofs.Ytpicbjcpdngmlaa.L
