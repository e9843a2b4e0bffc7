/- The document's gaps and rivers are the program's. -/
import Derived.Test.YtpicbjcpdngmlaaLRiver
namespace Go.Proofs.Ytpicbjcpdngmlaa.L
open Go.RowKit Go.Proofs.Ytpicbjcpdngmlaa.G Go.Proofs.YtpicbjcpdngmlaaW.PrintWords Go.Proofs.YtpicbjcpdngmlaaW.PrintLast Go.Proofs.YtpicbjcpdngmlaaW.PrintMore
set_option linter.unusedVariables false
set_option linter.unusedSimpArgs false
theorem rdP (l : List I33) (i : Nat) (h : i < l.length) : rd_T33 l (i : Int) = l[i] := getD_nat l _ i h
theorem nxt_drop (l : List I33) (i : Nat) (e : Int) : nxt (l.drop i) e = if h : i < l.length then l[i].f1 else e := by
  by_cases h : i < l.length
  · rw [dif_pos h, List.drop_eq_getElem_cons h]; rfl
  · rw [dif_neg h, List.drop_of_length_le (by omega)]; rfl
theorem rgaps_l0 (a0 a1 a2 a3 : Int) (l : List I33) (hl : l.length ≤ 400) : ∀ (d i : Nat) (o : List S36), l.length - i ≤ d → i ≤ l.length → o.length ≤ i → Ev (fun k => compositorref20_Gaps.l0 k o (i : Int) a0 a1 a2 a3 l) (o ++ (fwd (l.drop i) a2).map mk2) := by
  intro d
  have done : ∀ (i : Nat) (o : List S36), i = l.length → Ev (fun k => compositorref20_Gaps.l0 k o (i : Int) a0 a1 a2 a3 l) (o ++ (fwd (l.drop i) a2).map mk2) := by
    intro i o hi
    subst hi
    refine Ev.step (fun k => compositorref20_Gaps.l0.eq_2 _ _ _ _ _ _ _ _) ?_
    simp only [if_neg (show ¬ ((l.length : Nat) : Int) < (l.length : Int) by omega), List.drop_length]
    have e : o ++ (fwd [] a2).map mk2 = o := by simp [fwd]
    rw [e]
    exact Ev.now _
  induction d with
  | zero => intro i o hd hi ho; exact done i o (by omega)
  | succ d ih =>
    intro i o hd hi ho
    by_cases hlt : i < l.length
    · refine Ev.step (fun k => compositorref20_Gaps.l0.eq_2 _ _ _ _ _ _ _ _) ?_
      have hd2 := drop_at l i hlt
      simp only [if_pos (show (i : Int) < (l.length : Int) by omega), if_pos (show (0 : Int) ≤ (i : Int) by omega), rdP l i hlt, wrap_nat i (by omega)]
      rw [hd2, fwd, nxt_drop l (i + 1) a2]
      by_cases h32 : l[i].f0 = 32
      · simp only [if_pos h32]
        by_cases hn : i + 1 < l.length
        · simp only [if_pos (show ((i + 1 : Nat) : Int) < (l.length : Int) by omega), if_pos (show (0 : Int) ≤ ((i + 1 : Nat) : Int) by omega), if_pos (show o.length < 8796093022208 by omega), rdP l (i + 1) hn, dif_pos hn]
          have := ih (i + 1) (o ++ [mk2 (l[i].f1, l[i + 1].f1)]) (by omega) (by omega) (by simp; omega)
          rw [List.append_assoc] at this
          exact this
        · simp only [if_neg (show ¬ ((i + 1 : Nat) : Int) < (l.length : Int) by omega), if_pos (show o.length < 8796093022208 by omega), dif_neg hn]
          have := ih (i + 1) (o ++ [mk2 (l[i].f1, a2)]) (by omega) (by omega) (by simp; omega)
          rw [List.append_assoc] at this
          exact this
      · simp only [if_neg h32, List.nil_append]
        exact ih (i + 1) o (by omega) (by omega) (by omega)
    · exact done i o (by omega)
theorem rgaps_f (a0 a1 a2 a3 : Int) (l : List I33) (hl : l.length ≤ 400) : Ev (fun k => compositorref20_Gaps.f k a0 a1 a2 a3 l) ((fwd l a2).map mk2) := by
  have h := rgaps_l0 a0 a1 a2 a3 l hl l.length 0 [] (by omega) (by omega) (by simp)
  rw [List.drop_zero, List.nil_append] at h
  exact h
theorem same_l0 (l : List S36) (hl : l.length ≤ 400) : ∀ (d i : Nat), l.length - i ≤ d → i ≤ l.length → Ev (fun k => compositorref20_Same.l0 k l l (i : Int)) true := by
  intro d
  have done : ∀ i : Nat, i = l.length → Ev (fun k => compositorref20_Same.l0 k l l (i : Int)) true := by
    intro i hi
    subst hi
    refine Ev.step (fun k => compositorref20_Same.l0.eq_2 _ _ _ _) ?_
    simp only [if_neg (show ¬ ((l.length : Nat) : Int) < (l.length : Int) by omega)]
    exact Ev.now _
  induction d with
  | zero => intro i hd hi; exact done i (by omega)
  | succ d ih =>
    intro i hd hi
    by_cases hlt : i < l.length
    · refine Ev.step (fun k => compositorref20_Same.l0.eq_2 _ _ _ _) ?_
      simp only [if_pos (show (i : Int) < (l.length : Int) by omega), if_pos (show (0 : Int) ≤ (i : Int) by omega), wrap_nat i (by omega), beq_self_eq_true, Bool.not_true, Bool.or_false, Bool.false_eq_true, if_false]
      exact ih (i + 1) (by omega) (by omega)
    · exact done i (by omega)
theorem same_f (l : List S36) (hl : l.length ≤ 400) : Ev (fun k => compositorref20_Same.f k l l) true := by
  unfold compositorref20_Same.f
  simp only [if_true]
  exact same_l0 l hl l.length 0 (by omega) (by omega)
theorem mx_max (a b : Int) : mx a b = max a b := by unfold mx; omega
theorem mn_min (a b : Int) : mn a b = min a b := by unfold mn; omega
theorem rd_mk2 (xs : List (Int × Int)) (i : Nat) (h : i < xs.length) : rd_T36 (xs.map mk2) (i : Int) = mk2 xs[i] := by
  rw [rd2 _ i (by simpa using h), List.getElem_map]
theorem rcount_l (xs ys : List (Int × Int)) (hx : xs.length ≤ 400) (hy : ys.length ≤ 400) : ∀ (d i n : Nat), xs.length - i ≤ d → i ≤ xs.length → n ≤ 400 * i → Ev (fun k => compositorref20_Count.l0 k (xs.map mk2) (ys.map mk2) (n : Int) (i : Int)) (((n + cnt (xs.drop i) ys : Nat) : Int)) := by
  intro d
  have done : ∀ (i n : Nat), i = xs.length → Ev (fun k => compositorref20_Count.l0 k (xs.map mk2) (ys.map mk2) (n : Int) (i : Int)) (((n + cnt (xs.drop i) ys : Nat) : Int)) := by
    intro i n hi
    subst hi
    refine Ev.step (fun k => compositorref20_Count.l0.eq_2 _ _ _ _ _) ?_
    simp only [List.length_map, if_neg (show ¬ ((xs.length : Nat) : Int) < (xs.length : Int) by omega), List.drop_length, cnt_nil, Nat.add_zero]
    exact Ev.now _
  induction d with
  | zero => intro i n hd hi hn; exact done i n (by omega)
  | succ d ih =>
    intro i n hd hi hn
    by_cases hlt : i < xs.length
    · refine Ev.step (fun k => compositorref20_Count.l0.eq_2 _ _ _ _ _) ?_
      simp only [List.length_map, if_pos (show (i : Int) < (xs.length : Int) by omega)]
      have inner : ∀ (d2 j m : Nat), ys.length - j ≤ d2 → j ≤ ys.length → m ≤ 400 * i + j → Ev (fun k => compositorref20_Count.l1 k (xs.map mk2) (ys.map mk2) (m : Int) (i : Int) (j : Int)) (((m + (ys.drop j).countP (ov xs[i]) + cnt (xs.drop (i + 1)) ys : Nat) : Int)) := by
        intro d2
        have done2 : ∀ (j m : Nat), j = ys.length → m ≤ 400 * i + j → Ev (fun k => compositorref20_Count.l1 k (xs.map mk2) (ys.map mk2) (m : Int) (i : Int) (j : Int)) (((m + (ys.drop j).countP (ov xs[i]) + cnt (xs.drop (i + 1)) ys : Nat) : Int)) := by
          intro j m hj hm
          subst hj
          refine Ev.step (fun k => compositorref20_Count.l1.eq_2 _ _ _ _ _ _) ?_
          simp only [List.length_map, if_neg (show ¬ ((ys.length : Nat) : Int) < (ys.length : Int) by omega), List.drop_length, wrap_nat i (by omega), List.countP_nil, Nat.add_zero]
          exact ih (i + 1) m (by omega) (by omega) (by omega)
        induction d2 with
        | zero => intro j m hd2 hj hm; exact done2 j m (by omega) hm
        | succ d2 ih2 =>
          intro j m hd2 hj hm
          by_cases hlj : j < ys.length
          · refine Ev.step (fun k => compositorref20_Count.l1.eq_2 _ _ _ _ _ _) ?_
            simp only [List.length_map, if_pos (show (j : Int) < (ys.length : Int) by omega), if_pos (show (0 : Int) ≤ (i : Int) by omega), if_pos (show (i : Int) < (xs.length : Int) by omega), if_pos (show (0 : Int) ≤ (j : Int) by omega), rd_mk2 xs i hlt, rd_mk2 ys j hlj, mx_max, mn_min, wrap_nat j (by omega), wrap_nat m (by omega)]
            rw [drop_at ys j hlj, List.countP_cons]
            by_cases ho : max xs[i].1 ys[j].1 < min xs[i].2 ys[j].2
            · have h1 : ov xs[i] ys[j] = true := by unfold ov; exact decide_eq_true ho
              have h2 : max (mk2 xs[i]).f0 (mk2 ys[j]).f0 < min (mk2 xs[i]).f1 (mk2 ys[j]).f1 := ho
              simp only [if_pos h2, h1, if_true]
              have := ih2 (j + 1) (m + 1) (by omega) (by omega) (by omega)
              rw [show m + ((ys.drop (j + 1)).countP (ov xs[i]) + 1) + cnt (xs.drop (i + 1)) ys = m + 1 + (ys.drop (j + 1)).countP (ov xs[i]) + cnt (xs.drop (i + 1)) ys by omega]
              exact this
            · have h1 : ov xs[i] ys[j] = false := by unfold ov; exact decide_eq_false ho
              have h2 : ¬ max (mk2 xs[i]).f0 (mk2 ys[j]).f0 < min (mk2 xs[i]).f1 (mk2 ys[j]).f1 := ho
              simp only [if_neg h2, h1, Bool.false_eq_true, if_false, Nat.add_zero]
              exact ih2 (j + 1) m (by omega) (by omega) (by omega)
          · exact done2 j m (by omega) hm
      have h := inner ys.length 0 n (by omega) (by omega) (by omega)
      rw [List.drop_zero] at h
      rw [drop_at xs i hlt, cnt_cons, ← Nat.add_assoc]
      exact h
    · exact done i n (by omega)
theorem rcount_f (a0 a1 a2 a3 b0 b1 b2 b3 : Int) (l m : List I33) (hl : l.length ≤ 400) (hm : m.length ≤ 400) : Ev (fun k => compositorref20_Count.f k a0 a1 a2 a3 l b0 b1 b2 b3 m) (((cnt (fwd l a2) (fwd m b2) : Nat) : Int)) := by
  unfold compositorref20_Count.f
  refine Ev.bind (rgaps_f a0 a1 a2 a3 l hl) ?_
  refine Ev.bind (rgaps_f b0 b1 b2 b3 m hm) ?_
  have h1 := fwd_len l a2
  have h2 := fwd_len m b2
  have h := rcount_l (fwd l a2) (fwd m b2) (by omega) (by omega) (fwd l a2).length 0 0 (by omega) (by omega) (by omega)
  rw [List.drop_zero, Nat.zero_add] at h
  exact h
theorem few_v (a0 a1 a2 a3 : Int) (l : List I33) : compositorlaw20_few.f a0 a1 a2 a3 l = some (decide ((l.length : Int) ≤ 300)) := rfl
end Go.Proofs.Ytpicbjcpdngmlaa.L
