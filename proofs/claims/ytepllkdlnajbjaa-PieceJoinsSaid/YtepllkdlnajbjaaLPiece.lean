/- Breaks of words, and what stands on a line between two of them; the program's and the reference's answers are the same. -/
import Derived.Test.YtepllkdlnajbjaaGx6
import Derived.Test.YtepllkdlnajbjaaGx17
import Derived.Test.YtepllkdlnajbjaaLText
import Derived.Test.YtepllkdlnajbjaaLWhole
namespace Go.Proofs.Ytepllkdlnajbjaa.L
open Go.RowKit Go.Proofs.Ytepllkdlnajbjaa.G Go.Proofs.YtepllkdlnajbjaaW.PrintWords
set_option linter.unusedVariables false
set_option linter.unusedSimpArgs false
theorem Ev.if_ {α : Type} {c : Prop} [Decidable c] {f g : Nat → Option α} {r : α} (h1 : c → Ev f r) (h2 : ¬ c → Ev g r) : Ev (fun k => if c then f k else g k) r := by
  by_cases h : c
  · simpa only [if_pos h] using h1 h
  · simpa only [if_neg h] using h2 h
def placeB (n m kind w a : Int) : Bool :=
  if kind = 0 then decide (w = 0) && decide (a = 0) else if kind = 1 then decide (w < m - 1) && decide (a = n) else if kind = 5 then decide (w = m - 1) && decide (a = n)
  else (decide (2 ≤ kind) && decide (kind ≤ 4)) && (decide (1 ≤ a) && decide (a < n))
def standB (l : List S41) (kind w a : Int) : Bool := okB l && (decide (0 ≤ w) && (decide (w < (l.length : Int)) && placeB ((rd_T41 l w).f0.length : Int) (l.length : Int) kind w a))
theorem bool_eq {a b : Bool} (h : a = true ↔ b = true) : a = b := Bool.eq_iff_iff.2 h
theorem stand_j1 (n m kind w a : Int) (hw : w < m) : Ev (fun k => piece_Stands.j1 k n (decide (w = m - 1)) kind (decide (kind = 1) || decide (kind = 5)) kind w a) (if kind = 0 then (if (decide (kind = 1) || decide (kind = 5)) = true then false else false) else placeB n m kind w a) := by
  refine Ev.step (fun k => piece_Stands.j1.eq_2 _ _ _ _ _ _ _ _) ?_
  unfold placeB
  by_cases h0 : kind = 0
  · subst h0
    simp
    exact Ev.now _
  · simp only [if_neg h0]
    by_cases h1 : kind = 1
    · subst h1
      simp only [decide_true, Bool.true_or, if_true, show ((1 : Int) == 5) = false from rfl]
      by_cases ha : a = n
      · simp only [if_pos ha, ha, decide_true, Bool.and_true]
        refine Ev.eq (Ev.now _) (bool_eq ?_)
        simp; omega
      · simp only [if_neg ha, ha, decide_false, Bool.and_false]
        exact Ev.now _
    · simp only [if_neg h1]
      by_cases h5 : kind = 5
      · subst h5
        simp only [decide_true, Bool.or_true, if_true, show ((5 : Int) == 5) = true from rfl]
        by_cases ha : a = n
        · simp only [if_pos ha, ha, decide_true, Bool.and_true]
          refine Ev.eq (Ev.now _) (bool_eq ?_)
          simp
        · simp only [if_neg ha, ha, decide_false, Bool.and_false]
          exact Ev.now _
      · simp only [if_neg h5, h1, h5, decide_false, Bool.or_false, Bool.false_eq_true, if_false]
        by_cases h24 : 2 ≤ kind ∧ kind ≤ 4
        · have e : kind = 2 ∨ kind = 3 ∨ kind = 4 := by omega
          have key : Ev (fun _ : Nat => if a > 0 then some (decide (a < n)) else some false) ((decide (2 ≤ kind) && decide (kind ≤ 4)) && (decide (1 ≤ a) && decide (a < n))) := by
            simp only [h24.1, h24.2, decide_true, Bool.true_and]
            by_cases ha : a > 0
            · have ha' : 1 ≤ a := by omega
              simp only [if_pos ha, ha', decide_true, Bool.true_and]
              exact Ev.now _
            · have ha' : ¬ 1 ≤ a := by omega
              simp only [if_neg ha, ha', decide_false, Bool.false_and]
              exact Ev.now _
          rcases e with e | e | e
          · simpa only [if_pos e] using key
          · simpa only [if_neg (show ¬ kind = 2 by omega), if_pos e] using key
          · simpa only [if_neg (show ¬ kind = 2 by omega), if_neg (show ¬ kind = 3 by omega), if_pos e] using key
        · have e : (decide (2 ≤ kind) && decide (kind ≤ 4)) = false := by
            rw [Bool.eq_false_iff]; simp; omega
          simp only [if_neg (show ¬ kind = 2 by omega), if_neg (show ¬ kind = 3 by omega), if_neg (show ¬ kind = 4 by omega), e, Bool.false_and]
          exact Ev.now _
theorem stand_f (l : List S41) (hl : l.length ≤ 110) (hs : ∀ x ∈ l, x.f0.length ≤ 100 ∧ x.f1.length ≤ 100) (kind w a : Int) : Ev (fun k => piece_Stands.f k l kind w a) (standB l kind w a) := by
  unfold piece_Stands.f standB
  refine Ev.bind (check_f l (by omega) (fun x hx => by have := (hs x hx).2; omega)) ?_
  have h0 : Ev (fun k => piece_Stands.j0 k l true kind w a) false := Ev.step (fun k => piece_Stands.j0.eq_2 _ _ _ _ _ _) (by simp only [if_true]; exact Ev.now _)
  cases hok : okB l with
  | false => simpa only [Bool.false_eq_true, if_false, Bool.false_and] using h0
  | true =>
    simp only [if_true, Bool.true_and]
    have hok' := okB_iff hok
    by_cases h1 : w < 0
    · simpa only [if_pos h1, show decide (0 ≤ w) = false from decide_eq_false (by omega), Bool.false_and] using h0
    · simp only [if_neg h1, show decide (0 ≤ w) = true from decide_eq_true (by omega), Bool.true_and]
      by_cases h2 : w ≥ (l.length : Int)
      · simpa only [show decide (w ≥ (l.length : Int)) = true from decide_eq_true h2, show decide (w < (l.length : Int)) = false from decide_eq_false (by omega), Bool.false_and] using h0
      · simp only [show decide (w ≥ (l.length : Int)) = false from decide_eq_false h2, show decide (w < (l.length : Int)) = true from decide_eq_true (by omega), Bool.true_and]
        refine Ev.step (fun k => piece_Stands.j0.eq_2 _ _ _ _ _ _) ?_
        have eW : wrap64 ((l.length : Int) - 1) = (l.length : Int) - 1 := wrap_in (by omega) (by omega)
        have eb : (w == (l.length : Int) - 1) = decide (w = (l.length : Int) - 1) := rfl
        simp only [Bool.false_eq_true, if_false, if_pos (show 0 ≤ w by omega), if_pos (show w < (l.length : Int) by omega), eW, eb]
        by_cases k0 : kind = 0
        · unfold placeB
          simp only [if_pos k0]
          by_cases hw : w = 0
          · simp only [if_pos hw, hw, decide_true, Bool.true_and]
            exact Ev.now _
          · simp only [if_neg hw, hw, decide_false, Bool.false_and]
            exact Ev.now _
        · simp only [if_neg k0]
          have := stand_j1 ((rd_T41 l w).f0.length : Int) (l.length : Int) kind w a (by omega)
          simp only [if_neg k0] at this
          by_cases k1 : kind = 1
          · simp only [if_pos k1, show (kind == 1) = true from by simp [k1]]
            simpa only [k1, decide_true, Bool.true_or] using this
          · simp only [if_neg k1]
            have e : (decide (kind = 1) || decide (kind = 5)) = (kind == 5) := by simp only [k1, decide_false, Bool.false_or]; rfl
            rw [e] at this
            exact this
theorem rstand_f (l : List S41) (hl : l.length ≤ 110) (hs : ∀ x ∈ l, x.f0.length ≤ 100 ∧ x.f1.length ≤ 100) (kind w a : Int) : Ev (fun k => compositorref17_Stands.f k l kind w a) (standB l kind w a) := by
  unfold compositorref17_Stands.f standB
  refine Ev.bind (rcheck_f l (fun x hx => by have := (hs x hx).1; omega) (fun x hx => by have := (hs x hx).2; omega)) ?_
  have h0 : Ev (fun k => compositorref17_Stands.j0 k l true kind w a) false := Ev.step (fun k => compositorref17_Stands.j0.eq_2 _ _ _ _ _ _) (by simp only [if_true]; exact Ev.now _)
  cases hok : okB l with
  | false => simpa only [Bool.false_eq_true, if_false, Bool.false_and] using h0
  | true =>
    simp only [if_true, Bool.true_and]
    have hok' := okB_iff hok
    by_cases h1 : w < 0
    · simpa only [if_pos h1, show decide (0 ≤ w) = false from decide_eq_false (by omega), Bool.false_and] using h0
    · simp only [if_neg h1, show decide (0 ≤ w) = true from decide_eq_true (by omega), Bool.true_and]
      by_cases h2 : w ≥ (l.length : Int)
      · simpa only [show decide (w ≥ (l.length : Int)) = true from decide_eq_true h2, show decide (w < (l.length : Int)) = false from decide_eq_false (by omega), Bool.false_and] using h0
      · simp only [show decide (w ≥ (l.length : Int)) = false from decide_eq_false h2, show decide (w < (l.length : Int)) = true from decide_eq_true (by omega), Bool.true_and]
        refine Ev.step (fun k => compositorref17_Stands.j0.eq_2 _ _ _ _ _ _) ?_
        have eW : wrap64 ((l.length : Int) - 1) = (l.length : Int) - 1 := wrap_in (by omega) (by omega)
        simp only [Bool.false_eq_true, if_false, if_pos (show 0 ≤ w by omega), if_pos (show w < (l.length : Int) by omega), eW]
        unfold placeB
        by_cases k0 : kind = 0
        · simp only [if_pos k0]
          by_cases hw : w = 0
          · simp only [if_pos hw, hw, decide_true, Bool.true_and]
            exact Ev.now _
          · simp only [if_neg hw, hw, decide_false, Bool.false_and]
            exact Ev.now _
        · simp only [if_neg k0]
          by_cases k1 : kind = 1
          · simp only [if_pos k1]
            by_cases hw : w < (l.length : Int) - 1
            · simp only [if_pos hw, hw, decide_true, Bool.true_and]
              exact Ev.now _
            · simp only [if_neg hw, hw, decide_false, Bool.false_and]
              exact Ev.now _
          · simp only [if_neg k1]
            by_cases k5 : kind = 5
            · simp only [if_pos k5]
              by_cases hw : w = (l.length : Int) - 1
              · simp only [if_pos hw, hw, decide_true, Bool.true_and]
                exact Ev.now _
              · simp only [if_neg hw, hw, decide_false, Bool.false_and]
                exact Ev.now _
            · simp only [if_neg k5]
              by_cases k2 : kind ≥ 2
              · have k2' : 2 ≤ kind := k2
                by_cases k4 : kind ≤ 4
                · by_cases ha : a ≥ 1
                  · have ha' : 1 ≤ a := ha
                    simp only [if_pos k2, if_pos k4, if_pos ha, k2', k4, ha', decide_true, Bool.true_and]
                    exact Ev.now _
                  · have ha' : ¬ 1 ≤ a := ha
                    simp only [if_pos k2, if_pos k4, if_neg ha, k2', k4, ha', decide_true, decide_false, Bool.true_and, Bool.false_and]
                    exact Ev.now _
                · simp only [if_pos k2, if_neg k4, k2', k4, decide_true, decide_false, Bool.true_and, Bool.false_and]
                  exact Ev.now _
              · have k2' : ¬ 2 ≤ kind := k2
                simp only [if_neg k2, k2', decide_false, Bool.false_and]
                exact Ev.now _
def beforeB (k w a k' w' a' : Int) : Bool := if k = 0 then decide (k' ≠ 0) else if k' = 0 then false else decide (w < w') || (decide (w = w') && decide (a < a'))
theorem rbefore_f (k w a k' w' a' : Int) : compositorref16_Before.f k w a k' w' a' = some (beforeB k w a k' w' a') := by
  unfold compositorref16_Before.f beforeB
  by_cases h : k = 0
  · simp only [if_pos h]; simp [bne, BEq.beq]
  · simp only [if_neg h]
    by_cases h' : k' = 0
    · simp only [if_pos h']
    · simp only [if_neg h']
      by_cases h1 : w < w'
      · simp [h1]
      · by_cases h2 : w = w'
        · simp [h1, h2]
        · simp [h1, h2]
def cmpV (a b : Int) : Int := if a < b then -1 else if b < a then 1 else 0
theorem cmp_f (a b : Int) : cmp_Compare_int.f a b = some (cmpV a b) := by
  unfold cmp_Compare_int.f cmp_isNaN_int.f cmpV
  simp only [bne_self_eq_false, Option.bind_some, Bool.false_eq_true, if_false]
  by_cases h1 : a < b
  · simp [h1]
  · by_cases h2 : b < a
    · simp [h1, h2]
    · simp [h1, h2]
theorem or_f (x y : Int) : Ev (fun k => cmp_Or_int.f k [x, y]) (if x = 0 then y else x) := by
  unfold cmp_Or_int.f
  refine Ev.step (fun k => cmp_Or_int.l0.eq_2 _ _ _ _ _) ?_
  have r0 : rd [x, y] 0 = x := rfl
  have r1 : rd [x, y] 1 = y := rfl
  have w0 : wrap64 (0 + 1) = 1 := by unfold wrap64; omega
  have w1 : wrap64 (1 + 1) = 2 := by unfold wrap64; omega
  have hl : ((([x, y] : List Int).length : Nat) : Int) = 2 := rfl
  simp only [hl, r0, w0, Int.reduceLT, Int.reduceLE, if_true]
  by_cases h : x = 0
  · simp only [if_pos h]
    refine Ev.step (fun k => cmp_Or_int.l0.eq_2 _ _ _ _ _) ?_
    simp only [hl, r1, w1, Int.reduceLT, Int.reduceLE, if_true]
    by_cases h' : y = 0
    · simp only [if_pos h']
      refine Ev.step (fun k => cmp_Or_int.l0.eq_2 _ _ _ _ _) ?_
      simp only [Int.reduceLT, if_false, Int.lt_irrefl, h']
      exact Ev.now _
    · simp only [if_neg h']
      exact Ev.now _
  · simp only [if_neg h]
    exact Ev.now _
theorem before_f (k w a k' w' a' : Int) : Ev (fun q => para_Before.f q k w a k' w' a') (beforeB k w a k' w' a') := by
  have ht : Ev (fun q => para_Before.j0 q true k w a k' w' a') (if k = k' then false else (k == 0)) := by
    refine Ev.step (fun k => para_Before.j0.eq_2 _ _ _ _ _ _ _ _) ?_
    simp only [if_true]
    by_cases h : k = k'
    · simp only [if_pos h]; exact Ev.now _
    · simp only [if_neg h]; exact Ev.now _
  unfold para_Before.f beforeB
  by_cases h : k = 0
  · simp only [if_pos h]
    refine Ev.eq ht (bool_eq ?_)
    subst h
    by_cases h' : k' = 0
    · simp [h']
    · simp [h', Ne.symm h']
  · simp only [if_neg h]
    by_cases h' : k' = 0
    · simp only [if_pos h', show (k' == 0) = true from by simp [h']]
      refine Ev.eq ht ?_
      subst h'
      simp [h]
    · simp only [if_neg h', show (k' == 0) = false from by simp [h']]
      refine Ev.step (fun k => para_Before.j0.eq_2 _ _ _ _ _ _ _ _) ?_
      simp only [Bool.false_eq_true, if_false, cmp_f, Option.bind_some]
      refine Ev.bind (or_f _ _) (Ev.eq (Ev.now _) (bool_eq ?_))
      unfold cmpV
      simp only [decide_eq_true_eq, Bool.or_eq_true, Bool.and_eq_true]
      repeat' split
      all_goals omega
/-! What stands on a line. -/
def codes (l : List S41) (w : Nat) : List Int := (rd_T41 l (w : Int)).f0
def loN (ka wa aa : Int) (n w : Nat) : Nat := if ka = 0 ∨ wa < (w : Int) then 0 else if (w : Int) = wa then aa.toNat else n
def hiN (wb ab : Int) (n w : Nat) : Nat := if (w : Int) < wb then n else if (w : Int) = wb then ab.toNat else 0
def segV (l : List S41) (ka wa aa wb ab : Int) (w : Nat) : List Int := ((codes l w).take (hiN wb ab (codes l w).length w)).drop (loN ka wa aa (codes l w).length w)
def hyV (kind : Int) (out : List (List Int)) : List (List Int) := if hyB kind = true ∧ 0 < out.length then out.set (out.length - 1) (out.getD (out.length - 1) [] ++ [45]) else out
def nonE (x : List Int) : Bool := decide (0 < x.length)
def cutV (l : List S41) (ka wa aa wb ab : Int) (m : Nat) : List (List Int) := ((List.range m).map (segV l ka wa aa wb ab)).filter nonE
theorem range_succ_map {α : Type} (f : Nat → α) (m : Nat) : (List.range (m + 1)).map f = (List.range m).map f ++ [f m] := by rw [List.range_succ, List.map_append]; rfl
theorem cutV_succ (l : List S41) (ka wa aa wb ab : Int) (m : Nat) : cutV l ka wa aa wb ab (m + 1) = cutV l ka wa aa wb ab m ++ (if 0 < (segV l ka wa aa wb ab m).length then [segV l ka wa aa wb ab m] else []) := by
  unfold cutV
  rw [range_succ_map, List.filter_append]
  congr 1
  by_cases h : 0 < (segV l ka wa aa wb ab m).length
  · rw [if_pos h, List.filter_cons_of_pos (by simpa [nonE] using h), List.filter_nil]
  · rw [if_neg h, List.filter_cons_of_neg (by simpa [nonE] using h), List.filter_nil]
theorem cutV_len (l : List S41) (ka wa aa wb ab : Int) (m : Nat) : (cutV l ka wa aa wb ab m).length ≤ m := by
  unfold cutV
  exact Nat.le_trans (List.length_filter_le _ _) (by simp)
theorem segV_len (l : List S41) (ka wa aa wb ab : Int) (w : Nat) : (segV l ka wa aa wb ab w).length ≤ (codes l w).length := by
  unfold segV
  rw [List.length_drop, List.length_take]
  omega
theorem codes_le {l : List S41} (hs : ∀ x ∈ l, x.f0.length ≤ 100 ∧ x.f1.length ≤ 100) (w : Nat) : (codes l w).length ≤ 100 := by
  unfold codes rd_T41
  rw [Int.toNat_natCast]
  by_cases h : w < l.length
  · rw [List.getD_eq_getElem?_getD, List.getElem?_eq_getElem h]
    exact (hs _ (List.getElem_mem h)).1
  · rw [List.getD_eq_getElem?_getD, List.getElem?_eq_none (by omega)]
    simp [z41]
theorem cutV_mem {l : List S41} (hs : ∀ x ∈ l, x.f0.length ≤ 100 ∧ x.f1.length ≤ 100) (ka wa aa wb ab : Int) (m : Nat) : ∀ x ∈ cutV l ka wa aa wb ab m, x.length ≤ 100 := by
  intro x hx
  unfold cutV at hx
  obtain ⟨w, _, rfl⟩ := List.mem_map.1 (List.mem_filter.1 hx).1
  exact Nat.le_trans (segV_len _ _ _ _ _ _ _) (codes_le hs w)
theorem hy_ev (kind : Int) (out : List (List Int)) (ho : out.length ≤ 1000) (hx : ∀ x ∈ out, x.length ≤ 1000) :
    Ev (fun _ : Nat => if (out.length : Int) > 0 then (if kind = 2 then ((some (([] : List Int) : List Int)).bind fun y => (if 0 ≤ (wrap64 ((out.length : Int) - 1)) then (if (wrap64 ((out.length : Int) - 1)) < (out.length : Int) then (if y.length + (rd_L1 out (wrap64 ((out.length : Int) - 1))).length < 17592186044416 then ((some (y ++ (rd_L1 out (wrap64 ((out.length : Int) - 1))) : List Int)).bind fun z => (if z.length < 17592186044416 then (some (out.set ((wrap64 ((out.length : Int) - 1)) : Int).toNat (z ++ [45]))) else (none))) else (none)) else (none)) else (none))) else (if kind = 3 then ((some (([] : List Int) : List Int)).bind fun y => (if 0 ≤ (wrap64 ((out.length : Int) - 1)) then (if (wrap64 ((out.length : Int) - 1)) < (out.length : Int) then (if y.length + (rd_L1 out (wrap64 ((out.length : Int) - 1))).length < 17592186044416 then ((some (y ++ (rd_L1 out (wrap64 ((out.length : Int) - 1))) : List Int)).bind fun z => (if z.length < 17592186044416 then (some (out.set ((wrap64 ((out.length : Int) - 1)) : Int).toNat (z ++ [45]))) else (none))) else (none)) else (none)) else (none))) else (some out))) else (some out)) (hyV kind out) := by
  unfold hyV
  by_cases h0 : 0 < out.length
  · have e := last_at out h0 (by omega)
    have hlen : (out.getD (out.length - 1) []).length ≤ 1000 := by
      rw [List.getD_eq_getElem?_getD, List.getElem?_eq_getElem (by omega), Option.getD_some]
      exact hx _ (List.getElem_mem _)
    have er : rd_L1 out ((out.length - 1 : Nat) : Int) = out.getD (out.length - 1) [] := by unfold rd_L1; rw [Int.toNat_natCast]
    simp only [if_pos (show (out.length : Int) > 0 by omega), e, er, Int.toNat_natCast, Option.bind_some, List.nil_append, List.length_nil, Nat.zero_add, if_pos (show (0 : Int) ≤ ((out.length - 1 : Nat) : Int) by omega), if_pos (show ((out.length - 1 : Nat) : Int) < (out.length : Int) by omega), if_pos (show (out.getD (out.length - 1) []).length < 17592186044416 by omega)]
    by_cases h2 : kind = 2
    · have : hyB kind = true := by simp [hyB, h2]
      simp only [if_pos h2, if_pos (show hyB kind = true ∧ 0 < out.length from ⟨this, h0⟩)]
      exact Ev.now _
    · by_cases h3 : kind = 3
      · have : hyB kind = true := by simp [hyB, h3]
        simp only [if_neg h2, if_pos h3, if_pos (show hyB kind = true ∧ 0 < out.length from ⟨this, h0⟩)]
        exact Ev.now _
      · have : ¬ (hyB kind = true ∧ 0 < out.length) := by simp [hyB, h2, h3]
        simp only [if_neg h2, if_neg h3, if_neg this]
        exact Ev.now _
  · simp only [if_neg (show ¬ (out.length : Int) > 0 by omega), if_neg (show ¬ (hyB kind = true ∧ 0 < out.length) from fun h => h0 h.2)]
    exact Ev.now _
theorem lo_iff {ka wa aa : Int} {n w j : Nat} (hj : j < n) : loN ka wa aa n w ≤ j ↔ (ka = 0 ∨ wa < (w : Int) ∨ ((w : Int) = wa ∧ aa ≤ (j : Int))) := by
  unfold loN
  repeat' split
  all_goals omega
theorem hi_iff {wb ab : Int} {n w j : Nat} (hj : j < n) : j < hiN wb ab n w ↔ ((w : Int) < wb ∨ ((w : Int) = wb ∧ (j : Int) < ab)) := by
  unfold hiN
  repeat' split
  all_goals omega
theorem seg_step (c : List Int) (lo hi j : Nat) (hj : j < c.length) : (c.take (min (j + 1) hi)).drop lo = (c.take (min j hi)).drop lo ++ (if lo ≤ j ∧ j < hi then [c[j]] else []) := by
  by_cases h1 : j < hi
  · rw [Nat.min_eq_left (by omega), Nat.min_eq_left (by omega), List.take_succ_eq_append_getElem hj]
    by_cases h2 : lo ≤ j
    · rw [if_pos ⟨h2, h1⟩, List.drop_append_of_le_length (by rw [List.length_take]; omega)]
    · rw [if_neg (fun h => h2 h.1), List.append_nil, List.drop_of_length_le (by simp; omega), List.drop_of_length_le (by simp; omega)]
  · rw [Nat.min_eq_right (by omega), Nat.min_eq_right (by omega), if_neg (fun h => h1 h.2), List.append_nil]
theorem cut_l1 (l : List S41) (hl : l.length ≤ 110) (hs : ∀ x ∈ l, x.f0.length ≤ 100 ∧ x.f1.length ≤ 100) (ka wa aa kb wb ab : Int) (w : Nat) (hw : w < l.length) (out : List (List Int)) (ho : out.length ≤ 110) (r : List (List Int))
    (hr : Ev (fun k => compositorref17_Cut.l0 k l (out ++ (if 0 < (segV l ka wa aa wb ab w).length then [segV l ka wa aa wb ab w] else [])) ((w + 1 : Nat) : Int) ka wa aa kb wb ab) r) :
    ∀ (d j : Nat), (codes l w).length - j = d → j ≤ (codes l w).length →
      Ev (fun k => compositorref17_Cut.l1 k l out (w : Int) (((codes l w).take (min j (hiN wb ab (codes l w).length w))).drop (loN ka wa aa (codes l w).length w)) (j : Int) ka wa aa kb wb ab) r := by
  have hc := codes_le hs w
  have ec : (rd_T41 l (w : Int)).f0 = codes l w := rfl
  intro d
  induction d with
  | zero =>
    intro j hd hj
    refine Ev.step (fun k => compositorref17_Cut.l1.eq_2 _ _ _ _ _ _ _ _ _ _ _ _) ?_
    have hmin : (codes l w).take (min j (hiN wb ab (codes l w).length w)) = (codes l w).take (hiN wb ab (codes l w).length w) := by
      rcases Nat.le_total j (hiN wb ab (codes l w).length w) with h | h
      · rw [Nat.min_eq_left h, List.take_of_length_le (by omega), List.take_of_length_le (by omega)]
      · rw [Nat.min_eq_right h]
    rw [hmin]
    show Ev (fun k => if 0 ≤ (w : Int) then _ else none) r
    simp only [ec, if_pos (show (0 : Int) ≤ (w : Int) by omega), if_pos (show (w : Int) < (l.length : Int) by omega), if_neg (show ¬ (j : Int) < ((codes l w).length : Int) by omega), if_pos (show out.length < 5864062014805 by omega), wrap_nat w (by omega)]
    change Ev (fun k => if ((segV l ka wa aa wb ab w).length : Int) > 0 then compositorref17_Cut.l0 k l (out ++ [segV l ka wa aa wb ab w]) ((w + 1 : Nat) : Int) ka wa aa kb wb ab else compositorref17_Cut.l0 k l out ((w + 1 : Nat) : Int) ka wa aa kb wb ab) r
    by_cases h : 0 < (segV l ka wa aa wb ab w).length
    · simp only [if_pos (show ((segV l ka wa aa wb ab w).length : Int) > 0 by omega)]
      simpa only [if_pos h] using hr
    · simp only [if_neg (show ¬ ((segV l ka wa aa wb ab w).length : Int) > 0 by omega)]
      simpa only [if_neg h, List.append_nil] using hr
  | succ d ih =>
    intro j hd hj
    have hlt : j < (codes l w).length := by omega
    have next := ih (j + 1) (by omega) (by omega)
    have hlo := lo_iff (ka := ka) (wa := wa) (aa := aa) (w := w) hlt
    have hhi := hi_iff (wb := wb) (ab := ab) (w := w) hlt
    rw [seg_step (codes l w) _ _ j hlt] at next
    refine Ev.step (fun k => compositorref17_Cut.l1.eq_2 _ _ _ _ _ _ _ _ _ _ _ _) ?_
    have hlen : (((codes l w).take (min j (hiN wb ab (codes l w).length w))).drop (loN ka wa aa (codes l w).length w)).length ≤ 100 := by
      rw [List.length_drop, List.length_take]; omega
    generalize ((codes l w).take (min j (hiN wb ab (codes l w).length w))).drop (loN ka wa aa (codes l w).length w) = acc at next hlen
    have app : (loN ka wa aa (codes l w).length w ≤ j ∧ j < hiN wb ab (codes l w).length w) → Ev (fun k => compositorref17_Cut.l1 k l out (w : Int) (acc ++ [(codes l w)[j]]) ((j + 1 : Nat) : Int) ka wa aa kb wb ab) r := by
      intro h
      simpa only [if_pos h] using next
    have skp : ¬ (loN ka wa aa (codes l w).length w ≤ j ∧ j < hiN wb ab (codes l w).length w) → Ev (fun k => compositorref17_Cut.l1 k l out (w : Int) acc ((j + 1 : Nat) : Int) ka wa aa kb wb ab) r := by
      intro h
      simpa only [if_neg h, List.append_nil] using next
    rw [hlo, hhi] at app skp
    simp only [ec, rd_nat (codes l w) j hlt, wrap_nat j (by omega), if_pos (show (0 : Int) ≤ (w : Int) by omega), if_pos (show (w : Int) < (l.length : Int) by omega), if_pos (show (j : Int) < ((codes l w).length : Int) by omega), if_pos (show (0 : Int) ≤ (j : Int) by omega), if_pos (show acc.length < 17592186044416 by omega)]
    clear ih next hlo hhi hr
    repeat' (first | refine Ev.if_ (fun _ => ?_) (fun _ => ?_) | exact app (by omega) | exact skp (by omega))
theorem cut_l0 (l : List S41) (hl : l.length ≤ 110) (hs : ∀ x ∈ l, x.f0.length ≤ 100 ∧ x.f1.length ≤ 100) (ka wa aa kb wb ab : Int) : ∀ (d w : Nat), l.length - w = d → w ≤ l.length →
    Ev (fun k => compositorref17_Cut.l0 k l (cutV l ka wa aa wb ab w) (w : Int) ka wa aa kb wb ab) (hyV kb (cutV l ka wa aa wb ab l.length)) := by
  intro d
  induction d with
  | zero =>
    intro w hd hw
    obtain rfl : w = l.length := by omega
    refine Ev.step (fun k => compositorref17_Cut.l0.eq_2 _ _ _ _ _ _ _ _ _ _) ?_
    simp only [if_neg (show ¬ ((l.length : Nat) : Int) < (l.length : Int) by omega)]
    exact hy_ev kb _ (Nat.le_trans (cutV_len _ _ _ _ _ _ _) (by omega)) (fun x hx => by have := cutV_mem hs _ _ _ _ _ _ x hx; omega)
  | succ d ih =>
    intro w hd hw
    refine Ev.step (fun k => compositorref17_Cut.l0.eq_2 _ _ _ _ _ _ _ _ _ _) ?_
    simp only [if_pos (show (w : Int) < (l.length : Int) by omega)]
    have next := ih (w + 1) (by omega) (by omega)
    rw [cutV_succ] at next
    have := cut_l1 l hl hs ka wa aa kb wb ab w (by omega) (cutV l ka wa aa wb ab w) (Nat.le_trans (cutV_len _ _ _ _ _ _ _) (by omega)) _ next (codes l w).length 0 (by omega) (by omega)
    rw [Nat.min_eq_left (Nat.zero_le _), List.take_zero, List.drop_nil] at this
    exact this
theorem cut_f (l : List S41) (hl : l.length ≤ 110) (hs : ∀ x ∈ l, x.f0.length ≤ 100 ∧ x.f1.length ≤ 100) (ka wa aa kb wb ab : Int) : Ev (fun k => compositorref17_Cut.f k l ka wa aa kb wb ab) (hyV kb (cutV l ka wa aa wb ab l.length)) := by
  have := cut_l0 l hl hs ka wa aa kb wb ab l.length 0 (by omega) (by omega)
  exact this
/-! The program's pieces. -/
def pieceAt (l : List S41) (from_ at_ bw ba : Nat) (i : Nat) : List Int := ((if from_ + i = bw then (codes l (from_ + i)).take ba else codes l (from_ + i))).drop (if i = 0 then at_ else 0)
theorem prog_hy (kind : Int) (out : List (List Int)) (h0 : 0 < out.length) (ho : out.length ≤ 1000) (hx : ∀ x ∈ out, x.length ≤ 1000) :
    Ev (fun _ : Nat => (piece_hyphened.f kind).bind fun t => (if t = true then (if 0 ≤ (wrap64 ((out.length : Int) - 1)) then (if (wrap64 ((out.length : Int) - 1)) < (out.length : Int) then (if (rd_L1 out (wrap64 ((out.length : Int) - 1))).length < 17592186044416 then (some ((out.set ((wrap64 ((out.length : Int) - 1)) : Int).toNat ((rd_L1 out (wrap64 ((out.length : Int) - 1))) ++ [45])), (0 : Int))) else (none)) else (none)) else (none)) else (some (out, 0)))) (hyV kind out, 0) := by
  unfold hyV
  have e := last_at out h0 (by omega)
  have hlen : (out.getD (out.length - 1) []).length ≤ 1000 := by
    rw [List.getD_eq_getElem?_getD, List.getElem?_eq_getElem (by omega), Option.getD_some]
    exact hx _ (List.getElem_mem _)
  have er : rd_L1 out ((out.length - 1 : Nat) : Int) = out.getD (out.length - 1) [] := by unfold rd_L1; rw [Int.toNat_natCast]
  simp only [hyph_f, e, er, Int.toNat_natCast, Option.bind_some, if_pos (show (0 : Int) ≤ ((out.length - 1 : Nat) : Int) by omega), if_pos (show ((out.length - 1 : Nat) : Int) < (out.length : Int) by omega), if_pos (show (out.getD (out.length - 1) []).length < 17592186044416 by omega)]
  cases hh : hyB kind with
  | true => simp only [if_true, h0, and_self]; exact Ev.now _
  | false => simp only [Bool.false_eq_true, if_false, false_and]; exact Ev.now _
theorem pieceAt_len {l : List S41} (hs : ∀ x ∈ l, x.f0.length ≤ 100 ∧ x.f1.length ≤ 100) (from_ at_ bw ba i : Nat) : (pieceAt l from_ at_ bw ba i).length ≤ 100 := by
  unfold pieceAt
  have := codes_le hs (from_ + i)
  rw [List.length_drop]
  split
  · rw [List.length_take]; omega
  · omega
theorem pieces_l0 (l : List S41) (hl : l.length ≤ 110) (hs : ∀ x ∈ l, x.f0.length ≤ 100 ∧ x.f1.length ≤ 100) (from_ at_ bw ba m : Nat) (kind : Int) (hbw : bw < l.length) (hm : from_ + m = bw + 1) (hm0 : 0 < m) (hba : ba ≤ (codes l bw).length)
    (hat1 : from_ = bw → at_ ≤ ba) (hat2 : from_ ≠ bw → at_ ≤ (codes l from_).length) : ∀ (d i : Nat), m - i = d → i ≤ m →
    Ev (fun k => piece_Pieces.l0 k l ((List.range i).map (pieceAt l from_ at_ bw ba)) (from_ : Int) ((if i = 0 then at_ else 0 : Nat) : Int) (m : Int) (i : Int) kind (bw : Int) (ba : Int)) (hyV kind ((List.range m).map (pieceAt l from_ at_ bw ba)), 0) := by
  intro d
  induction d with
  | zero =>
    intro i hd hi
    obtain rfl : i = m := by omega
    refine Ev.step (fun k => piece_Pieces.l0.eq_2 _ _ _ _ _ _ _ _ _ _) ?_
    simp only [if_neg (show ¬ ((i : Nat) : Int) < (i : Int) by omega)]
    refine prog_hy kind _ (by simp; omega) (by simp; omega) (fun x hx => ?_)
    obtain ⟨j, _, rfl⟩ := List.mem_map.1 hx
    exact Nat.le_trans (pieceAt_len hs _ _ _ _ _) (by omega)
  | succ d ih =>
    intro i hd hi
    have next := ih (i + 1) (by omega) (by omega)
    rw [range_succ_map] at next
    have hci := codes_le hs (from_ + i)
    refine Ev.step (fun k => piece_Pieces.l0.eq_2 _ _ _ _ _ _ _ _ _ _) ?_
    have ec : (rd_T41 l ((from_ + i : Nat) : Int)).f0 = codes l (from_ + i) := rfl
    have hout0 : ((List.range i).map (pieceAt l from_ at_ bw ba)).length = i := by rw [List.length_map, List.length_range]
    have hi2 : i ≤ 200 := by omega
    have hout : ((List.range i).map (pieceAt l from_ at_ bw ba)).length < 5864062014805 := Nat.lt_of_le_of_lt (Nat.le_trans (Nat.le_of_eq hout0) hi2) (by decide)
    have hz : (if i + 1 = 0 then at_ else 0) = 0 := if_neg (Nat.succ_ne_zero i)
    rw [hz] at next
    have t1 : (i : Int) < (m : Int) := by omega
    have t2 : (0 : Int) ≤ ((from_ + i : Nat) : Int) := by omega
    have t3 : ((from_ + i : Nat) : Int) < (l.length : Int) := by omega
    have wi := wrap_nat i (by omega)
    have e1 : wrap64 ((from_ : Int) + (i : Int)) = ((from_ + i : Nat) : Int) := by clear next ih hat1 hat2 wi; rw [wrap_in (by omega) (by omega)]; omega
    simp only [if_pos t1, e1, ec, if_pos t2, if_pos t3, if_pos hout, wi]
    clear e1 wi
    have hati : (if i = 0 then at_ else 0) ≤ (if from_ + i = bw then ba else (codes l (from_ + i)).length) := by
      by_cases h : i = 0
      · subst h
        rw [if_pos rfl]
        by_cases hb : from_ + 0 = bw
        · rw [if_pos hb]; exact hat1 hb
        · rw [if_neg hb]; exact hat2 hb
      · rw [if_neg h]; exact Nat.zero_le _
    have hpa : pieceAt l from_ at_ bw ba i = ((if from_ + i = bw then (codes l (from_ + i)).take ba else codes l (from_ + i))).drop (if i = 0 then at_ else 0) := rfl
    have hpl := pieceAt_len hs from_ at_ bw ba i
    generalize (if i = 0 then at_ else 0) = q at hati hpa ⊢
    generalize pieceAt l from_ at_ bw ba i = P at hpa hpl next
    clear ih hat1 hat2 hz hout hout0 t1 t2 t3
    by_cases hb : from_ + i = bw
    · have hb' : ((from_ + i : Nat) : Int) = (bw : Int) := by omega
      rw [if_pos hb] at hati hpa
      have hba' : ba ≤ (codes l (from_ + i)).length := by rw [hb]; exact hba
      have htl : ((codes l (from_ + i)).take ba).length = ba := by rw [List.length_take]; omega
      simp only [if_pos hb', Int.toNat_natCast, if_pos (show (0 : Int) ≤ (ba : Int) by omega), if_pos (show (ba : Int) ≤ ((codes l (from_ + i)).length : Int) by omega), htl, if_pos (show (0 : Int) ≤ (q : Int) by omega), if_pos (show (q : Int) ≤ (ba : Int) by omega), ← hpa, clone_ok P (by omega), Option.bind_some]
      exact next
    · have hb' : ¬ ((from_ + i : Nat) : Int) = (bw : Int) := by omega
      rw [if_neg hb] at hati hpa
      simp only [if_neg hb', Int.toNat_natCast, if_pos (show (0 : Int) ≤ (q : Int) by omega), if_pos (show (q : Int) ≤ ((codes l (from_ + i)).length : Int) by omega), ← hpa, clone_ok P (by omega), Option.bind_some]
      exact next
/-! What a break that may be is. -/
structure Stands (l : List S41) (kind w a : Int) (W A : Nat) : Prop where
  ok : okB l = true
  hw : w = (W : Int)
  ha : a = (A : Int)
  lt : W < l.length
  le : A ≤ (codes l W).length
  kinds : (kind = 0 ∧ W = 0 ∧ A = 0) ∨ (kind = 1 ∧ W + 1 < l.length ∧ A = (codes l W).length) ∨ (kind = 5 ∧ W + 1 = l.length ∧ A = (codes l W).length) ∨ (2 ≤ kind ∧ kind ≤ 4 ∧ 1 ≤ A ∧ A < (codes l W).length)
theorem stands_of {l : List S41} {kind w a : Int} (h : standB l kind w a = true) : ∃ W A, Stands l kind w a W A := by
  unfold standB placeB at h
  simp only [Bool.and_eq_true, decide_eq_true_eq] at h
  obtain ⟨h0, h1, h2, h3⟩ := h
  obtain ⟨W, rfl⟩ : ∃ W : Nat, w = (W : Int) := ⟨w.toNat, by omega⟩
  have ec : (rd_T41 l (W : Int)).f0 = codes l W := rfl
  rw [ec] at h3
  by_cases k0 : kind = 0
  · rw [if_pos k0] at h3
    simp only [Bool.and_eq_true, decide_eq_true_eq] at h3
    exact ⟨W, 0, h0, rfl, by omega, by omega, Nat.zero_le _, .inl ⟨k0, by omega, rfl⟩⟩
  · rw [if_neg k0] at h3
    by_cases k1 : kind = 1
    · rw [if_pos k1] at h3
      simp only [Bool.and_eq_true, decide_eq_true_eq] at h3
      exact ⟨W, (codes l W).length, h0, rfl, by omega, by omega, Nat.le_refl _, .inr (.inl ⟨k1, by omega, rfl⟩)⟩
    · rw [if_neg k1] at h3
      by_cases k5 : kind = 5
      · rw [if_pos k5] at h3
        simp only [Bool.and_eq_true, decide_eq_true_eq] at h3
        exact ⟨W, (codes l W).length, h0, rfl, by omega, by omega, Nat.le_refl _, .inr (.inr (.inl ⟨k5, by omega, rfl⟩))⟩
      · rw [if_neg k5] at h3
        simp only [Bool.and_eq_true, decide_eq_true_eq] at h3
        exact ⟨W, a.toNat, h0, rfl, by omega, by omega, by omega, .inr (.inr (.inr ⟨h3.1.1, h3.1.2, by omega, by omega⟩))⟩
theorem codes_ok {l : List S41} (h : okB l = true) {w : Nat} (hw : w < l.length) : 1 ≤ (codes l w).length := by
  have := (okB_iff h).2.2.1 _ (List.getElem_mem hw)
  unfold codes
  rw [rd_word l w hw]
  exact (wordB_len this).1
def fromN (kind : Int) (W : Nat) : Nat := if kind = 0 then 0 else if kind = 1 then W + 1 else W
def atN (kind : Int) (A : Nat) : Nat := if kind = 0 then 0 else if kind = 1 then 0 else A
/-- What stands between two breaks. -/
def pieceV (l : List S41) (ka : Int) (Wa Aa : Nat) (kb : Int) (Wb Ab : Nat) : List (List Int) := (List.range (Wb + 1 - fromN ka Wa)).map (pieceAt l (fromN ka Wa) (atN ka Aa) Wb Ab)
theorem first_f (kind : Int) (W A : Nat) (hW : W ≤ 1000) : piece_first.f kind (W : Int) (A : Int) = some ((fromN kind W : Int), (atN kind A : Int)) := by
  unfold piece_first.f fromN atN
  by_cases h0 : kind = 0
  · simp [h0]
  · by_cases h1 : kind = 1
    · simp only [if_neg h0, if_pos h1]
      rw [wrap_nat W (by omega)]
      rfl
    · simp only [if_neg h0, if_neg h1]
/-- Two breaks that may be, one ahead of the other one, and the first one not the end: where the pieces are. -/
theorem between {l : List S41} {ka wa aa kb wb ab : Int} {Wa Aa Wb Ab : Nat} (ha : Stands l ka wa aa Wa Aa) (hb : Stands l kb wb ab Wb Ab) (hk : ka ≠ 5) (h : beforeB ka wa aa kb wb ab = true) :
    kb ≠ 0 ∧ fromN ka Wa ≤ Wb ∧ (fromN ka Wa = Wb → atN ka Aa < Ab) ∧ (fromN ka Wa < Wb → atN ka Aa < (codes l (fromN ka Wa)).length) ∧ 1 ≤ Ab := by
  have hcb := codes_ok hb.ok hb.lt
  have h1b : kb ≠ 0 → 1 ≤ Ab := by
    intro hz
    rcases hb.kinds with ⟨k, _, _⟩ | ⟨k, _, e⟩ | ⟨k, _, e⟩ | ⟨_, _, e, _⟩ <;> omega
  have hwa := ha.hw; have haa := ha.ha; have hwb := hb.hw; have hab := hb.ha
  unfold beforeB at h
  by_cases k0 : ka = 0
  · rw [if_pos k0] at h
    have hz : kb ≠ 0 := by simpa using h
    have := h1b hz
    unfold fromN atN
    simp only [if_pos k0]
    exact ⟨hz, Nat.zero_le _, fun _ => by omega, fun _ => by have := codes_ok hb.ok (w := 0) (by have := hb.lt; omega); omega, this⟩
  · rw [if_neg k0] at h
    by_cases kz : kb = 0
    · rw [if_pos kz] at h; cases h
    · rw [if_neg kz] at h
      simp only [Bool.or_eq_true, Bool.and_eq_true, decide_eq_true_eq] at h
      have := h1b kz
      unfold fromN atN
      simp only [if_neg k0]
      by_cases k1 : ka = 1
      · simp only [if_pos k1]
        have e : Aa = (codes l Wa).length := by rcases ha.kinds with ⟨k, _, _⟩ | ⟨k, _, e⟩ | ⟨k, _, e⟩ | ⟨_, _, e, _⟩ <;> first | exact e | omega
        have hlt : Wa < Wb := by
          rcases h with h | ⟨h1, h2⟩
          · omega
          · have : Wa = Wb := by omega
            subst this
            have := hb.le
            omega
        exact ⟨kz, by omega, fun _ => by omega, fun h => by have := codes_ok hb.ok (w := Wa + 1) (by have := hb.lt; omega); omega, this⟩
      · simp only [if_neg k1]
        have e : 1 ≤ Aa ∧ Aa < (codes l Wa).length := by rcases ha.kinds with ⟨k, _, _⟩ | ⟨k, _, e⟩ | ⟨k, _, e⟩ | ⟨_, _, e⟩ <;> first | exact e | omega
        exact ⟨kz, by omega, fun _ => by omega, fun _ => e.2, this⟩
theorem cut_is {l : List S41} {ka wa aa kb wb ab : Int} {Wa Aa Wb Ab : Nat} (ha : Stands l ka wa aa Wa Aa) (hb : Stands l kb wb ab Wb Ab) (hk : ka ≠ 5) (h : beforeB ka wa aa kb wb ab = true) :
    cutV l ka wa aa wb ab l.length = pieceV l ka Wa Aa kb Wb Ab := by
  obtain ⟨kz, hle, hsame, hless, hA⟩ := between ha hb hk h
  have hwa := ha.hw; have haa := ha.ha; have hwb := hb.hw; have hab := hb.ha; have hlt := hb.lt; have hlb := hb.le
  -- word by word: nothing ahead of the first one, the pieces, and nothing behind the last one
  have none1 : ∀ w, w < fromN ka Wa → (segV l ka wa aa wb ab w).length = 0 := by
    intro w hw
    unfold segV
    rw [List.length_drop, List.length_take]
    unfold fromN at hw
    unfold loN
    by_cases k0 : ka = 0
    · rw [if_pos k0] at hw; omega
    · rw [if_neg k0] at hw
      by_cases k1 : ka = 1
      · rw [if_pos k1] at hw
        have e : Aa = (codes l Wa).length := by rcases ha.kinds with ⟨k, _, _⟩ | ⟨k, _, e⟩ | ⟨k, _, e⟩ | ⟨_, _, e, _⟩ <;> first | exact e | omega
        rw [if_neg (by omega)]
        by_cases hww : (w : Int) = wa
        · obtain rfl : w = Wa := by omega
          rw [if_pos hww]; omega
        · rw [if_neg hww]; omega
      · rw [if_neg k1] at hw
        rw [if_neg (by omega), if_neg (by omega)]; omega
  have none2 : ∀ w, Wb < w → (segV l ka wa aa wb ab w).length = 0 := by
    intro w hw
    unfold segV
    rw [List.length_drop, List.length_take]
    unfold hiN
    rw [if_neg (by omega), if_neg (by omega)]; omega
  have some1 : ∀ i, fromN ka Wa + i ≤ Wb → segV l ka wa aa wb ab (fromN ka Wa + i) = pieceAt l (fromN ka Wa) (atN ka Aa) Wb Ab i := by
    intro i hi
    unfold segV pieceAt
    have hhi : (codes l (fromN ka Wa + i)).take (hiN wb ab (codes l (fromN ka Wa + i)).length (fromN ka Wa + i)) = (if fromN ka Wa + i = Wb then (codes l (fromN ka Wa + i)).take Ab else codes l (fromN ka Wa + i)) := by
      unfold hiN
      by_cases hb' : fromN ka Wa + i = Wb
      · rw [if_neg (by omega), if_pos (by omega), if_pos hb', show ab.toNat = Ab by omega]
      · rw [if_pos (by omega), if_neg hb', List.take_length]
    rw [hhi]
    congr 1
    unfold loN fromN atN
    by_cases k0 : ka = 0
    · simp [k0]
    · by_cases k1 : ka = 1
      · simp only [if_neg k0, if_pos k1]
        rw [if_pos (Or.inr (by omega))]
        simp
      · simp only [if_neg k0, if_neg k1]
        by_cases h0 : i = 0
        · subst h0
          rw [if_neg (by omega), if_pos (by omega), if_pos rfl]; omega
        · rw [if_pos (by omega), if_neg h0]
  have pos1 : ∀ i, fromN ka Wa + i ≤ Wb → 0 < (pieceAt l (fromN ka Wa) (atN ka Aa) Wb Ab i).length := by
    intro i hi
    unfold pieceAt
    rw [List.length_drop]
    have hc := codes_ok hb.ok (w := fromN ka Wa + i) (by omega)
    by_cases hb' : fromN ka Wa + i = Wb
    · rw [if_pos hb', List.length_take, hb']
      by_cases h0 : i = 0
      · subst h0; rw [if_pos rfl]; have := hsame hb'; omega
      · rw [if_neg h0]; omega
    · rw [if_neg hb']
      by_cases h0 : i = 0
      · subst h0; simp only [if_pos, Nat.add_zero]; have := hless (by omega); omega
      · rw [if_neg h0]; omega
  have low : ∀ m, m ≤ fromN ka Wa → cutV l ka wa aa wb ab m = [] := by
    intro m
    induction m with
    | zero => intro _; rfl
    | succ m ih =>
      intro hm
      rw [cutV_succ, ih (by omega), if_neg (by rw [none1 m (by omega)]; omega)]
      rfl
  have mid : ∀ m, fromN ka Wa + m ≤ Wb + 1 → cutV l ka wa aa wb ab (fromN ka Wa + m) = (List.range m).map (pieceAt l (fromN ka Wa) (atN ka Aa) Wb Ab) := by
    intro m
    induction m with
    | zero => intro _; exact low _ (Nat.le_refl _)
    | succ m ih =>
      intro hm
      rw [← Nat.add_assoc, cutV_succ, ih (by omega), some1 m (by omega), if_pos (pos1 m (by omega)), range_succ_map]
  have high : ∀ m, cutV l ka wa aa wb ab (Wb + 1 + m) = cutV l ka wa aa wb ab (Wb + 1) := by
    intro m
    induction m with
    | zero => rfl
    | succ m ih =>
      rw [← Nat.add_assoc, cutV_succ, ih, if_neg (by rw [none2 _ (by omega)]; omega), List.append_nil]
  rw [show l.length = Wb + 1 + (l.length - (Wb + 1)) by omega, high, show Wb + 1 = fromN ka Wa + (Wb + 1 - fromN ka Wa) by omega, mid _ (by omega)]
  unfold pieceV
  rfl
/-- What a line between two breaks holds, or the error. -/
def piecesV (l : List S41) (ka wa aa kb wb ab : Int) : List (List Int) × Int :=
  if okB l = true then (if standB l ka wa aa = true ∧ standB l kb wb ab = true ∧ ka ≠ 5 ∧ beforeB ka wa aa kb wb ab = true then (hyV kb (pieceV l ka wa.toNat aa.toNat kb wb.toNat ab.toNat), 0) else ([], 1)) else ([], 130)
theorem pieces_f (l : List S41) (hl : l.length ≤ 110) (hs : ∀ x ∈ l, x.f0.length ≤ 100 ∧ x.f1.length ≤ 100) (ka wa aa kb wb ab : Int) : Ev (fun k => piece_Pieces.f k l ka wa aa kb wb ab) (piecesV l ka wa aa kb wb ab) := by
  unfold piece_Pieces.f piecesV
  refine Ev.bind (check_f l (by omega) (fun x hx => by have := (hs x hx).2; omega)) ?_
  cases hok : okB l with
  | false => simp only [Bool.false_eq_true, if_false]; exact Ev.now _
  | true =>
    simp only [if_true]
    refine Ev.bind (stand_f l hl hs ka wa aa) ?_
    cases hA : standB l ka wa aa with
    | false => simp only [Bool.false_eq_true, if_false, false_and]; exact Ev.now _
    | true =>
      simp only [if_true, true_and]
      refine Ev.bind (stand_f l hl hs kb wb ab) ?_
      cases hB : standB l kb wb ab with
      | false => simp only [Bool.false_eq_true, if_false, false_and]; exact Ev.now _
      | true =>
        simp only [if_true, true_and]
        by_cases hk : ka = 5
        · simp only [if_pos hk, hk, ne_eq, not_true, false_and, if_false]; exact Ev.now _
        · simp only [if_neg hk, ne_eq, hk, not_false_eq_true, true_and]
          refine Ev.bind (before_f ka wa aa kb wb ab) ?_
          cases hbe : beforeB ka wa aa kb wb ab with
          | false => simp only [Bool.false_eq_true, if_false]; exact Ev.now _
          | true =>
            simp only [if_true]
            obtain ⟨Wa, Aa, sa⟩ := stands_of hA
            obtain ⟨Wb, Ab, sb⟩ := stands_of hB
            obtain ⟨kz, hle, hsame, hless, hA1⟩ := between sa sb hk hbe
            obtain rfl := sa.hw; obtain rfl := sa.ha; obtain rfl := sb.hw; obtain rfl := sb.ha
            have h1 := sa.lt
            have h2 := sb.lt
            rw [first_f ka Wa Aa (by omega)]
            simp only [Option.bind_some, Int.toNat_natCast]
            have e1 : wrap64 ((wrap64 ((Wb : Int) - (fromN ka Wa : Int))) + 1) = ((Wb + 1 - fromN ka Wa : Nat) : Int) := by
              rw [wrap_in (n := (Wb : Int) - (fromN ka Wa : Int)) (by omega) (by omega), wrap_in (by omega) (by omega)]; omega
            rw [e1]
            clear e1
            have := pieces_l0 l hl hs (fromN ka Wa) (atN ka Aa) Wb Ab (Wb + 1 - fromN ka Wa) kb sb.lt (by omega) (by omega) sb.le (fun h => Nat.le_of_lt (hsame h)) (fun h => Nat.le_of_lt (hless (by omega))) (Wb + 1 - fromN ka Wa) 0 (by omega) (by omega)
            exact this
theorem rpieces_f (l : List S41) (hl : l.length ≤ 110) (hs : ∀ x ∈ l, x.f0.length ≤ 100 ∧ x.f1.length ≤ 100) (ka wa aa kb wb ab : Int) : Ev (fun k => compositorref17_Pieces.f k l ka wa aa kb wb ab) (piecesV l ka wa aa kb wb ab) := by
  unfold compositorref17_Pieces.f piecesV
  refine Ev.bind (rcheck_f l (fun x hx => by have := (hs x hx).1; omega) (fun x hx => by have := (hs x hx).2; omega)) ?_
  cases hok : okB l with
  | false => simp only [Bool.false_eq_true, if_false]; exact Ev.now _
  | true =>
    simp only [if_true]
    refine Ev.bind (rstand_f l hl hs ka wa aa) ?_
    refine Ev.bind (rstand_f l hl hs kb wb ab) ?_
    cases hA : standB l ka wa aa with
    | false => simp only [Bool.false_eq_true, if_false, false_and]; exact Ev.now _
    | true =>
      cases hB : standB l kb wb ab with
      | false => simp only [Bool.false_eq_true, if_false, false_and, and_false]; exact Ev.now _
      | true =>
        simp only [if_true, true_and]
        by_cases hk : ka = 5
        · simp only [if_pos hk, hk, ne_eq, not_true, false_and, if_false]; exact Ev.now _
        · simp only [if_neg hk, ne_eq, hk, not_false_eq_true, true_and, rbefore_f, Option.bind_some]
          cases hbe : beforeB ka wa aa kb wb ab with
          | false => simp only [Bool.false_eq_true, if_false]; exact Ev.now _
          | true =>
            simp only [if_true]
            obtain ⟨Wa, Aa, sa⟩ := stands_of hA
            obtain ⟨Wb, Ab, sb⟩ := stands_of hB
            refine Ev.bind (cut_f l hl hs ka wa aa kb wb ab) ?_
            rw [cut_is sa sb hk hbe, sa.hw, sa.ha, sb.hw, sb.ha]
            simp only [Int.toNat_natCast]
            exact Ev.now _
theorem hyV_len (kind : Int) (out : List (List Int)) : (hyV kind out).length = out.length := by
  unfold hyV
  split
  · simp
  · rfl
theorem hyV_mem (kind : Int) (out : List (List Int)) (hx : ∀ x ∈ out, x.length ≤ 100) : ∀ x ∈ hyV kind out, x.length ≤ 101 := by
  intro x h
  unfold hyV at h
  split at h
  · rename_i c
    rcases List.mem_or_eq_of_mem_set h with h | h
    · have := hx x h; omega
    · rw [h, List.length_append, List.getD_eq_getElem?_getD, List.getElem?_eq_getElem (by omega), Option.getD_some]
      have := hx _ (List.getElem_mem (l := out) (n := out.length - 1) (by omega))
      simp; omega
  · have := hx x h; omega
theorem piecesV_small (l : List S41) (hl : l.length ≤ 110) (hs : ∀ x ∈ l, x.f0.length ≤ 100 ∧ x.f1.length ≤ 100) (ka wa aa kb wb ab : Int) : (piecesV l ka wa aa kb wb ab).1.length ≤ 111 ∧ ∀ x ∈ (piecesV l ka wa aa kb wb ab).1, x.length ≤ 101 := by
  unfold piecesV
  split
  · split
    · rename_i h
      obtain ⟨Wb, Ab, sb⟩ := stands_of h.2.1
      have h2 := sb.lt
      rw [sb.hw]
      refine ⟨by rw [hyV_len]; unfold pieceV; simp; omega, hyV_mem _ _ (fun x hx => ?_)⟩
      unfold pieceV at hx
      obtain ⟨j, _, rfl⟩ := List.mem_map.1 hx
      exact pieceAt_len hs _ _ _ _ _
    · exact ⟨by simp, fun x hx => by cases hx⟩
  · exact ⟨by simp, fun x hx => by cases hx⟩
end Go.Proofs.Ytepllkdlnajbjaa.L
