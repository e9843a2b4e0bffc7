/- ShipSize: rows' bytes are three, twelve for each row and five for each item; the rows that are too long rise. -/
import Derived.Test.YtihiiidbhhlfnaaGStShipSize
import Derived.Test.YtihiiidbhhlfnaaLShipW
import Derived.Test.YtihiiidbhhlfnaaLShipR
import Derived.Test.YtihiiidbhhlfnaaLAwake
namespace Go.Proofs.Ytihiiidbhhlfnaa.Pure
open Go.RowKit Go.Proofs.Ytihiiidbhhlfnaa.G Go.Proofs.Ytihiiidbhhlfnaa.L Go.Proofs.YtihiiidbhhlfnaaW.PrintWords
set_option linter.unusedVariables false
set_option linter.unusedSimpArgs false
def size : List Row → Nat
  | [] => 0
  | r :: l => 12 + 5 * r.f4.length + size l
theorem size_rows (l : List Row) : (l.flatMap bRow).length = size l := by
  induction l with
  | nil => rfl
  | cons r l ih => simp only [List.flatMap_cons, List.length_append, bRow_len, ih, size]
theorem size_le (l : List Row) (h : ∀ r ∈ l, r.f4.length ≤ 700) : size l ≤ 4000 * l.length := by
  induction l with
  | nil => simp [size]
  | cons r l ih =>
    have h1 := ih (fun r hr => h r (by simp [hr]))
    have h2 := h r (by simp)
    simp only [size, List.length_cons]
    omega
theorem size_snoc (l : List Row) (r : Row) : size (l ++ [r]) = size l + 12 + 5 * r.f4.length := by
  induction l with
  | nil => simp [size]
  | cons x l ih => simp only [List.cons_append, size, ih]; omega
theorem both_len : ∀ (l : List Row) (i : Nat), (L.nums neg i l).length + (L.nums pos i l).length ≤ l.length := by
  intro l
  induction l with
  | nil => intro i; simp [L.nums]
  | cons r l ih =>
    intro i
    have := ih (i + 1)
    simp only [L.nums, neg, pos]
    by_cases h1 : r.f3 < 0
    · have h2 : ¬ r.f3 > 0 := by omega
      simp only [h1, h2, decide_true, decide_false, if_true, Bool.false_eq_true, if_false, List.length_cons]; omega
    · by_cases h2 : r.f3 > 0
      · simp only [h1, h2, decide_true, decide_false, if_true, Bool.false_eq_true, if_false, List.length_cons]; omega
      · simp only [h1, h2, decide_false, Bool.false_eq_true, if_false, List.length_cons]; omega
theorem size_l1 (l : List Row) (hl : l.length ≤ 210) (n : Int) (hn : n = 3 + size l) (hw : okB l = true → (bRows l).length = 3 + size l) : ∀ (m i c : Nat), l.length - i = m → i ≤ l.length → c ≤ i → c ≤ (L.nums neg 0 l).length → (L.nums neg 0 l).drop c = L.nums neg i (l.drop i) →
    Ev (fun k => compositorlaw23_ShipSize.l1 k l true n (write l).1 (write l).2 (L.nums neg 0 l) (L.nums pos 0 l) (c : Int) (i : Int)) true := by
  have hb := both_len l 0
  intro m
  induction m with
  | zero =>
    intro i c hd hi hc hco hdr
    refine Ev.step (fun k => compositorlaw23_ShipSize.l1.eq_2 _ _ _ _ _ _ _ _ _ _) ?_
    have hge : ¬ (i : Int) < (l.length : Int) := by omega
    rw [List.drop_of_length_le (show l.length ≤ i by omega)] at hdr
    simp only [L.nums] at hdr
    have hcl : (L.nums neg 0 l).length ≤ c := List.drop_eq_nil_iff.1 hdr
    have hce : (c : Int) = ((L.nums neg 0 l).length : Int) := by omega
    have hlast : decide (wrap64 (((L.nums neg 0 l).length : Int) + ((L.nums pos 0 l).length : Int)) ≤ (l.length : Int)) = true := by
      rw [wrap_in (by omega) (by omega)]
      exact decide_eq_true (by omega)
    simp only [if_neg hge, if_true, hlast, if_pos hce, write]
    cases h : okB l
    · simp only [Bool.false_eq_true, if_false]
      rw [if_neg (by decide)]
      simp only [List.length_nil]
      exact Ev.now _
    · have := hw h
      simp only [if_true]
      rw [if_pos (by omega)]
      exact Ev.now _
  | succ m ih =>
    intro i c hd hi hc hco hdr
    have hlt : i < l.length := by omega
    refine Ev.step (fun k => compositorlaw23_ShipSize.l1.eq_2 _ _ _ _ _ _ _ _ _ _) ?_
    simp only [if_pos (show (0 : Int) ≤ (i : Int) by omega), if_pos (show (i : Int) < (l.length : Int) by omega), rd_row l i hlt, wrap_nat i (by omega), wrap_nat c (by omega)]
    rw [drop_at l i hlt] at hdr
    simp only [L.nums, neg] at hdr
    by_cases h1 : l[i].f3 < 0
    · simp only [h1, decide_true, if_true] at hdr
      have hcl : c < (L.nums neg 0 l).length := by
        apply Classical.byContradiction
        intro hx
        rw [List.drop_of_length_le (by omega)] at hdr
        cases hdr
      rw [drop_at _ c hcl] at hdr
      have h2 := (List.cons.inj hdr).1
      have h3 := (List.cons.inj hdr).2
      have e1 : wrap64 ((i : Int) - (c : Int)) = (i : Int) - (c : Int) := wrap_in (by omega) (by omega)
      have h4 : ¬ ((c : Int) ≥ ((L.nums neg 0 l).length : Int)) := by omega
      simp only [if_pos h1, e1, if_neg (show ¬ ((i : Int) - (c : Int) < 0) by omega), if_neg h4, if_pos (show (0 : Int) ≤ (c : Int) by omega), if_pos (show (c : Int) < ((L.nums neg 0 l).length : Int) by omega), rd_nat _ c hcl, h2, if_true]
      exact ih (i + 1) (c + 1) (by omega) (by omega) (by omega) (by omega) h3
    · simp only [h1, decide_false, Bool.false_eq_true, if_false] at hdr
      simp only [if_neg h1]
      exact ih (i + 1) c (by omega) (by omega) (by omega) (by omega) hdr
theorem size_l0 (l : List Row) (hl : l.length ≤ 210) (h7 : ∀ r ∈ l, r.f4.length ≤ 700) : ∀ (m i : Nat), l.length - i = m → i ≤ l.length →
    Ev (fun k => compositorlaw23_ShipSize.l0 k l true (3 + (size (l.take i) : Int)) (i : Int)) true := by
  intro m
  induction m with
  | zero =>
    intro i hd hi
    refine Ev.step (fun k => compositorlaw23_ShipSize.l0.eq_2 _ _ _ _ _) ?_
    have hge : ¬ (i : Int) < (l.length : Int) := by omega
    simp only [if_neg hge]
    rw [List.take_of_length_le (by omega)]
    refine Ev.bind (write_f l) ?_
    refine Ev.bind (report_f l hl) ?_
    exact size_l1 l hl _ rfl (fun _ => by simp only [bRows, List.length_append, size_rows, List.length_cons, List.length_nil]) _ 0 0 rfl (by omega) (by omega) (by omega) rfl
  | succ m ih =>
    intro i hd hi
    have hlt : i < l.length := by omega
    have h1 := size_le (l.take i) (fun r h => h7 r (List.mem_of_mem_take h))
    have h2 : (l.take i).length ≤ 210 := by simp; omega
    have h3 := h7 _ (List.getElem_mem hlt)
    have h4 := ih (i + 1) (by omega) (by omega)
    rw [List.take_succ_eq_append_getElem hlt, size_snoc] at h4
    refine Ev.step (fun k => compositorlaw23_ShipSize.l0.eq_2 _ _ _ _ _) ?_
    have e1 : wrap64 (wrap64 (3 + (size (l.take i) : Int) + 12) + wrap64 (5 * (l[i].f4.length : Int))) = 3 + ((size (l.take i) + 12 + 5 * l[i].f4.length : Nat) : Int) := by
      rw [wrap_in (n := 3 + (size (l.take i) : Int) + 12) (by omega) (by omega), wrap_in (n := 5 * (l[i].f4.length : Int)) (by omega) (by omega), wrap_in (by omega) (by omega)]
      omega
    simp only [if_pos (show (0 : Int) ≤ (i : Int) by omega), if_pos (show (i : Int) < (l.length : Int) by omega), rd_row l i hlt, wrap_nat i (by omega), e1]
    exact h4
theorem shipSize_ev (l : List Row) : Ev (fun k => compositorlaw23_ShipSize.f k l) true := by
  unfold compositorlaw23_ShipSize.f
  refine Ev.bind awake_ev ?_
  refine Ev.bind (few_f l) ?_
  cases h : fewB l
  · exact Ev.now _
  have hl := few_in h
  simp only [if_true]
  exact size_l0 l hl.1 hl.2 _ 0 rfl (by omega)
theorem ShipSize : compositorlaw23_ShipSize.Pure := fun l _ => (shipSize_ev l).rounds
end Go.Proofs.Ytihiiidbhhlfnaa.Pure
