/- The bytes of rows: the program's and the reference's writing. -/
import Derived.Test.YtihiiidbhhlfnaaLShip
namespace Go.Proofs.Ytihiiidbhhlfnaa.L
open Go.RowKit Go.Proofs.Ytihiiidbhhlfnaa.G Go.Proofs.YtihiiidbhhlfnaaW.PrintWords
set_option linter.unusedVariables false
set_option linter.unusedSimpArgs false
theorem word_in {n : Int} (h : wordB n = true) : -2147483648 ≤ n ∧ n < 2147483648 := by
  simpa [wordB] using h
theorem row_in {r : Row} (h : rowB r = true) : -8 ≤ r.f0 ∧ r.f0 ≤ 8 ∧ 1 ≤ r.f1 ∧ r.f1 ≤ 5 ∧ wordB r.f2 = true ∧ wordB r.f3 = true ∧ (r.f4.length : Int) ≤ 600 ∧ r.f4.all itemB = true := by
  simp only [rowB, Bool.and_eq_true, decide_eq_true_eq] at h
  exact h
theorem item_in {p : Item} (h : itemB p = true) : 0 ≤ p.f0 ∧ p.f0 ≤ 255 ∧ wordB p.f1 = true := by
  simp only [itemB, Bool.and_eq_true, decide_eq_true_eq] at h
  exact h
theorem okB_in {l : List Row} (h : okB l = true) : l.length ≤ 200 ∧ ∀ r ∈ l, rowB r = true := by
  simp only [okB, Bool.and_eq_true, decide_eq_true_eq, List.all_eq_true] at h
  exact ⟨by omega, h.2⟩
theorem step0 (k : Nat) (xs : List Int) (n : Int) (h : xs.length < 100000000000) : ship_out_put.step k 0 xs n = some (xs ++ [n % 256]) := by
  unfold ship_out_put.step
  rw [if_pos rfl, if_pos (by omega)]
theorem step1 (k : Nat) (xs : List Int) (n : Int) (h : xs.length < 100000000000) (hn : wordB n = true) : ship_out_put.step (k + 10) 1 xs n = some (xs ++ be (n % 4294967296) 4) := by
  have := word_in hn
  unfold ship_out_put.step
  rw [if_neg (by decide), if_pos rfl, putfix k [] n (by simp), if_pos this]
  simp only [Option.bind_some, List.nil_append, be_len]
  rw [if_pos (by omega)]
theorem step2 (k : Nat) (xs : List Int) (n : Int) (h : xs.length < 100000000000) (h0 : 0 ≤ n) (hn : n < 65536) : ship_out_put.step (k + 10) 2 xs n = some (xs ++ be n 2) := by
  unfold ship_out_put.step
  rw [if_neg (by decide), if_neg (by decide), show (2 : Int) = ((2 : Nat) : Int) from rfl, put_ok k xs n 2 (by omega) (by omega) h0 (by omega) (by omega)]
  rfl
theorem items_f (k : Nat) : ∀ (l : List Item) (xs : List Int), l.all itemB = true → xs.length + 5 * l.length < 10000000000 → ship_Write.items (k + 10) l xs = some (xs ++ l.flatMap bItem) := by
  intro l
  induction l with
  | nil => intro xs _ _; simp [ship_Write.items]
  | cons p l ih =>
    intro xs h hl
    simp only [List.all_cons, Bool.and_eq_true] at h
    simp only [List.length_cons] at hl
    have hp := item_in h.1
    simp only [ship_Write.items, ship_Write.item, ship_out_put.f]
    rw [step0 _ _ _ (by omega)]
    simp only [Option.bind_some]
    rw [step1 k _ _ (by simp; omega) hp.2.2]
    simp only [Option.bind_some]
    rw [ih _ h.2 (by simp [be_len]; omega)]
    simp [bItem]
theorem rows_f (k : Nat) : ∀ (l : List Row) (xs : List Int), (∀ r ∈ l, rowB r = true) → xs.length + 4000 * l.length < 1000000000 → ship_Write.rows (k + 10) l xs = some (xs ++ l.flatMap bRow) := by
  intro l
  induction l with
  | nil => intro xs _ _; simp [ship_Write.rows]
  | cons r l ih =>
    intro xs h hl
    have hr := row_in (h r (by simp))
    simp only [List.length_cons] at hl
    simp only [ship_Write.rows, ship_Write.head, ship_out_put.f]
    rw [step0 _ _ _ (by omega)]
    simp only [Option.bind_some]
    rw [step0 _ _ _ (by simp; omega)]
    simp only [Option.bind_some]
    rw [step1 k _ _ (by simp; omega) hr.2.2.2.2.1]
    simp only [Option.bind_some]
    rw [step1 k _ _ (by simp [be_len]; omega) hr.2.2.2.2.2.1]
    simp only [Option.bind_some]
    rw [step2 k _ _ (by simp [be_len]; omega) (by omega) (by have := hr.2.2.2.2.2.2.1; omega)]
    simp only [Option.bind_some]
    have h7 := hr.2.2.2.2.2.2.1
    rw [items_f k _ _ hr.2.2.2.2.2.2.2 (by simp [be_len]; omega)]
    simp only [Option.bind_some]
    rw [ih _ (fun r hr => h r (by simp [hr])) (by simp only [List.length_append, List.length_cons, List.length_nil, be_len, bItems_len]; omega)]
    rw [wrap_in (by omega) (by omega)]
    simp [bRow]
def write (l : List Row) : List Int × Int := if okB l = true then (bRows l, 0) else ([], 230)
theorem write_f (l : List Row) : Ev (fun k => ship_Write.f k l) (write l) := by
  refine ⟨10, fun k hk => ?_⟩
  obtain ⟨m, rfl⟩ : ∃ m, k = m + 10 := ⟨k - 10, by omega⟩
  unfold ship_Write.f write
  rw [check_f]
  simp only [Option.bind_some]
  cases h : okB l
  · rfl
  · have h' := okB_in h
    simp only [if_true]
    rw [rows_f m l _ h'.2 (by simp; omega)]
    simp [bRows]
theorem rput_ev (l : List Int) (n : Int) (h0 : 0 ≤ n) (hn : n < 65536) (hl : l.length < 140737488355000) : Ev (fun k => compositorref06_Put.f k l n 2) (l ++ be n 2, 0) := by
  refine ⟨20, fun k hk => ?_⟩
  obtain ⟨m, rfl⟩ : ∃ m, k = m + 20 := ⟨k - 20, by omega⟩
  exact rput_ok m l n 2 (by omega) (by omega) h0 (by omega) hl
theorem rputfix_ev (l : List Int) (n : Int) (hn : wordB n = true) (hl : l.length < 140737488355000) : Ev (fun k => compositorref06_PutFix.f k l n) (l ++ be (n % 4294967296) 4, 0) := by
  refine ⟨21, fun k hk => ?_⟩
  obtain ⟨m, rfl⟩ : ∃ m, k = m + 21 := ⟨k - 21, by omega⟩
  simp only [rputfix m l n hl, if_pos (word_in hn)]
theorem rwrite_l1 (l : List Row) (i : Nat) (hi : i < l.length) (hr : rowB l[i] = true) (r : List Int × Int) (y : List Int) (hy : y.length < 1000000000)
    (hn : ∀ ys, ys = y ++ l[i].f4.flatMap bItem → Ev (fun k => compositorref23_Write.l0 k l ys (wrap64 ((i : Int) + 1))) r) :
    ∀ (m j : Nat), l[i].f4.length - j = m → j ≤ l[i].f4.length → Ev (fun k => compositorref23_Write.l1 k l (y ++ (l[i].f4.take j).flatMap bItem) (i : Int) (j : Int)) r := by
  have h7 := (row_in hr).2.2.2.2.2.2.1
  have h8 := (row_in hr).2.2.2.2.2.2.2
  intro m
  induction m with
  | zero =>
    intro j hd hj
    refine Ev.step (fun k => compositorref23_Write.l1.eq_2 _ _ _ _ _) ?_
    have hge : ¬ (j : Int) < (l[i].f4.length : Int) := by omega
    simp only [if_pos (show (0 : Int) ≤ (i : Int) by omega), if_pos (show (i : Int) < (l.length : Int) by omega), rd_row l i hi, if_neg hge]
    rw [List.take_of_length_le (by omega)]
    exact hn _ rfl
  | succ m ih =>
    intro j hd hj
    have hlt : j < l[i].f4.length := by omega
    have hp := item_in (List.all_eq_true.1 h8 _ (List.getElem_mem hlt))
    have hlen : ((l[i].f4.take j).flatMap bItem).length ≤ 3000 := by rw [bItems_len]; simp; omega
    refine Ev.step (fun k => compositorref23_Write.l1.eq_2 _ _ _ _ _) ?_
    simp only [if_pos (show (0 : Int) ≤ (i : Int) by omega), if_pos (show (i : Int) < (l.length : Int) by omega), rd_row l i hi, if_pos (show (j : Int) < (l[i].f4.length : Int) by omega), if_pos (show (0 : Int) ≤ (j : Int) by omega), rd_item _ j hlt, wrap_nat j (by omega)]
    refine Ev.bind (rputfix_ev [] _ hp.2.2 (by simp)) ?_
    have e1 : (y ++ (l[i].f4.take j).flatMap bItem).length < 140737488355328 := by rw [List.length_append]; omega
    simp only [if_pos e1, Option.bind_some]
    have e2 : (y ++ (l[i].f4.take j).flatMap bItem ++ [l[i].f4[j].f0 % 256]).length + ([] ++ be (l[i].f4[j].f1 % 4294967296) 4).length < 140737488355328 := by simp only [List.length_append, List.length_cons, List.length_nil, be_len] at *; omega
    simp only [if_pos e2]
    have e3 : (y ++ (l[i].f4.take j).flatMap bItem ++ [l[i].f4[j].f0 % 256]) ++ ([] ++ be (l[i].f4[j].f1 % 4294967296) 4) = y ++ (l[i].f4.take (j + 1)).flatMap bItem := by
      rw [List.take_succ_eq_append_getElem hlt, List.flatMap_append]
      simp [bItem]
    rw [e3]
    exact ih (j + 1) (by omega) (by omega)
theorem rwrite_l0 (l : List Row) (hl : l.length ≤ 200) (hr : ∀ r ∈ l, rowB r = true) (y : List Int) (hy : y.length < 1000) : ∀ (m i : Nat), l.length - i = m → i ≤ l.length →
    Ev (fun k => compositorref23_Write.l0 k l (y ++ (l.take i).flatMap bRow) (i : Int)) (y ++ l.flatMap bRow, 0) := by
  have hlen : ∀ (s : List Row), (∀ r ∈ s, rowB r = true) → (s.flatMap bRow).length ≤ 4000 * s.length := by
    intro s
    induction s with
    | nil => intro _; simp
    | cons r s ih =>
      intro h
      have h1 := ih (fun r hr => h r (by simp [hr]))
      have h2 := (row_in (h r (by simp))).2.2.2.2.2.2.1
      simp only [List.flatMap_cons, List.length_append, bRow_len, List.length_cons]
      omega
  intro m
  induction m with
  | zero =>
    intro i hd hi
    refine Ev.step (fun k => compositorref23_Write.l0.eq_2 _ _ _ _) ?_
    have hge : ¬ (i : Int) < (l.length : Int) := by omega
    simp only [if_neg hge]
    rw [List.take_of_length_le (by omega)]
    exact Ev.now _
  | succ m ih =>
    intro i hd hi
    have hlt : i < l.length := by omega
    have hri := hr _ (List.getElem_mem hlt)
    have hr1 := row_in hri
    have h9 := hlen (l.take i) (fun r h => hr r (List.mem_of_mem_take h))
    have h10 : (l.take i).length ≤ 200 := by simp; omega
    refine Ev.step (fun k => compositorref23_Write.l0.eq_2 _ _ _ _) ?_
    have hb8 : wrap64 (l[i].f0 + 8) = l[i].f0 + 8 := wrap_in (by omega) (by omega)
    simp only [if_pos (show (0 : Int) ≤ (i : Int) by omega), if_pos (show (i : Int) < (l.length : Int) by omega), rd_row l i hlt, Option.bind_some, hb8]
    have e1 : (y ++ (l.take i).flatMap bRow).length + [(l[i].f0 + 8) % 256, l[i].f1 % 256].length < 140737488355328 := by simp only [List.length_append, List.length_cons, List.length_nil]; omega
    simp only [if_pos e1]
    refine Ev.bind (rputfix_ev _ _ hr1.2.2.2.2.1 (by simp only [List.length_append, List.length_cons, List.length_nil]; omega)) ?_
    refine Ev.bind (rputfix_ev _ _ hr1.2.2.2.2.2.1 (by simp only [List.length_append, List.length_cons, List.length_nil, be_len]; omega)) ?_
    refine Ev.bind (rput_ev _ _ (by omega) (by have := hr1.2.2.2.2.2.2.1; omega) (by simp only [List.length_append, List.length_cons, List.length_nil, be_len]; omega)) ?_
    refine Ev.eq (rwrite_l1 l i hlt hri (y ++ l.flatMap bRow, 0) _ (by simp only [List.length_append, List.length_cons, List.length_nil, be_len]; omega) ?_ _ 0 rfl (by omega)) rfl |> fun h => by simpa using h
    intro ys hys
    have e3 : ys = y ++ (l.take (i + 1)).flatMap bRow := by
      rw [hys, List.take_succ_eq_append_getElem hlt, List.flatMap_append]
      simp [bRow]
    rw [e3, wrap_nat i (by omega)]
    exact ih (i + 1) (by omega) (by omega)
theorem rwrite_f (l : List Row) : Ev (fun k => compositorref23_Write.f k l) (write l) := by
  unfold compositorref23_Write.f write
  refine Ev.bind (rcheck_f l) ?_
  cases h : okB l
  · exact Ev.now _
  · have h' := okB_in h
    simp only [if_true]
    have := rwrite_l0 l h'.1 h'.2 [67, 79, (l.length : Int) % 256] (by simp) _ 0 rfl (by omega)
    simpa [bRows] using this
end Go.Proofs.Ytihiiidbhhlfnaa.L
