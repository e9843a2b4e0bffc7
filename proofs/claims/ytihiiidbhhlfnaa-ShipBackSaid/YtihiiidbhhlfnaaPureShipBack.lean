/- ShipBack: rows are read as they were written, and bytes that are rows are just theirs. -/
import Derived.Test.YtihiiidbhhlfnaaGStShipBack
import Derived.Test.YtihiiidbhhlfnaaLShipQ
import Derived.Test.YtihiiidbhhlfnaaLShipR
namespace Go.Proofs.Ytihiiidbhhlfnaa.Pure
open Go.RowKit Go.Proofs.Ytihiiidbhhlfnaa.G Go.Proofs.Ytihiiidbhhlfnaa.L Go.Proofs.YtihiiidbhhlfnaaW.PrintWords Go.Proofs.YtihiiidbhhlfnaaW.PrintLast
set_option linter.unusedVariables false
set_option linter.unusedSimpArgs false
theorem awake_60 : compositorlaw23_awake.f 60 = some true := by decide +kernel
theorem awake_ev : Ev (fun k => compositorlaw23_awake.f k) true := Ev.of (fun k => compositorlaw23_awake.mono k) awake_60
theorem rows_len : ∀ (s : List Row), (∀ r ∈ s, rowB r = true) → (s.flatMap bRow).length ≤ 4000 * s.length := by
  intro s
  induction s with
  | nil => intro _; simp
  | cons r s ih =>
    intro h
    have h1 := ih (fun r hr => h r (by simp [hr]))
    have h2 := (row_in (h r (by simp))).2.2.2.2.2.2.1
    simp only [List.flatMap_cons, List.length_append, bRow_len, List.length_cons]
    omega
theorem bRows_few {l : List Row} (h : okB l = true) : 3 ≤ (bRows l).length ∧ (bRows l).length ≤ 1000000 := by
  have h1 := okB_in h
  have h2 := rows_len l h1.2
  simp only [bRows, List.length_append, List.length_cons, List.length_nil]
  omega
theorem read_cut {l : List Row} (h : okB l = true) (c : Nat) (hc : c < (bRows l).length) : read ((bRows l).take c) = ([], 230) := by
  rcases read_cases _ (bytes_take (bRows_bytes l) c) with ⟨m, -, h2, h3⟩ | ⟨h1, -⟩
  · exfalso
    have e1 := parse_be h2 ((bRows l).drop c)
    have e2 := parse_be h []
    have h4 := (bRows_few h2).1
    rw [← h3, ← List.drop_append_of_le_length (by rw [h3]; omega), List.take_append_drop] at e1
    rw [List.append_nil, e1] at e2
    have e3 := congrArg (fun o => o.map fun r => r.2.length) e2
    simp at e3
    omega
  · exact h1
theorem read_more {l : List Row} (h : okB l = true) : read (bRows l ++ [0]) = ([], 230) := by
  rcases read_cases _ (bytes_app (bRows_bytes l) (show Bytes [0] by intro x hx; simp at hx; omega)) with ⟨m, -, h2, h3⟩ | ⟨h1, -⟩
  · exfalso
    have e1 := parse_be h2 []
    have e2 := parse_be h [0]
    have h4 := (bRows_few h).1
    rw [List.append_nil, ← h3, List.drop_append_of_le_length (by omega), e2] at e1
    have e3 := congrArg (fun o => o.map fun r => r.2.length) e1
    simp at e3
  · exact h1
theorem tail_ev (b : List Int) (hb : Bytes b) : Ev (fun k => ((ship_Read.f k b).bind fun bt386 => ((ship_Write.f k bt386.1).bind fun bt390 => (if true = true then (if bt386.2 = 0 then (if bt390.2 = 0 then (some ((strOfNums bt390.1).toList == (strOfNums b).toList)) else (none)) else (some true)) else (none))))) true := by
  refine Ev.bind (read_f b hb) ?_
  refine Ev.bind (write_f _) ?_
  simp only [if_true]
  rcases read_cases b hb with ⟨m, h1, h2, h3⟩ | ⟨h1, -⟩
  · rw [h1]
    simp only [write, h2, if_true]
    rw [← h3, BEq.rfl]
    exact Ev.now _
  · rw [h1]
    simp only
    exact Ev.now _
theorem all_nil (l : List Row) : ∃ y, Ev (fun k => compositorref19_All.f k l []) y := by
  unfold compositorref19_All.f
  by_cases h : (l.length : Int) = (([] : List Row).length : Int)
  · simp only [if_pos h]
    refine ⟨true, Ev.step (fun k => compositorref19_All.l0.eq_2 _ _ _ _) ?_⟩
    simp only [List.length_nil] at h
    simp only [if_neg (show ¬ (0 : Int) < (l.length : Int) by omega)]
    exact Ev.now _
  · simp only [if_neg h]
    exact ⟨false, Ev.now _⟩
theorem shipBack_ev (l : List Row) (b : List Int) (n : Int) (hb : Bytes b) (hn : 0 ≤ n ∧ n < 65536) : Ev (fun k => compositorlaw23_ShipBack.f k l b n) true := by
  unfold compositorlaw23_ShipBack.f
  refine Ev.bind awake_ev ?_
  refine Ev.bind (few_f l) ?_
  have out : Ev (fun k => compositorlaw23_ShipBack.j0 k l b n true true) true := by
    refine Ev.step (fun k => compositorlaw23_ShipBack.j0.eq_2 _ _ _ _ _ _) ?_
    simp only [if_true]
    exact Ev.now _
  cases h : fewB l
  · simp only [Bool.false_eq_true, if_false]
    exact out
  have hf := few_in h
  simp only [if_true]
  by_cases h5 : (b.length : Int) > 5000
  · simp only [decide_eq_true h5]
    exact out
  simp only [decide_eq_false h5]
  refine Ev.step (fun k => compositorlaw23_ShipBack.j0.eq_2 _ _ _ _ _ _) ?_
  simp only [Bool.false_eq_true, if_false]
  refine Ev.bind (write_f l) ?_
  by_cases ho : okB l = true
  · have hw : write l = (bRows l, 0) := by simp only [write, ho, if_true]
    have hl := bRows_few ho
    rw [hw]
    refine Ev.bind (read_f _ (bRows_bytes l)) ?_
    rw [read_be ho]
    refine Ev.bind (all_f l (by omega) (fun r hr => by have := hf.2 r hr; omega)) ?_
    simp only [if_true, if_neg (show ¬ ((bRows l).length : Int) < 3 by omega), check_f, Option.bind_some, ho, BEq.rfl, bne_self_eq_false]
    refine Ev.step (fun k => compositorlaw23_ShipBack.j1.eq_2 _ _ _ _ _ _ _) ?_
    obtain ⟨c, rfl⟩ : ∃ c : Nat, n = (c : Int) := ⟨n.toNat, by omega⟩
    have e1 : Int.tmod (wrap64 (c : Int)) ((bRows l).length : Int) = ((c % (bRows l).length : Nat) : Int) := by
      rw [wrap_in (by omega) (by omega)]
      rfl
    have hc : c % (bRows l).length < (bRows l).length := Nat.mod_lt _ (by omega)
    simp only [Bool.false_eq_true, if_false, if_true, if_neg (show ¬ ((bRows l).length : Int) = 0 by omega), e1, if_pos (show (0 : Int) ≤ ((c % (bRows l).length : Nat) : Int) by omega), if_pos (show ((c % (bRows l).length : Nat) : Int) ≤ ((bRows l).length : Int) by omega), Int.toNat_natCast, Option.bind_some, List.nil_append, List.length_nil, Nat.zero_add, if_pos (show (bRows l).length < 140737488355328 by omega)]
    refine Ev.bind (read_f _ (bytes_take (bRows_bytes l) _)) ?_
    refine Ev.bind (read_f _ (bytes_app (bRows_bytes l) (show Bytes [0] by intro x hx; simp at hx; omega))) ?_
    rw [read_cut ho _ hc, read_more ho]
    simp only [if_true, bne_self_eq_false]
    refine Ev.step (fun k => compositorlaw23_ShipBack.j2.eq_2 _ _ _ _) ?_
    simp only [Bool.false_eq_true, if_false]
    exact tail_ev b hb
  · have hw : write l = ([], 230) := by simp only [write, if_neg ho]
    rw [hw]
    refine Ev.bind (read_f _ (show Bytes [] by intro x hx; simp at hx)) ?_
    have hr : read [] = ([], 230) := rfl
    rw [hr]
    obtain ⟨y, hy⟩ := all_nil l
    refine Ev.bind hy ?_
    have ho' : okB l = false := by simpa using ho
    simp only [check_f, Option.bind_some, ho', show ¬ (230 : Int) = 0 by decide, if_false, show ((230 : Int) == 0) = false by decide, bne_self_eq_false]
    refine Ev.step (fun k => compositorlaw23_ShipBack.j1.eq_2 _ _ _ _ _ _ _) ?_
    simp only [Bool.false_eq_true, if_false, show ¬ (230 : Int) = 0 by decide]
    exact tail_ev b hb
theorem ShipBack : compositorlaw23_ShipBack.Pure := fun l b n _ hb hn => (shipBack_ev l b n (wf_bytes hb.2.2) (by
  have h1 : IntKind.u16.min = 0 := by decide
  have h2 : IntKind.u16.max = 65535 := by decide
  simp only [Lit.wf, Bool.and_eq_true, decide_eq_true_eq, h1, h2] at hn
  omega)).rounds
end Go.Proofs.Ytihiiidbhhlfnaa.Pure
