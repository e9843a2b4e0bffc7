/- The words of any lines' pieces, that end anyhow, are what the document says (at most thirty lines, of thirty pieces, of a hundred codes). -/
import Derived.Test.YtepllkdlnajbjaaLWhole
import Derived.Test.YtepllkdlnajbjaaLAwake
import Derived.Test.YtepllkdlnajbjaaGStPieceWholes
namespace Go.Proofs.Ytepllkdlnajbjaa.Pure
open Go.RowKit Go.Proofs.Ytepllkdlnajbjaa.G Go.Proofs.Ytepllkdlnajbjaa.L Go.Proofs.YtepllkdlnajbjaaW.PrintWords Go.Proofs.YtepllkdlnajbjaaW.PrintLast Go.Proofs.YtepllkdlnajbjaaW.PrintMore
set_option linter.unusedVariables false
set_option linter.unusedSimpArgs false
theorem wholes_end (L : List (List (List Int))) (E : List S24) (hS : Small L) (hE : E.length ≤ 40) : Ev (fun k => ((piece_Whole.f k L E).bind fun t => ((compositorref17_Whole.f k L E).bind fun u => ((compositorref17_Same.f k t u).bind fun v => (if true = true then (some v) else (none)))))) true := by
  refine Ev.bind (whole_f L E hS hE) ?_
  refine Ev.bind (rwhole_f L E hS hE) ?_
  have hf := fits_whole L E false [] 0 hS.2 ⟨by simp, fun x hx => by cases hx⟩
  have h30 := hS.1
  refine Ev.bind (same17 _ (by have := hf.many; omega) (fun x hx => by have := hf.long x hx; omega)) ?_
  simp only [if_true]
  exact Ev.now _
theorem wholes_l1 (L : List (List (List Int))) (E : List S24) (i : Nat) (hi : i < L.length) (hL : L.length ≤ 30) (hm : L[i].length ≤ 30)
    (next : (∀ p ∈ L[i], p.length ≤ 100) → Ev (fun k => compositorlaw17_PieceWholes.l0 k L E true ((i + 1 : Nat) : Int)) true) :
    ∀ (d j : Nat), L[i].length - j = d → j ≤ L[i].length → (∀ p ∈ L[i].take j, p.length ≤ 100) → Ev (fun k => compositorlaw17_PieceWholes.l1 k L E true (i : Int) (j : Int)) true := by
  intro d
  induction d with
  | zero =>
    intro j hd hj hp
    refine Ev.step (fun kk => compositorlaw17_PieceWholes.l1.eq_2 _ _ _ _ _ _) ?_
    simp only [rd_line3 L i hi, if_pos (show (0 : Int) ≤ (i : Int) by omega), if_pos (show (i : Int) < (L.length : Int) by omega), if_neg (show ¬ (j : Int) < (L[i].length : Int) by omega), wrap_nat i (by omega)]
    rw [List.take_of_length_le (by omega)] at hp
    exact next hp
  | succ d ih =>
    intro j hd hj hp
    have hlt : j < L[i].length := by omega
    refine Ev.step (fun kk => compositorlaw17_PieceWholes.l1.eq_2 _ _ _ _ _ _) ?_
    simp only [rd_line3 L i hi, rd_row L[i] j hlt, if_pos (show (0 : Int) ≤ (i : Int) by omega), if_pos (show (0 : Int) ≤ (j : Int) by omega), if_pos (show (i : Int) < (L.length : Int) by omega), if_pos (show (j : Int) < (L[i].length : Int) by omega), wrap_nat j (by omega)]
    by_cases h : (L[i][j].length : Int) > 100
    · simp only [if_pos h]
      exact Ev.now _
    · simp only [if_neg h]
      refine ih (j + 1) (by omega) (by omega) (fun p hpm => ?_)
      rw [List.take_succ_eq_append_getElem hlt] at hpm
      rcases List.mem_append.1 hpm with hpm | hpm
      · exact hp p hpm
      · rw [List.mem_singleton.1 hpm]; omega
theorem wholes_l0 (L : List (List (List Int))) (E : List S24) (hL : L.length ≤ 30) (hE : E.length ≤ 40) : ∀ (d i : Nat), L.length - i = d → i ≤ L.length → (∀ l ∈ L.take i, l.length ≤ 30 ∧ ∀ p ∈ l, p.length ≤ 100) → Ev (fun k => compositorlaw17_PieceWholes.l0 k L E true (i : Int)) true := by
  intro d
  induction d with
  | zero =>
    intro i hd hi hp
    refine Ev.step (fun kk => compositorlaw17_PieceWholes.l0.eq_2 _ _ _ _ _) ?_
    simp only [if_neg (show ¬ (i : Int) < (L.length : Int) by omega)]
    rw [List.take_of_length_le (by omega)] at hp
    exact wholes_end L E ⟨hL, hp⟩ hE
  | succ d ih =>
    intro i hd hi hp
    have hlt : i < L.length := by omega
    refine Ev.step (fun kk => compositorlaw17_PieceWholes.l0.eq_2 _ _ _ _ _) ?_
    simp only [rd_line3 L i hlt, if_pos (show (0 : Int) ≤ (i : Int) by omega), if_pos (show (i : Int) < (L.length : Int) by omega)]
    by_cases h : (L[i].length : Int) > 30
    · simp only [if_pos h]
      exact Ev.now _
    · simp only [if_neg h]
      refine wholes_l1 L E i hlt hL (by omega) (fun hpi => ?_) L[i].length 0 (by omega) (by omega) (fun p hpm => by simp at hpm)
      refine ih (i + 1) (by omega) (by omega) (fun l hl => ?_)
      rw [List.take_succ_eq_append_getElem hlt] at hl
      rcases List.mem_append.1 hl with hl | hl
      · exact hp l hl
      · rw [List.mem_singleton.1 hl]; exact ⟨by omega, hpi⟩
theorem PieceWholes : compositorlaw17_PieceWholes.Pure := by
  intro L E _ _
  refine Ev.rounds (g := fun k => compositorlaw17_PieceWholes.f k L E) ?_
  unfold compositorlaw17_PieceWholes.f
  refine Ev.bind awake_ev ?_
  by_cases h1 : (L.length : Int) > 30
  · simp only [if_pos h1]
    exact Ev.step (fun kk => compositorlaw17_PieceWholes.j0.eq_2 _ _ _ _ _) (by simp only [if_true]; exact Ev.now _)
  · simp only [if_neg h1]
    refine Ev.step (fun kk => compositorlaw17_PieceWholes.j0.eq_2 _ _ _ _ _) ?_
    by_cases h2 : (E.length : Int) > 40
    · simp only [decide_eq_true h2, if_true]
      exact Ev.now _
    · simp only [decide_eq_false h2, Bool.false_eq_true, if_false]
      exact wholes_l0 L E (by omega) (by omega) L.length 0 (by omega) (by omega) (fun l hl => by simp at hl)
end Go.Proofs.Ytepllkdlnajbjaa.Pure
