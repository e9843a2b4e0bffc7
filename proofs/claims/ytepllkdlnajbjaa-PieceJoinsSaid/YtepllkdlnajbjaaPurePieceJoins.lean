/- What stands on two lines, that are parted at a space, is what stands on one between their ends (at most a hundred and ten words of a hundred codes). -/
import Derived.Test.YtepllkdlnajbjaaLPiece
import Derived.Test.YtepllkdlnajbjaaLAwake
import Derived.Test.YtepllkdlnajbjaaGStPieceJoins
namespace Go.Proofs.Ytepllkdlnajbjaa.Pure
open Go.RowKit Go.Proofs.Ytepllkdlnajbjaa.G Go.Proofs.Ytepllkdlnajbjaa.L Go.Proofs.YtepllkdlnajbjaaW.PrintWords Go.Proofs.YtepllkdlnajbjaaW.PrintLast Go.Proofs.YtepllkdlnajbjaaW.PrintMore
set_option linter.unusedVariables false
set_option linter.unusedSimpArgs false
theorem piecesV_ok {l : List S41} {ka wa aa kb wb ab : Int} (h : (piecesV l ka wa aa kb wb ab).2 = 0) : okB l = true ∧ standB l ka wa aa = true ∧ standB l kb wb ab = true ∧ ka ≠ 5 ∧ beforeB ka wa aa kb wb ab = true := by
  unfold piecesV at h
  split at h
  · split at h
    · rename_i h0 h1
      exact ⟨h0, h1⟩
    · cases h
  · cases h
theorem piecesV_is {l : List S41} {ka wa aa kb wb ab : Int} (h : okB l = true ∧ standB l ka wa aa = true ∧ standB l kb wb ab = true ∧ ka ≠ 5 ∧ beforeB ka wa aa kb wb ab = true) : piecesV l ka wa aa kb wb ab = (hyV kb (pieceV l ka wa.toNat aa.toNat kb wb.toNat ab.toNat), 0) := by
  unfold piecesV
  rw [if_pos h.1, if_pos h.2]
theorem before_trans {ka wa aa wb ab kc wc ac : Int} (h1 : beforeB ka wa aa 1 wb ab = true) (h2 : beforeB 1 wb ab kc wc ac = true) : beforeB ka wa aa kc wc ac = true := by
  unfold beforeB at *
  by_cases k0 : ka = 0
  · rw [if_pos k0] at h1 ⊢
    by_cases kc0 : kc = 0
    · simp [kc0] at h2
    · simpa using kc0
  · rw [if_neg k0] at h1 ⊢
    by_cases kc0 : kc = 0
    · simp [kc0] at h2
    · rw [if_neg kc0] at h2 ⊢
      simp only [Bool.or_eq_true, Bool.and_eq_true, decide_eq_true_eq, Int.reduceEq, if_false] at *
      omega
theorem hy_append (kc : Int) (x y : List (List Int)) (hy : 0 < y.length) : hyV kc (x ++ y) = x ++ hyV kc y := by
  unfold hyV
  by_cases h : hyB kc = true
  · rw [if_pos ⟨h, by simp; omega⟩, if_pos ⟨h, hy⟩]
    have e : (x ++ y).length - 1 = x.length + (y.length - 1) := by simp; omega
    rw [e, List.set_append_right _ _ (by omega), List.getD_eq_getElem?_getD, List.getElem?_append_right (by omega), ← List.getD_eq_getElem?_getD, Nat.add_sub_cancel_left]
  · rw [if_neg (fun c => h c.1), if_neg (fun c => h c.1)]
theorem joins {l : List S41} {ka wa aa wb ab kc wc ac : Int} (hx : (piecesV l ka wa aa 1 wb ab).2 = 0) (hy : (piecesV l 1 wb ab kc wc ac).2 = 0) :
    piecesV l ka wa aa kc wc ac = ((piecesV l ka wa aa 1 wb ab).1 ++ (piecesV l 1 wb ab kc wc ac).1, 0) := by
  have h1 := piecesV_ok hx
  have h2 := piecesV_ok hy
  have hb := before_trans h1.2.2.2.2 h2.2.2.2.2
  have h3 : okB l = true ∧ standB l ka wa aa = true ∧ standB l kc wc ac = true ∧ ka ≠ 5 ∧ beforeB ka wa aa kc wc ac = true := ⟨h1.1, h1.2.1, h2.2.2.1, h1.2.2.2.1, hb⟩
  rw [piecesV_is h1, piecesV_is h2, piecesV_is h3]
  obtain ⟨Wa, Aa, sa⟩ := stands_of h1.2.1
  obtain ⟨Wb, Ab, sb⟩ := stands_of h1.2.2.1
  obtain ⟨Wc, Ac, sc⟩ := stands_of h2.2.2.1
  obtain ⟨_, l1, _, _, _⟩ := between sa sb h1.2.2.2.1 h1.2.2.2.2
  obtain ⟨_, l2, _, _, _⟩ := between sb sc (by decide) h2.2.2.2.2
  obtain rfl := sa.hw; obtain rfl := sa.ha; obtain rfl := sb.hw; obtain rfl := sb.ha; obtain rfl := sc.hw; obtain rfl := sc.ha
  simp only [Int.toNat_natCast]
  have hy1 : ∀ out, hyV 1 out = out := by intro out; unfold hyV hyB; simp
  have f1 : fromN 1 Wb = Wb + 1 := rfl
  rw [f1] at l2
  have hlen : 0 < (pieceV l 1 Wb Ab kc Wc Ac).length := by unfold pieceV; rw [f1]; simp; omega
  rw [hy1, ← hy_append _ _ _ hlen]
  congr 2
  -- the pieces up to the space, and those behind it
  unfold pieceV
  rw [f1]
  have hAb : Ab = (codes l Wb).length := by rcases sb.kinds with ⟨k, _, _⟩ | ⟨k, _, e⟩ | ⟨k, _, e⟩ | ⟨k, _, _, _⟩ <;> first | exact e | omega
  have e : Wc + 1 - fromN ka Wa = (Wb + 1 - fromN ka Wa) + (Wc + 1 - (Wb + 1)) := by omega
  rw [e, List.range_add, List.map_append, List.map_map]
  congr 1
  · apply List.map_congr_left
    intro i hi
    have hi' := List.mem_range.1 hi
    unfold pieceAt
    congr 1
    rw [if_neg (by omega)]
    by_cases h : fromN ka Wa + i = Wb
    · rw [if_pos h, hAb, h, List.take_length]
    · rw [if_neg h]
  · apply List.map_congr_left
    intro i hi
    have hi' := List.mem_range.1 hi
    show pieceAt l (fromN ka Wa) (atN ka Aa) Wc Ac ((Wb + 1 - fromN ka Wa) + i) = pieceAt l (Wb + 1) (atN 1 Ab) Wc Ac i
    unfold pieceAt
    rw [show fromN ka Wa + ((Wb + 1 - fromN ka Wa) + i) = Wb + 1 + i by omega, if_neg (show ¬ (Wb + 1 - fromN ka Wa) + i = 0 by omega)]
    congr 1
    show 0 = if i = 0 then 0 else 0
    simp
theorem PieceJoins : compositorlaw17_PieceJoins.Pure := by
  intro l a b c _ _ _ _
  refine Ev.rounds (g := fun k => compositorlaw17_PieceJoins.f k l a.f0 a.f1 a.f2 b.f0 b.f1 b.f2 c.f0 c.f1 c.f2) ?_
  unfold compositorlaw17_PieceJoins.f
  refine Ev.bind awake_ev ?_
  refine Ev.bind (few_f l) ?_
  have h0 : Ev (fun k => compositorlaw17_PieceJoins.j0 k l true true a.f0 a.f1 a.f2 b.f0 b.f1 b.f2 c.f0 c.f1 c.f2) true := Ev.step (fun k => compositorlaw17_PieceJoins.j0.eq_2 _ _ _ _ _ _ _ _ _ _ _ _ _) (by simp only [if_true]; exact Ev.now _)
  cases hf : fewB l with
  | false => simpa only [Bool.false_eq_true, if_false] using h0
  | true =>
    have h := fewB_iff hf
    simp only [if_true]
    by_cases k1 : b.f0 = 1
    · have e1 : (b.f0 != 1) = false := by simp [k1]
      rw [e1]
      refine Ev.step (fun k => compositorlaw17_PieceJoins.j0.eq_2 _ _ _ _ _ _ _ _ _ _ _ _ _) ?_
      simp only [Bool.false_eq_true, if_false]
      refine Ev.bind (pieces_f l h.1 h.2 _ _ _ _ _ _) ?_
      refine Ev.bind (pieces_f l h.1 h.2 _ _ _ _ _ _) ?_
      refine Ev.bind (pieces_f l h.1 h.2 _ _ _ _ _ _) ?_
      rw [k1]
      have hx := piecesV_small l h.1 h.2 a.f0 a.f1 a.f2 1 b.f1 b.f2
      have hy := piecesV_small l h.1 h.2 1 b.f1 b.f2 c.f0 c.f1 c.f2
      by_cases x0 : (piecesV l a.f0 a.f1 a.f2 1 b.f1 b.f2).2 = 0
      · by_cases y0 : (piecesV l 1 b.f1 b.f2 c.f0 c.f1 c.f2).2 = 0
        · have hz := joins x0 y0
          rw [hz]
          generalize piecesV l a.f0 a.f1 a.f2 1 b.f1 b.f2 = X at *
          generalize piecesV l 1 b.f1 b.f2 c.f0 c.f1 c.f2 = Y at *
          simp only [if_pos x0, if_pos y0, Option.bind_some, List.nil_append, List.length_nil, Nat.zero_add, if_pos (show X.1.length < 5864062014805 by omega), if_pos (show X.1.length + Y.1.length < 5864062014805 by omega)]
          refine Ev.bind (same17 (X.1 ++ Y.1) (by rw [List.length_append]; omega) (fun x hx' => by
            rcases List.mem_append.1 hx' with hx' | hx'
            · have := hx.2 x hx'; omega
            · have := hy.2 x hx'; omega)) ?_
          simp only [if_true]
          exact Ev.now _
        · simp only [if_pos x0, if_neg y0]
          exact Ev.now _
      · simp only [if_neg x0]
        exact Ev.now _
    · have e1 : (b.f0 != 1) = true := by simpa using k1
      rw [e1]
      exact h0
end Go.Proofs.Ytepllkdlnajbjaa.Pure
