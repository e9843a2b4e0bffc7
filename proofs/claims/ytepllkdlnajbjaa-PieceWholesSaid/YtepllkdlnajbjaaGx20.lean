/- Contracts of the functions of this seat: what each call computes, as a plain Lean function. Made by this session's own generator. -/
import Derived.Test.YtepllkdlnajbjaaGx0
import Derived.Test.YtepllkdlnajbjaaGx7
import Derived.Test.YtepllkdlnajbjaaGx9
import Derived.Test.YtepllkdlnajbjaaGx10
import Derived.Test.YtepllkdlnajbjaaGx19
namespace Go.Proofs.Ytepllkdlnajbjaa.G
open Go.RowKit Go.Proofs.YtepllkdlnajbjaaMy Go.Proofs.YtepllkdlnajbjaaW.PrintWords Go.Proofs.YtepllkdlnajbjaaW.PrintLast Go.Proofs.YtepllkdlnajbjaaW.PrintMore
attribute [local go_sem] max2_int min2_int max_two min_two max_three min_three max_four min_four   -- for this text's walks alone
set_option linter.unusedVariables false
set_option linter.unusedSimpArgs false

/-! ### compositorlaw17_PieceWholes: function 4 -/
mutual
def compositorlaw17_PieceWholes.j0 : Nat → List (List (List Int)) → List (S24) → Bool → Bool → Option (Bool)
  | 0, _, _, _, _ => none
  | k + 1, x0, x1, x5, x17 => if x17 = true then (some x5) else (compositorlaw17_PieceWholes.l0 k x0 x1 x5 0)
def compositorlaw17_PieceWholes.l0 : Nat → List (List (List Int)) → List (S24) → Bool → Int → Option (Bool)
  | 0, _, _, _, _ => none
  | k + 1, x0, x1, x5, x6 => if x6 < (x0.length : Int) then (if 0 ≤ x6 then (if ((rd_L4 x0 x6).length : Int) > 30 then (some x5) else (compositorlaw17_PieceWholes.l1 k x0 x1 x5 x6 0)) else (none)) else ((piece_Whole.f k x0 x1).bind fun t497 => ((compositorref17_Whole.f k x0 x1).bind fun t500 => ((compositorref17_Same.f k t497 t500).bind fun t503 => (if x5 = true then (some t503) else (none)))))
def compositorlaw17_PieceWholes.l1 : Nat → List (List (List Int)) → List (S24) → Bool → Int → Int → Option (Bool)
  | 0, _, _, _, _, _ => none
  | k + 1, x0, x1, x5, x6, x7 => if 0 ≤ x6 then (if x6 < (x0.length : Int) then (if x7 < ((rd_L4 x0 x6).length : Int) then (if 0 ≤ x7 then (if ((rd_L1 (rd_L4 x0 x6) x7).length : Int) > 100 then (some x5) else (compositorlaw17_PieceWholes.l1 k x0 x1 x5 x6 (wrap64 (x7 + 1)))) else (none)) else (compositorlaw17_PieceWholes.l0 k x0 x1 x5 (wrap64 (x6 + 1)))) else (none)) else (none)
end
def compositorlaw17_PieceWholes.f (k : Nat) (l0 : List (List (List Int))) (l1 : List (S24)) : Option (Bool) := (compositorlaw17_awake.f k).bind fun t496 => (if (l0.length : Int) > 30 then (compositorlaw17_PieceWholes.j0 k l0 l1 t496 true) else (compositorlaw17_PieceWholes.j0 k l0 l1 t496 (decide ((l1.length : Int) > 40))))
theorem compositorlaw17_PieceWholes.mono_l : ∀ k, (∀ y0 y1 y2 y3, LeO (compositorlaw17_PieceWholes.j0 k y0 y1 y2 y3) (compositorlaw17_PieceWholes.j0 (k + 1) y0 y1 y2 y3)) ∧ (∀ y0 y1 y2 y3, LeO (compositorlaw17_PieceWholes.l0 k y0 y1 y2 y3) (compositorlaw17_PieceWholes.l0 (k + 1) y0 y1 y2 y3)) ∧ (∀ y0 y1 y2 y3 y4, LeO (compositorlaw17_PieceWholes.l1 k y0 y1 y2 y3 y4) (compositorlaw17_PieceWholes.l1 (k + 1) y0 y1 y2 y3 y4))
  | 0 => ⟨fun _ _ _ _ r h => by simp [compositorlaw17_PieceWholes.j0] at h, fun _ _ _ _ r h => by simp [compositorlaw17_PieceWholes.l0] at h, fun _ _ _ _ _ r h => by simp [compositorlaw17_PieceWholes.l1] at h⟩
  | k + 1 => by
    obtain ⟨ih0, ih1, ih2⟩ := compositorlaw17_PieceWholes.mono_l k
    refine ⟨?_, ?_, ?_⟩
    · intro y0 y1 y2 y3
      unfold compositorlaw17_PieceWholes.j0
      repeat' first
      | (with_reducible exact ih0 _ _ _ _)
      | (with_reducible exact ih1 _ _ _ _)
      | (with_reducible exact ih2 _ _ _ _ _)
      | (with_reducible exact compositorlaw17_awake.mono _)
      | (with_reducible exact compositorref17_Same.mono _ _ _)
      | (with_reducible exact compositorref17_Whole.mono _ _ _)
      | (with_reducible exact piece_Whole.mono _ _ _)
      | (with_reducible exact LeO.refl _)
      | (with_reducible exact LeO.none _)
      | (with_reducible refine LeO.ite ?_ ?_)
      | (with_reducible refine LeO.bind ?_ (fun _ => ?_))
      | exact ih0 _ _ _ _
      | exact ih1 _ _ _ _
      | exact ih2 _ _ _ _ _
      | exact compositorlaw17_awake.mono _
      | exact compositorref17_Same.mono _ _ _
      | exact compositorref17_Whole.mono _ _ _
      | exact piece_Whole.mono _ _ _
      | exact LeO.none _
      | refine LeO.ite ?_ ?_
      | refine LeO.bind ?_ (fun _ => ?_)
    · intro y0 y1 y2 y3
      unfold compositorlaw17_PieceWholes.l0
      repeat' first
      | (with_reducible exact ih0 _ _ _ _)
      | (with_reducible exact ih1 _ _ _ _)
      | (with_reducible exact ih2 _ _ _ _ _)
      | (with_reducible exact compositorlaw17_awake.mono _)
      | (with_reducible exact compositorref17_Same.mono _ _ _)
      | (with_reducible exact compositorref17_Whole.mono _ _ _)
      | (with_reducible exact piece_Whole.mono _ _ _)
      | (with_reducible exact LeO.refl _)
      | (with_reducible exact LeO.none _)
      | (with_reducible refine LeO.ite ?_ ?_)
      | (with_reducible refine LeO.bind ?_ (fun _ => ?_))
      | exact ih0 _ _ _ _
      | exact ih1 _ _ _ _
      | exact ih2 _ _ _ _ _
      | exact compositorlaw17_awake.mono _
      | exact compositorref17_Same.mono _ _ _
      | exact compositorref17_Whole.mono _ _ _
      | exact piece_Whole.mono _ _ _
      | exact LeO.none _
      | refine LeO.ite ?_ ?_
      | refine LeO.bind ?_ (fun _ => ?_)
    · intro y0 y1 y2 y3 y4
      unfold compositorlaw17_PieceWholes.l1
      repeat' first
      | (with_reducible exact ih0 _ _ _ _)
      | (with_reducible exact ih1 _ _ _ _)
      | (with_reducible exact ih2 _ _ _ _ _)
      | (with_reducible exact compositorlaw17_awake.mono _)
      | (with_reducible exact compositorref17_Same.mono _ _ _)
      | (with_reducible exact compositorref17_Whole.mono _ _ _)
      | (with_reducible exact piece_Whole.mono _ _ _)
      | (with_reducible exact LeO.refl _)
      | (with_reducible exact LeO.none _)
      | (with_reducible refine LeO.ite ?_ ?_)
      | (with_reducible refine LeO.bind ?_ (fun _ => ?_))
      | exact ih0 _ _ _ _
      | exact ih1 _ _ _ _
      | exact ih2 _ _ _ _ _
      | exact compositorlaw17_awake.mono _
      | exact compositorref17_Same.mono _ _ _
      | exact compositorref17_Whole.mono _ _ _
      | exact piece_Whole.mono _ _ _
      | exact LeO.none _
      | refine LeO.ite ?_ ?_
      | refine LeO.bind ?_ (fun _ => ?_)
theorem compositorlaw17_PieceWholes.mono : ∀ a0 a1 k, LeO (compositorlaw17_PieceWholes.f k a0 a1) (compositorlaw17_PieceWholes.f (k + 1) a0 a1) := by
  intro a0 a1 k
  obtain ⟨ih0, ih1, ih2⟩ := compositorlaw17_PieceWholes.mono_l k
  unfold compositorlaw17_PieceWholes.f
  repeat' first
      | (with_reducible exact ih0 _ _ _ _)
      | (with_reducible exact ih1 _ _ _ _)
      | (with_reducible exact ih2 _ _ _ _ _)
      | (with_reducible exact compositorlaw17_awake.mono _)
      | (with_reducible exact compositorref17_Same.mono _ _ _)
      | (with_reducible exact compositorref17_Whole.mono _ _ _)
      | (with_reducible exact piece_Whole.mono _ _ _)
      | (with_reducible exact LeO.refl _)
      | (with_reducible exact LeO.none _)
      | (with_reducible refine LeO.ite ?_ ?_)
      | (with_reducible refine LeO.bind ?_ (fun _ => ?_))
      | exact ih0 _ _ _ _
      | exact ih1 _ _ _ _
      | exact ih2 _ _ _ _ _
      | exact compositorlaw17_awake.mono _
      | exact compositorref17_Same.mono _ _ _
      | exact compositorref17_Whole.mono _ _ _
      | exact piece_Whole.mono _ _ _
      | exact LeO.none _
      | refine LeO.ite ?_ ?_
      | refine LeO.bind ?_ (fun _ => ?_)
set_option maxHeartbeats 8000000 in
set_option maxRecDepth 100000 in
theorem compositorlaw17_PieceWholes.calls (k : Nat) (A0 : Option Addr) (c0 : Nat) (l0 : List (List (List Int))) (A1 : Option Addr) (c1 : Nat) (l1 : List (S24)) (r : Bool) (w : World) (hr0 : Kd.C (Kd.slice 36 (Kd.slice 3 (Kd.int .i64))) w A0 l0.length l0) (hc0 : l0.length ≤ c0) (hr1 : Kd.C k24 w A1 l1.length l1) (hc1 : l1.length ≤ c1) (h : compositorlaw17_PieceWholes.f k l0 l1 = some r) :
    Calls Try.prog 4 #[.slice A0 l0.length c0, .slice A1 l1.length c1] w fun e w' => e = .returned (.bool r) ∧ Below w.heap.size w w' := by
  have HR0 := Aside0.mk hr0
  have HC0 := Aside0.mk hc0
  clear hr0 hc0
  have HR1 := Aside0.mk hr1
  have HC1 := Aside0.mk hc1
  clear hr1 hc1
  have HB := Aside0.mk (Below.refl w.heap.size w)
  have H : ((compositorlaw17_awake.f k).bind fun t496 => (if (l0.length : Int) > 30 then (compositorlaw17_PieceWholes.j0 k l0 l1 t496 true) else (compositorlaw17_PieceWholes.j0 k l0 l1 t496 (decide ((l1.length : Int) > 40))))) = some r := h
  clear h
  replace H := Option.bind_eq_some_iff.mp H
  obtain ⟨t496, A30, H⟩ := H
  replace H : (if (l0.length : Int) > 30 then (compositorlaw17_PieceWholes.j0 k l0 l1 t496 true) else (compositorlaw17_PieceWholes.j0 k l0 l1 t496 (decide ((l1.length : Int) > 40)))) = some r := H
  have A3 := Aside0.mk A30
  clear A30
  have HC4 := Aside0.mk H
  clear H
  go_enter Try.func4, Try.ntmps4
  go_upto_region 2 with (first | ((with_reducible refine gate_callee (f := 6) rfl ?_); refine goesL_ (some 9) rfl rfl Try.func6 (by kernel_rfl) rfl #[] rfl (by (try simp only [List.map_toArray, List.map_cons, List.map_nil]); first | done | rfl | (simp only [List.length_drop, List.length_take]; rfl)) ?_; (with_reducible refine (compositorlaw17_awake.calls k  t496 _ A3.out).mono ?_); rintro e w5 ⟨rfl, hb⟩; refine ⟨_, rfl, ?_⟩; have n0_ := Aside0.mk (below_step (by repeat (first | (with_reducible first | exact HB.out | apply below_alloc | apply pw_below_drewN | apply below_drew1) | exact HB.out)) hb); clear HB; have HB := n0_; clear n0_; (try clear hb); (try clear hb2); (try clear hk); (try clear hi)))
  (try simp only [Act.put, List.setIfInBounds_toArray, List.set_cons_zero, List.set_cons_succ])
  go_cut [17] (fun v17 wc => ∃ (kq : Nat) (x17_3 : Bool), v17 = .bool x17_3 ∧ Aside0 (compositorlaw17_PieceWholes.j0 kq l0 l1 t496 x17_3 = some r) ∧ Aside0 (kq ≤ k) ∧ Aside0 (Below w.heap.size w wc))
  case first =>
    have H := HC4.out
    clear HC4
    by_cases c6 : (l0.length : Int) > 30
    · rw [if_pos c6] at H
      have c6b0 : decide (30 < (l0.length : Int)) = true := decide_eq_true c6
      have c6b1 : decide (30 < l0.length) = true := decide_eq_true (by omega)
      clear c6
      (first | rw [c6b0] | (simp only [i64_w, i32_w]; rw [c6b0]) | skip)
      have H' := Aside0.mk H
      clear H
      go_wp2
      go_meet
      case rel => exact ⟨_, (true), (by first | rfl | (simp; done) | (simp [*]; done)), H', ⟨by first | omega | exact Nat.le_refl _⟩, ⟨by repeat (first | (with_reducible first | exact HB.out | apply below_alloc | apply pw_below_drewN | apply below_drew1) | exact HB.out)⟩⟩
    · rw [if_neg c6] at H
      have c6b0 : decide (30 < (l0.length : Int)) = false := decide_eq_false c6
      have c6b1 : decide (30 < l0.length) = false := decide_eq_false (by omega)
      clear c6
      (first | rw [c6b0] | (simp only [i64_w, i32_w]; rw [c6b0]) | skip)
      have H' := Aside0.mk H
      clear H
      go_wp2
      go_meet
      case rel => exact ⟨_, (decide ((l1.length : Int) > 40)), (by first | rfl | (simp; done) | (simp [*]; done)), H', ⟨by first | omega | exact Nat.le_refl _⟩, ⟨by repeat (first | (with_reducible first | exact HB.out | apply below_alloc | apply pw_below_drewN | apply below_drew1) | exact HB.out)⟩⟩
  case rest =>
    clear HC4
    try clear c1
    try clear p2
    try clear c4
    try clear c6
    try clear c6b0
    try clear c6b1
    obtain ⟨kq, x17_3, rfl, HA, HJ3, HB⟩ := hcut
    cases kq with
    | zero => exact absurd HA.out (by simp [compositorlaw17_PieceWholes.j0])
    | succ kj3 =>
      have H := HA.out
      clear HA
      simp only [compositorlaw17_PieceWholes.j0] at H
      by_cases c7 : x17_3 = true
      · subst c7
        have H1 : (some t496) = some r := by rw [if_pos rfl] at H; exact H
        clear H
        have H := H1
        clear H1
        obtain rfl := Option.some.inj H
        go_wp2
        go_ret
        exact ⟨by first | rfl | (simp [errW_none, errW_some] <;> rfl) | (simp [*, errW_none, errW_some] <;> rfl), by repeat (first | (with_reducible first | exact HB.out | apply below_alloc | apply pw_below_drewN | apply below_drew1) | exact HB.out)⟩
      · replace c7 := Bool.eq_false_iff.mpr c7
        subst c7
        have H1 : (compositorlaw17_PieceWholes.l0 kj3 l0 l1 t496 0) = some r := by rw [if_neg (show ¬ (false = true) by decide)] at H; exact H
        clear H
        have H := H1
        clear H1
        have H' := Aside0.mk H
        clear H
        go_wp2
        go_loopg [6] kj3 (fun kq v6 w' => ∃ (x6_2 : Int), v6 = .int .i64 x6_2 ∧ Aside0 (compositorlaw17_PieceWholes.l0 kq l0 l1 t496 x6_2 = some r) ∧ Aside0 (kq ≤ kj3) ∧ Aside0 (Below w.heap.size w w'))
        case atStart => exact ⟨(0), (by first | rfl | (simp; done) | (simp [*]; done)), H', ⟨Nat.le_refl _⟩, ⟨by repeat (first | (with_reducible first | exact HB.out | apply below_alloc | apply pw_below_drewN | apply below_drew1) | exact HB.out)⟩⟩
        case round =>
          clear H'
          try clear c1
          try clear p2
          try clear c4
          try clear c6
          try clear c6b0
          try clear c6b1
          try clear c7
          try clear p2
          obtain ⟨x6_2, rfl, HA, HK2, HB⟩ := hrel
          cases gk with
          | zero => exact absurd HA.out (by simp [compositorlaw17_PieceWholes.l0])
          | succ k2 =>
            have H := HA.out
            clear HA
            simp only [compositorlaw17_PieceWholes.l0] at H
            by_cases c8 : x6_2 < (l0.length : Int)
            · rw [if_pos c8] at H
              have c8b0 : decide (x6_2 < (l0.length : Int)) = true := decide_eq_true c8
              clear c8
              by_cases c9 : 0 ≤ x6_2
              · rw [if_pos c9] at H
                have c9b0 : decide (0 ≤ x6_2) = true := decide_eq_true c9
                clear c9
                by_cases c10 : ((rd_L4 l0 x6_2).length : Int) > 30
                · rw [if_pos c10] at H
                  have c10b0 : decide (30 < ((rd_L4 l0 x6_2).length : Int)) = true := decide_eq_true c10
                  have c10b1 : decide (30 < (rd_L4 l0 x6_2).length) = true := decide_eq_true (by omega)
                  clear c10
                  obtain rfl := Option.some.inj H
                  have p504 : 0 ≤ (x6_2 : Int) := of_decide_eq_true (by first | (with_reducible assumption) | assumption)
                  have q504 : x6_2 < (l0.length : Int) := of_decide_eq_true (by first | (with_reducible assumption) | assumption)
                  obtain ⟨ad504, A504_0, c504_0, e504, hx504_0, hl504_0, hi504_0⟩ := at_L4 HR0.out x6_2 p504 q504
                  cases e504
                  replace hx504_0 := (HB.out.cell (World.block_lt_of_cell? w _ hx504_0)).trans hx504_0
                  have HR504_0 := Aside0.mk hi504_0
                  have HC504_0 := Aside0.mk hl504_0
                  clear hi504_0 hl504_0
                  replace p504 := eq_true p504
                  replace q504 := eq_true q504
                  go_wp2
                  go_ret
                  exact ⟨by first | rfl | (simp [errW_none, errW_some] <;> rfl) | (simp [*, errW_none, errW_some] <;> rfl), by repeat (first | (with_reducible first | exact HB.out | apply below_alloc | apply pw_below_drewN | apply below_drew1) | exact HB.out)⟩
                · rw [if_neg c10] at H
                  have c10b0 : decide (30 < ((rd_L4 l0 x6_2).length : Int)) = false := decide_eq_false c10
                  have c10b1 : decide (30 < (rd_L4 l0 x6_2).length) = false := decide_eq_false (by omega)
                  clear c10
                  have H' := Aside0.mk H
                  clear H
                  have p504 : 0 ≤ (x6_2 : Int) := of_decide_eq_true (by first | (with_reducible assumption) | assumption)
                  have q504 : x6_2 < (l0.length : Int) := of_decide_eq_true (by first | (with_reducible assumption) | assumption)
                  obtain ⟨ad504, A504_0, c504_0, e504, hx504_0, hl504_0, hi504_0⟩ := at_L4 HR0.out x6_2 p504 q504
                  cases e504
                  replace hx504_0 := (HB.out.cell (World.block_lt_of_cell? w _ hx504_0)).trans hx504_0
                  have HR504_0 := Aside0.mk hi504_0
                  have HC504_0 := Aside0.mk hl504_0
                  clear hi504_0 hl504_0
                  replace p504 := eq_true p504
                  replace q504 := eq_true q504
                  go_wp2
                  go_loopg [7] k2 (fun kq v7 w' => ∃ (x7_3 : Int), v7 = .int .i64 x7_3 ∧ Aside0 (compositorlaw17_PieceWholes.l1 kq l0 l1 t496 x6_2 x7_3 = some r) ∧ Aside0 (kq ≤ k2) ∧ Aside0 (Below w.heap.size w w'))
                  case atStart => exact ⟨(0), (by first | rfl | (simp; done) | (simp [*]; done)), H', ⟨Nat.le_refl _⟩, ⟨by repeat (first | (with_reducible first | exact HB.out | apply below_alloc | apply pw_below_drewN | apply below_drew1) | exact HB.out)⟩⟩
                  case round =>
                    clear H'
                    try clear c1
                    try clear p2
                    try clear c4
                    try clear c5
                    try clear p5
                    try clear q5
                    try clear hx5
                    try clear c6
                    try clear c6b0
                    try clear c6b1
                    try clear c7
                    try clear c8
                    try clear c8b0
                    try clear c9
                    try clear c9b0
                    try clear c10
                    try clear c10b0
                    try clear c10b1
                    try clear hx504_0
                    try clear p2
                    try clear p504
                    try clear q504
                    obtain ⟨x7_3, rfl, HA, HK3, HB⟩ := hrel
                    cases gk with
                    | zero => exact absurd HA.out (by simp [compositorlaw17_PieceWholes.l1])
                    | succ k3 =>
                      have H := HA.out
                      clear HA
                      simp only [compositorlaw17_PieceWholes.l1] at H
                      by_cases c11 : 0 ≤ x6_2
                      · rw [if_pos c11] at H
                        have c11b0 : decide (0 ≤ x6_2) = true := decide_eq_true c11
                        clear c11
                        by_cases c12 : x6_2 < (l0.length : Int)
                        · rw [if_pos c12] at H
                          have c12b0 : decide (x6_2 < (l0.length : Int)) = true := decide_eq_true c12
                          clear c12
                          by_cases c13 : x7_3 < ((rd_L4 l0 x6_2).length : Int)
                          · rw [if_pos c13] at H
                            have c13b0 : decide (x7_3 < ((rd_L4 l0 x6_2).length : Int)) = true := decide_eq_true c13
                            clear c13
                            by_cases c14 : 0 ≤ x7_3
                            · rw [if_pos c14] at H
                              have c14b0 : decide (0 ≤ x7_3) = true := decide_eq_true c14
                              clear c14
                              by_cases c15 : ((rd_L1 (rd_L4 l0 x6_2) x7_3).length : Int) > 100
                              · rw [if_pos c15] at H
                                have c15b0 : decide (100 < ((rd_L1 (rd_L4 l0 x6_2) x7_3).length : Int)) = true := decide_eq_true c15
                                have c15b1 : decide (100 < (rd_L1 (rd_L4 l0 x6_2) x7_3).length) = true := decide_eq_true (by omega)
                                clear c15
                                obtain rfl := Option.some.inj H
                                have p505 : 0 ≤ (x6_2 : Int) := of_decide_eq_true (by first | (with_reducible assumption) | assumption)
                                have q505 : x6_2 < (l0.length : Int) := of_decide_eq_true (by first | (with_reducible assumption) | assumption)
                                obtain ⟨ad505, A505_0, c505_0, e505, hx505_0, hl505_0, hi505_0⟩ := at_L4 HR0.out x6_2 p505 q505
                                obtain rfl : ad504 = ad505 := (by injection e505)
                                replace hx505_0 := (HB.out.cell (World.block_lt_of_cell? w _ hx505_0)).trans hx505_0
                                have HR505_0 := Aside0.mk hi505_0
                                have HC505_0 := Aside0.mk hl505_0
                                clear hi505_0 hl505_0
                                replace p505 := eq_true p505
                                replace q505 := eq_true q505
                                have p506 : 0 ≤ (x6_2 : Int) := of_decide_eq_true (by first | (with_reducible assumption) | assumption)
                                have q506 : x6_2 < (l0.length : Int) := of_decide_eq_true (by first | (with_reducible assumption) | assumption)
                                obtain ⟨ad506, A506_0, c506_0, e506, hx506_0, hl506_0, hi506_0⟩ := at_L4 HR0.out x6_2 p506 q506
                                obtain rfl : ad504 = ad506 := (by injection e506)
                                replace hx506_0 := (HB.out.cell (World.block_lt_of_cell? w _ hx506_0)).trans hx506_0
                                have HR506_0 := Aside0.mk hi506_0
                                have HC506_0 := Aside0.mk hl506_0
                                clear hi506_0 hl506_0
                                replace p506 := eq_true p506
                                replace q506 := eq_true q506
                                have ea_ := Option.some.inj (hx505_0.symm.trans hx506_0)
                                injection ea_ with ea_ en_ ec_
                                subst ea_
                                subst ec_
                                clear en_
                                have p507 : 0 ≤ (x7_3 : Int) := of_decide_eq_true (by first | (with_reducible assumption) | assumption)
                                have q507 : x7_3 < ((rd_L4 l0 x6_2).length : Int) := of_decide_eq_true (by first | (with_reducible assumption) | assumption)
                                obtain ⟨ad507, A507_0, c507_0, e507, hx507_0, hl507_0, hi507_0⟩ := at_L1 HR506_0.out x7_3 p507 q507
                                cases e507
                                replace hx507_0 := (HB.out.cell (World.block_lt_of_cell? w _ hx507_0)).trans hx507_0
                                have HR507_0 := Aside0.mk hi507_0
                                have HC507_0 := Aside0.mk hl507_0
                                clear hi507_0 hl507_0
                                replace p507 := eq_true p507
                                replace q507 := eq_true q507
                                go_wp2
                                go_ret
                                exact ⟨by first | rfl | (simp [errW_none, errW_some] <;> rfl) | (simp [*, errW_none, errW_some] <;> rfl), by repeat (first | (with_reducible first | exact HB.out | apply below_alloc | apply pw_below_drewN | apply below_drew1) | exact HB.out)⟩
                              · rw [if_neg c15] at H
                                have c15b0 : decide (100 < ((rd_L1 (rd_L4 l0 x6_2) x7_3).length : Int)) = false := decide_eq_false c15
                                have c15b1 : decide (100 < (rd_L1 (rd_L4 l0 x6_2) x7_3).length) = false := decide_eq_false (by omega)
                                clear c15
                                have H' := Aside0.mk H
                                clear H
                                have p505 : 0 ≤ (x6_2 : Int) := of_decide_eq_true (by first | (with_reducible assumption) | assumption)
                                have q505 : x6_2 < (l0.length : Int) := of_decide_eq_true (by first | (with_reducible assumption) | assumption)
                                obtain ⟨ad505, A505_0, c505_0, e505, hx505_0, hl505_0, hi505_0⟩ := at_L4 HR0.out x6_2 p505 q505
                                obtain rfl : ad504 = ad505 := (by injection e505)
                                replace hx505_0 := (HB.out.cell (World.block_lt_of_cell? w _ hx505_0)).trans hx505_0
                                have HR505_0 := Aside0.mk hi505_0
                                have HC505_0 := Aside0.mk hl505_0
                                clear hi505_0 hl505_0
                                replace p505 := eq_true p505
                                replace q505 := eq_true q505
                                have p506 : 0 ≤ (x6_2 : Int) := of_decide_eq_true (by first | (with_reducible assumption) | assumption)
                                have q506 : x6_2 < (l0.length : Int) := of_decide_eq_true (by first | (with_reducible assumption) | assumption)
                                obtain ⟨ad506, A506_0, c506_0, e506, hx506_0, hl506_0, hi506_0⟩ := at_L4 HR0.out x6_2 p506 q506
                                obtain rfl : ad504 = ad506 := (by injection e506)
                                replace hx506_0 := (HB.out.cell (World.block_lt_of_cell? w _ hx506_0)).trans hx506_0
                                have HR506_0 := Aside0.mk hi506_0
                                have HC506_0 := Aside0.mk hl506_0
                                clear hi506_0 hl506_0
                                replace p506 := eq_true p506
                                replace q506 := eq_true q506
                                have ea_ := Option.some.inj (hx505_0.symm.trans hx506_0)
                                injection ea_ with ea_ en_ ec_
                                subst ea_
                                subst ec_
                                clear en_
                                have p507 : 0 ≤ (x7_3 : Int) := of_decide_eq_true (by first | (with_reducible assumption) | assumption)
                                have q507 : x7_3 < ((rd_L4 l0 x6_2).length : Int) := of_decide_eq_true (by first | (with_reducible assumption) | assumption)
                                obtain ⟨ad507, A507_0, c507_0, e507, hx507_0, hl507_0, hi507_0⟩ := at_L1 HR506_0.out x7_3 p507 q507
                                cases e507
                                replace hx507_0 := (HB.out.cell (World.block_lt_of_cell? w _ hx507_0)).trans hx507_0
                                have HR507_0 := Aside0.mk hi507_0
                                have HC507_0 := Aside0.mk hl507_0
                                clear hi507_0 hl507_0
                                replace p507 := eq_true p507
                                replace q507 := eq_true q507
                                go_wp2
                                go_roundg k3
                                case measure => have := HJ3.out; have := HK2.out; have := HK3.out; omega
                                case rel => exact ⟨(wrap64 (x7_3 + 1)), (by first | rfl | (simp; done) | (simp [*]; done)), H', ⟨by have := HJ3.out; have := HK2.out; have := HK3.out; omega⟩, ⟨by repeat (first | (with_reducible first | exact HB.out | apply below_alloc | apply pw_below_drewN | apply below_drew1) | exact HB.out)⟩⟩
                            · rw [if_neg c14] at H
                              exact absurd H (by simp)
                          · rw [if_neg c13] at H
                            have c13b0 : decide (x7_3 < ((rd_L4 l0 x6_2).length : Int)) = false := decide_eq_false c13
                            clear c13
                            have H' := Aside0.mk H
                            clear H
                            have p505 : 0 ≤ (x6_2 : Int) := of_decide_eq_true (by first | (with_reducible assumption) | assumption)
                            have q505 : x6_2 < (l0.length : Int) := of_decide_eq_true (by first | (with_reducible assumption) | assumption)
                            obtain ⟨ad505, A505_0, c505_0, e505, hx505_0, hl505_0, hi505_0⟩ := at_L4 HR0.out x6_2 p505 q505
                            obtain rfl : ad504 = ad505 := (by injection e505)
                            replace hx505_0 := (HB.out.cell (World.block_lt_of_cell? w _ hx505_0)).trans hx505_0
                            have HR505_0 := Aside0.mk hi505_0
                            have HC505_0 := Aside0.mk hl505_0
                            clear hi505_0 hl505_0
                            replace p505 := eq_true p505
                            replace q505 := eq_true q505
                            go_wp2
                            go_roundg k3
                            case measure => have := HJ3.out; have := HK2.out; have := HK3.out; omega
                            case rel => exact ⟨(wrap64 (x6_2 + 1)), (by first | rfl | (simp; done) | (simp [*]; done)), H', ⟨by have := HJ3.out; have := HK2.out; have := HK3.out; omega⟩, ⟨by repeat (first | (with_reducible first | exact HB.out | apply below_alloc | apply pw_below_drewN | apply below_drew1) | exact HB.out)⟩⟩
                        · rw [if_neg c12] at H
                          exact absurd H (by simp)
                      · rw [if_neg c11] at H
                        exact absurd H (by simp)
              · rw [if_neg c9] at H
                exact absurd H (by simp)
            · rw [if_neg c8] at H
              have c8b0 : decide (x6_2 < (l0.length : Int)) = false := decide_eq_false c8
              clear c8
              replace H := Option.bind_eq_some_iff.mp H
              obtain ⟨t497, A160, H⟩ := H
              replace H : ((compositorref17_Whole.f k2 l0 l1).bind fun t500 => ((compositorref17_Same.f k2 t497 t500).bind fun t503 => (if t496 = true then (some t503) else (none)))) = some r := H
              have A16 := Aside0.mk A160
              clear A160
              replace H := Option.bind_eq_some_iff.mp H
              obtain ⟨t500, A170, H⟩ := H
              replace H : ((compositorref17_Same.f k2 t497 t500).bind fun t503 => (if t496 = true then (some t503) else (none))) = some r := H
              have A17 := Aside0.mk A170
              clear A170
              replace H := Option.bind_eq_some_iff.mp H
              obtain ⟨t503, A180, H⟩ := H
              replace H : (if t496 = true then (some t503) else (none)) = some r := H
              have A18 := Aside0.mk A180
              clear A180
              by_cases c19 : t496 = true
              · subst c19
                have H1 : (some t503) = some r := by rw [if_pos rfl] at H; exact H
                clear H
                have H := H1
                clear H1
                obtain rfl := Option.some.inj H
                have tk_ : True := trivial
                go_wp2_with (first | (go_at_call 13; clear tk_; (with_reducible refine (piece_Whole.calls k2 _ _ l0 _ _ l1 t497 _ ?side1 ?side2 ?side3 ?side4 A16.out).mono ?_); (case side1 => repeat (first | exact (Kd.C_below HR0.out HB.out) | (with_reducible refine Kd.C_alloc ?_ _) | (with_reducible refine Kd.C_drewN ?_ _) | (with_reducible refine Kd.C_drew ?_))); (case side2 => exact HC0.out); (case side3 => repeat (first | exact (Kd.C_below HR1.out HB.out) | (with_reducible refine Kd.C_alloc ?_ _) | (with_reducible refine Kd.C_drewN ?_ _) | (with_reducible refine Kd.C_drew ?_))); (case side4 => exact HC1.out); rintro e w20 ⟨v498, rfl, ho0, hb⟩; have n0_ := Aside0.mk (Kd.S_lower ho0 (below_size (by repeat (first | (with_reducible first | exact HB.out | apply below_alloc | apply pw_below_drewN | apply below_drew1) | exact HB.out)))); have n1_ := Aside0.mk (below_step (by repeat (first | (with_reducible first | exact HB.out | apply below_alloc | apply pw_below_drewN | apply below_drew1) | exact HB.out)) hb); clear HB; have HO499 := n0_; have HB := n1_; clear n0_ n1_; (try clear hb); (try clear hb2); (try clear hk); (try clear hi); (try clear ho0)))
                as_aux_lemma =>
                have tk_ : True := trivial
                go_wp2_with (first | (go_at_call 14; clear tk_; (with_reducible refine (compositorref17_Whole.calls k2 _ _ l0 _ _ l1 t500 _ ?side1 ?side2 ?side3 ?side4 A17.out).mono ?_); (case side1 => repeat (first | exact (Kd.C_below HR0.out HB.out) | (with_reducible refine Kd.C_alloc ?_ _) | (with_reducible refine Kd.C_drewN ?_ _) | (with_reducible refine Kd.C_drew ?_))); (case side2 => exact HC0.out); (case side3 => repeat (first | exact (Kd.C_below HR1.out HB.out) | (with_reducible refine Kd.C_alloc ?_ _) | (with_reducible refine Kd.C_drewN ?_ _) | (with_reducible refine Kd.C_drew ?_))); (case side4 => exact HC1.out); rintro e w21 ⟨v501, rfl, ho0, hb⟩; have n0_ := Aside0.mk (Kd.S_elder' (by (with_reducible repeat (first | apply Kd.S_alloc | apply Kd.S_drewN | apply Kd.S_drew)); exact HO499.out) (Kd.S_base ho0) hb); have n1_ := Aside0.mk (Kd.S_lower (Kd.S_new' ho0 (Kd.S_lt (by (with_reducible repeat (first | apply Kd.S_alloc | apply Kd.S_drewN | apply Kd.S_drew)); exact HO499.out))) (below_size (by repeat (first | (with_reducible first | exact HB.out | apply below_alloc | apply pw_below_drewN | apply below_drew1) | exact HB.out)))); have n2_ := Aside0.mk (below_step (by repeat (first | (with_reducible first | exact HB.out | apply below_alloc | apply pw_below_drewN | apply below_drew1) | exact HB.out)) hb); clear HO499; clear HB; have HO499 := n0_; have HO502 := n1_; have HB := n2_; clear n0_ n1_ n2_; (try clear hb); (try clear hb2); (try clear hk); (try clear hi); (try clear ho0); obtain ⟨Ao22, co22, eo22⟩ := Kd.S_slice HO499.out; subst eo22; obtain ⟨Ao23, co23, eo23⟩ := Kd.S_slice HO502.out; subst eo23))
                as_aux_lemma =>
                have tk_ : True := trivial
                go_wp2_with (first | (go_at_call 12; clear tk_; (with_reducible refine (compositorref17_Same.calls k2 _ _ t497 _ _ t500 t503 _ ?side1 ?side2 ?side3 ?side4 A18.out).mono ?_); (case side1 => repeat (first | exact (Kd.S_reads' HO499.out).2.2 | (with_reducible refine Kd.C_alloc ?_ _) | (with_reducible refine Kd.C_drewN ?_ _) | (with_reducible refine Kd.C_drew ?_))); (case side2 => exact (Kd.S_reads' HO499.out).2.1); (case side3 => repeat (first | exact (Kd.S_reads' HO502.out).2.2 | (with_reducible refine Kd.C_alloc ?_ _) | (with_reducible refine Kd.C_drewN ?_ _) | (with_reducible refine Kd.C_drew ?_))); (case side4 => exact (Kd.S_reads' HO502.out).2.1); rintro e w' ⟨rfl, ⟨nd, rfl⟩⟩))
                go_ret
                exact ⟨by first | rfl | (simp [errW_none, errW_some] <;> rfl) | (simp [*, errW_none, errW_some] <;> rfl), by repeat (first | (with_reducible first | exact HB.out | apply below_alloc | apply pw_below_drewN | apply below_drew1) | exact HB.out)⟩
              · replace c19 := Bool.eq_false_iff.mpr c19
                subst c19
                have H1 : (none) = some r := by rw [if_neg (show ¬ (false = true) by decide)] at H; exact H
                clear H
                have H := H1
                clear H1
                exact absurd H (by simp)

end Go.Proofs.Ytepllkdlnajbjaa.G
