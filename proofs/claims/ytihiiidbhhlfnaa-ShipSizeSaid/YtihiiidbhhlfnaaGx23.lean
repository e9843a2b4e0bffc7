/- Contracts of the functions of this seat: what each call computes, as a plain Lean function. Made by this session's own generator. -/
import Derived.Test.YtihiiidbhhlfnaaGx0
import Derived.Test.YtihiiidbhhlfnaaGx5
import Derived.Test.YtihiiidbhhlfnaaGx6
import Derived.Test.YtihiiidbhhlfnaaGx12
import Derived.Test.YtihiiidbhhlfnaaGx13
namespace Go.Proofs.Ytihiiidbhhlfnaa.G
open Go.RowKit Go.Proofs.YtihiiidbhhlfnaaMy Go.Proofs.YtihiiidbhhlfnaaW.PrintWords Go.Proofs.YtihiiidbhhlfnaaW.PrintLast Go.Proofs.YtihiiidbhhlfnaaW.PrintMore
attribute [local go_sem] max2_int min2_int max_two min_two max_three min_three max_four min_four   -- for this text's walks alone
set_option linter.unusedVariables false
set_option linter.unusedSimpArgs false

/-! ### compositorlaw23_ShipSize: function 6 -/
mutual
def compositorlaw23_ShipSize.l0 : Nat → List (S41) → Bool → Int → Int → Option (Bool)
 | 0, _, _, _, _ => none
 | k + 1, x0, x3, x4, x5 => if x5 < (x0.length : Int) then (if 0 ≤ x5 then (compositorlaw23_ShipSize.l0 k x0 x3 (wrap64 ((wrap64 (x4 + 12)) + (wrap64 (5 * (((rd_T41 x0 x5).f4).length : Int))))) (wrap64 (x5 + 1))) else (none)) else ((ship_Write.f k x0).bind fun bt397 => ((ship_Report.f k x0).bind fun bt401 => (compositorlaw23_ShipSize.l1 k x0 x3 x4 bt397.1 bt397.2 bt401.1 bt401.2 0 0)))
def compositorlaw23_ShipSize.l1 : Nat → List (S41) → Bool → Int → List Int → Int → List Int → List Int → Int → Int → Option (Bool)
 | 0, _, _, _, _, _, _, _, _, _ => none
 | k + 1, x0, x3, x4, x6, x7, x8, x9, x10, x11 => if x11 < (x0.length : Int) then (if 0 ≤ x11 then (if ((rd_T41 x0 x11).f3) < 0 then (if (wrap64 (x11 - x10)) < 0 then (none) else (if x10 ≥ (x8.length : Int) then (none) else (if 0 ≤ x10 then (if x10 < (x8.length : Int) then (if (rd x8 x10) = (wrap64 (x11 + 1)) then (compositorlaw23_ShipSize.l1 k x0 x3 x4 x6 x7 x8 x9 (wrap64 (x10 + 1)) (wrap64 (x11 + 1))) else (none)) else (none)) else (none)))) else (compositorlaw23_ShipSize.l1 k x0 x3 x4 x6 x7 x8 x9 x10 (wrap64 (x11 + 1)))) else (none)) else (if x3 = true then (if x7 = 0 then (if (x6.length : Int) = x4 then (if x10 = (x8.length : Int) then (some (decide ((wrap64 ((x8.length : Int) + (x9.length : Int))) ≤ (x0.length : Int)))) else (none)) else (none)) else (if (x6.length : Int) = 0 then (if x10 = (x8.length : Int) then (some (decide ((wrap64 ((x8.length : Int) + (x9.length : Int))) ≤ (x0.length : Int)))) else (none)) else (none))) else (none))
end
def compositorlaw23_ShipSize.f (k : Nat) (l0 : List (S41)) : Option (Bool) := (compositorlaw23_awake.f k).bind fun t394 => ((compositorref23_Few.f k l0).bind fun t395 => (if t395 = true then (compositorlaw23_ShipSize.l0 k l0 t394 3 0) else (some t394)))
theorem compositorlaw23_ShipSize.mono_l : ∀ k, (∀ y0 y1 y2 y3, LeO (compositorlaw23_ShipSize.l0 k y0 y1 y2 y3) (compositorlaw23_ShipSize.l0 (k + 1) y0 y1 y2 y3)) ∧ (∀ y0 y1 y2 y3 y4 y5 y6 y7 y8, LeO (compositorlaw23_ShipSize.l1 k y0 y1 y2 y3 y4 y5 y6 y7 y8) (compositorlaw23_ShipSize.l1 (k + 1) y0 y1 y2 y3 y4 y5 y6 y7 y8))
 | 0 => ⟨fun _ _ _ _ r h => by simp [compositorlaw23_ShipSize.l0] at h, fun _ _ _ _ _ _ _ _ _ r h => by simp [compositorlaw23_ShipSize.l1] at h⟩
 | k + 1 => by
  obtain ⟨ih0, ih1⟩ := compositorlaw23_ShipSize.mono_l k
  refine ⟨?_, ?_⟩
  ·intro y0 y1 y2 y3
   unfold compositorlaw23_ShipSize.l0
   repeat' first
   | (with_reducible exact ih0 _ _ _ _)
   | (with_reducible exact ih1 _ _ _ _ _ _ _ _ _)
   | (with_reducible exact compositorlaw23_awake.mono _)
   | (with_reducible exact compositorref23_Few.mono _ _)
   | (with_reducible exact ship_Report.mono _ _)
   | (with_reducible exact ship_Write.mono _ _)
   | (with_reducible exact LeO.refl _)
   | (with_reducible exact LeO.none _)
   | (with_reducible refine LeO.ite ?_ ?_)
   | (with_reducible refine LeO.bind ?_ (fun _ => ?_))
   | exact ih0 _ _ _ _
   | exact ih1 _ _ _ _ _ _ _ _ _
   | exact compositorlaw23_awake.mono _
   | exact compositorref23_Few.mono _ _
   | exact ship_Report.mono _ _
   | exact ship_Write.mono _ _
   | exact LeO.none _
   | refine LeO.ite ?_ ?_
   | refine LeO.bind ?_ (fun _ => ?_)
  ·intro y0 y1 y2 y3 y4 y5 y6 y7 y8
   unfold compositorlaw23_ShipSize.l1
   repeat' first
   | (with_reducible exact ih0 _ _ _ _)
   | (with_reducible exact ih1 _ _ _ _ _ _ _ _ _)
   | (with_reducible exact compositorlaw23_awake.mono _)
   | (with_reducible exact compositorref23_Few.mono _ _)
   | (with_reducible exact ship_Report.mono _ _)
   | (with_reducible exact ship_Write.mono _ _)
   | (with_reducible exact LeO.refl _)
   | (with_reducible exact LeO.none _)
   | (with_reducible refine LeO.ite ?_ ?_)
   | (with_reducible refine LeO.bind ?_ (fun _ => ?_))
   | exact ih0 _ _ _ _
   | exact ih1 _ _ _ _ _ _ _ _ _
   | exact compositorlaw23_awake.mono _
   | exact compositorref23_Few.mono _ _
   | exact ship_Report.mono _ _
   | exact ship_Write.mono _ _
   | exact LeO.none _
   | refine LeO.ite ?_ ?_
   | refine LeO.bind ?_ (fun _ => ?_)
theorem compositorlaw23_ShipSize.mono : ∀ a0 k, LeO (compositorlaw23_ShipSize.f k a0) (compositorlaw23_ShipSize.f (k + 1) a0) := by
 intro a0 k
 obtain ⟨ih0, ih1⟩ := compositorlaw23_ShipSize.mono_l k
 unfold compositorlaw23_ShipSize.f
 repeat' first
   | (with_reducible exact ih0 _ _ _ _)
   | (with_reducible exact ih1 _ _ _ _ _ _ _ _ _)
   | (with_reducible exact compositorlaw23_awake.mono _)
   | (with_reducible exact compositorref23_Few.mono _ _)
   | (with_reducible exact ship_Report.mono _ _)
   | (with_reducible exact ship_Write.mono _ _)
   | (with_reducible exact LeO.refl _)
   | (with_reducible exact LeO.none _)
   | (with_reducible refine LeO.ite ?_ ?_)
   | (with_reducible refine LeO.bind ?_ (fun _ => ?_))
   | exact ih0 _ _ _ _
   | exact ih1 _ _ _ _ _ _ _ _ _
   | exact compositorlaw23_awake.mono _
   | exact compositorref23_Few.mono _ _
   | exact ship_Report.mono _ _
   | exact ship_Write.mono _ _
   | exact LeO.none _
   | refine LeO.ite ?_ ?_
   | refine LeO.bind ?_ (fun _ => ?_)
set_option maxHeartbeats 8000000 in
set_option maxRecDepth 100000 in
theorem compositorlaw23_ShipSize.calls (k : Nat) (A0 : Option Addr) (c0 : Nat) (l0 : List (S41)) (r : Bool) (w : World) (hr0 : Kd.C k41 w A0 l0.length l0) (hc0 : l0.length ≤ c0) (h : compositorlaw23_ShipSize.f k l0 = some r) :
  Calls Try.prog 6 #[.slice A0 l0.length c0] w fun e w' => e = .returned (.bool r) ∧ Below w.heap.size w w' := by
 have HR0 := Aside0.mk hr0
 have HC0 := Aside0.mk hc0
 clear hr0 hc0
 have HB := Aside0.mk (Below.refl w.heap.size w)
 have H : ((compositorlaw23_awake.f k).bind fun t394 => ((compositorref23_Few.f k l0).bind fun t395 => (if t395 = true then (compositorlaw23_ShipSize.l0 k l0 t394 3 0) else (some t394)))) = some r := h
 clear h
 replace H := Option.bind_eq_some_iff.mp H
 obtain ⟨t394, A20, H⟩ := H
 replace H : ((compositorref23_Few.f k l0).bind fun t395 => (if t395 = true then (compositorlaw23_ShipSize.l0 k l0 t394 3 0) else (some t394))) = some r := H
 have A2 := Aside0.mk A20
 clear A20
 replace H := Option.bind_eq_some_iff.mp H
 obtain ⟨t395, A30, H⟩ := H
 replace H : (if t395 = true then (compositorlaw23_ShipSize.l0 k l0 t394 3 0) else (some t394)) = some r := H
 have A3 := Aside0.mk A30
 clear A30
 by_cases c4 : t395 = true
 ·subst c4
  have H1 : (compositorlaw23_ShipSize.l0 k l0 t394 3 0) = some r := by rw [if_pos rfl] at H; exact H
  clear H
  have H := H1
  clear H1
  have H' := Aside0.mk H
  clear H
  go_enter Try.func6, Try.ntmps6
  have tk_ : True := trivial
  go_wp2_with (first | (go_at_call 7; clear tk_; (with_reducible refine (compositorlaw23_awake.calls k  t394 _ A2.out).mono ?_); rintro e w5 ⟨rfl, hb⟩; have n0_ := Aside0.mk (below_step (by repeat (first | (with_reducible first | exact HB.out | apply below_alloc | apply pw_below_drewN | apply below_drew1) | exact HB.out)) hb); clear HB; have HB := n0_; clear n0_; (try clear hb); (try clear hb2); (try clear hk); (try clear hi)))
  as_aux_lemma =>
  have tk_ : True := trivial
  go_wp2_with (first | (go_at_call 8; clear tk_; (with_reducible refine (compositorref23_Few.calls k _ _ l0 true _ ?side1 ?side2 A3.out).mono ?_); (case side1 => repeat (first | exact (Kd.C_below HR0.out HB.out) | (with_reducible apply Kd.C_alloc) | (with_reducible apply Kd.C_drewN) | (with_reducible apply Kd.C_drew))); (case side2 => exact HC0.out); rintro e w' ⟨rfl, ⟨nd, rfl⟩⟩))
  go_loopg [4, 5] k (fun kq v4 v5 w' => ∃ (x4_1 : Int) (x5_1 : Int), v4 = .int .i64 x4_1 ∧ v5 = .int .i64 x5_1 ∧ Aside0 (compositorlaw23_ShipSize.l0 kq l0 t394 x4_1 x5_1 = some r) ∧ Aside0 (kq ≤ k) ∧ Aside0 (Below w.heap.size w w'))
  case atStart => exact ⟨(3), (0), (by first | rfl | (simp; done) | (simp [*]; done)), (by first | rfl | (simp; done) | (simp [*]; done)), H', ⟨Nat.le_refl _⟩, ⟨by repeat (first | (with_reducible first | exact HB.out | apply below_alloc | apply pw_below_drewN | apply below_drew1) | exact HB.out)⟩⟩
  case round =>
   clear H'
   try clear p2
   try clear c4
   obtain ⟨x4_1, x5_1, rfl, rfl, HA, HK1, HB⟩ := hrel
   cases gk with
   | zero => exact absurd HA.out (by simp [compositorlaw23_ShipSize.l0])
   | succ k1 =>
    have H := HA.out
    clear HA
    simp only [compositorlaw23_ShipSize.l0] at H
    by_cases c6 : x5_1 < (l0.length : Int)
    ·rw [if_pos c6] at H
     have c6b0 : decide (x5_1 < (l0.length : Int)) = true := decide_eq_true c6
     clear c6
     by_cases c7 : 0 ≤ x5_1
     ·rw [if_pos c7] at H
      have c7b0 : decide (0 ≤ x5_1) = true := decide_eq_true c7
      clear c7
      have H' := Aside0.mk H
      clear H
      have p396 : 0 ≤ (x5_1 : Int) := odt
      have q396 : x5_1 < (l0.length : Int) := odt
      obtain ⟨ad396, A396_4, c396_4, e396, hx396_0, hx396_1, hx396_2, hx396_3, hx396_4, hl396_4, hi396_4⟩ := at_T41 HR0.out x5_1 p396 q396
      cases e396
      replace hx396_0 := (HB.out.cell (World.block_lt_of_cell? w _ hx396_0)).trans hx396_0
      replace hx396_1 := (HB.out.cell (World.block_lt_of_cell? w _ hx396_1)).trans hx396_1
      replace hx396_2 := (HB.out.cell (World.block_lt_of_cell? w _ hx396_2)).trans hx396_2
      replace hx396_3 := (HB.out.cell (World.block_lt_of_cell? w _ hx396_3)).trans hx396_3
      replace hx396_4 := (HB.out.cell (World.block_lt_of_cell? w _ hx396_4)).trans hx396_4
      have HR396_4 := Aside0.mk hi396_4
      have HC396_4 := Aside0.mk hl396_4
      clear hi396_4 hl396_4
      replace p396 := eq_true p396
      replace q396 := eq_true q396
      go_wp2
      go_roundg k1
      case measure => have := HK1.out; omega
      case rel => exact ⟨(wrap64 ((wrap64 (x4_1 + 12)) + (wrap64 (5 * (((rd_T41 l0 x5_1).f4).length : Int))))), (wrap64 (x5_1 + 1)), (by first | rfl | (simp; done) | (simp [*]; done)), (by first | rfl | (simp; done) | (simp [*]; done)), H', ⟨by have := HK1.out; omega⟩, ⟨by repeat (first | (with_reducible first | exact HB.out | apply below_alloc | apply pw_below_drewN | apply below_drew1) | exact HB.out)⟩⟩
     ·rw [if_neg c7] at H
      exact absurd H (by simp)
    ·rw [if_neg c6] at H
     have c6b0 : decide (x5_1 < (l0.length : Int)) = false := decide_eq_false c6
     clear c6
     replace H := Option.bind_eq_some_iff.mp H
     obtain ⟨⟨t397, t398⟩, A80, H⟩ := H
     replace H : ((ship_Report.f k1 l0).bind fun bt401 => (compositorlaw23_ShipSize.l1 k1 l0 t394 x4_1 t397 t398 bt401.1 bt401.2 0 0)) = some r := H
     have A8 := Aside0.mk A80
     clear A80
     replace H := Option.bind_eq_some_iff.mp H
     obtain ⟨⟨t401, t402⟩, A90, H⟩ := H
     replace H : (compositorlaw23_ShipSize.l1 k1 l0 t394 x4_1 t397 t398 t401 t402 0 0) = some r := H
     have A9 := Aside0.mk A90
     clear A90
     have H' := Aside0.mk H
     clear H
     have tk_ : True := trivial
     go_wp2_with (first | (go_at_call 9; clear tk_; (with_reducible refine (ship_Write.calls k1 _ _ l0 t397 t398 _ ?side1 ?side2 A8.out).mono ?_); (case side1 => repeat (first | exact (Kd.C_below HR0.out HB.out) | (with_reducible apply Kd.C_alloc) | (with_reducible apply Kd.C_drewN) | (with_reducible apply Kd.C_drew))); (case side2 => exact HC0.out); rintro e w10 ⟨v399, rfl, ho0, hb⟩; have n0_ := Aside0.mk (Kd.R_lower ho0 (below_size (by repeat (first | (with_reducible first | exact HB.out | apply below_alloc | apply pw_below_drewN | apply below_drew1) | exact HB.out)))); have n1_ := Aside0.mk (below_step (by repeat (first | (with_reducible first | exact HB.out | apply below_alloc | apply pw_below_drewN | apply below_drew1) | exact HB.out)) hb); clear HB; have HO400 := n0_; have HB := n1_; clear n0_ n1_; (try clear hb); (try clear hb2); (try clear hk); (try clear hi); (try clear ho0)))
     as_aux_lemma =>
     have tk_ : True := trivial
     go_wp2_with (first | (go_at_call 11; clear tk_; (with_reducible refine (ship_Report.calls k1 _ _ l0 t401 t402 _ ?side1 ?side2 A9.out).mono ?_); (case side1 => repeat (first | exact (Kd.C_below HR0.out HB.out) | (with_reducible apply Kd.C_alloc) | (with_reducible apply Kd.C_drewN) | (with_reducible apply Kd.C_drew))); (case side2 => exact HC0.out); rintro e w11 ⟨v403, v405, rfl, ho0, ho1, hb⟩; have n0_ := Aside0.mk (Kd.R_below (by (with_reducible repeat (first | apply Kd.R_alloc | apply Kd.R_drewN | apply Kd.R_drew)); exact HO400.out) hb); have n1_ := Aside0.mk (Kd.R_lower ho0 (below_size (by repeat (first | (with_reducible first | exact HB.out | apply below_alloc | apply pw_below_drewN | apply below_drew1) | exact HB.out)))); have n2_ := Aside0.mk (Kd.R_lower ho1 (below_size (by repeat (first | (with_reducible first | exact HB.out | apply below_alloc | apply pw_below_drewN | apply below_drew1) | exact HB.out)))); have n3_ := Aside0.mk (below_step (by repeat (first | (with_reducible first | exact HB.out | apply below_alloc | apply pw_below_drewN | apply below_drew1) | exact HB.out)) hb); clear HO400; clear HB; have HO400 := n0_; have HO404 := n1_; have HO406 := n2_; have HB := n3_; clear n0_ n1_ n2_ n3_; (try clear hb); (try clear hb2); (try clear hk); (try clear hi); (try clear ho0); (try clear ho1)))
     go_loopg [10, 11] k1 (fun kq v10 v11 w' => ∃ (x10_2 : Int) (x11_2 : Int), v10 = .int .i64 x10_2 ∧ v11 = .int .i64 x11_2 ∧ Aside0 (compositorlaw23_ShipSize.l1 kq l0 t394 x4_1 t397 t398 t401 t402 x10_2 x11_2 = some r) ∧ Aside0 (kq ≤ k1) ∧ Aside0 (Kd.R (Kd.int .u8) 5 w' w.heap.size (fun _ => True) v399 t397) ∧ Aside0 (Kd.R (Kd.int .i64) 3 w' w.heap.size (fun k_ => some k_ ≠ (v405 : Value).ownBlock) v403 t401) ∧ Aside0 (Kd.R (Kd.int .i64) 3 w' w.heap.size (fun k_ => some k_ ≠ (v403 : Value).ownBlock) v405 t402) ∧ Aside0 (Below w.heap.size w w'))
     case atStart => exact ⟨(0), (0), (by first | rfl | (simp; done) | (simp [*]; done)), (by first | rfl | (simp; done) | (simp [*]; done)), H', ⟨Nat.le_refl _⟩, ⟨by (with_reducible repeat (first | apply Kd.R_alloc | apply Kd.R_drewN | apply Kd.R_drew)); exact HO400.out⟩, ⟨by (with_reducible repeat (first | apply Kd.R_alloc | apply Kd.R_drewN | apply Kd.R_drew)); exact HO404.out⟩, ⟨by (with_reducible repeat (first | apply Kd.R_alloc | apply Kd.R_drewN | apply Kd.R_drew)); exact HO406.out⟩, ⟨by repeat (first | (with_reducible first | exact HB.out | apply below_alloc | apply pw_below_drewN | apply below_drew1) | exact HB.out)⟩⟩
     case round =>
      clear H'
      try clear c1
      try clear p2
      try clear c3
      try clear p3
      try clear q3
      try clear hx3
      try clear c4
      try clear c6
      try clear c6b0
      try clear p6
      try clear c7
      try clear c7b0
      try clear c8
      try clear c9
      try clear c11
      try clear hx396_0
      try clear hx396_1
      try clear hx396_2
      try clear hx396_3
      try clear hx396_4
      try clear p2
      try clear p396
      try clear q396
      obtain ⟨x10_2, x11_2, rfl, rfl, HA, HK2, HO_6, HO_8, HO_9, HB⟩ := hrel
      cases gk with
      | zero => exact absurd HA.out (by simp [compositorlaw23_ShipSize.l1])
      | succ k2 =>
       have H := HA.out
       clear HA
       simp only [compositorlaw23_ShipSize.l1] at H
       by_cases c12 : x11_2 < (l0.length : Int)
       ·rw [if_pos c12] at H
        have c12b0 : decide (x11_2 < (l0.length : Int)) = true := decide_eq_true c12
        clear c12
        by_cases c13 : 0 ≤ x11_2
        ·rw [if_pos c13] at H
         have c13b0 : decide (0 ≤ x11_2) = true := decide_eq_true c13
         clear c13
         by_cases c14 : ((rd_T41 l0 x11_2).f3) < 0
         ·rw [if_pos c14] at H
          have c14b0 : decide (((rd_T41 l0 x11_2).f3) < 0) = true := decide_eq_true c14
          clear c14
          by_cases c15 : (wrap64 (x11_2 - x10_2)) < 0
          ·rw [if_pos c15] at H
           exact absurd H (by simp)
          ·rw [if_neg c15] at H
           have c15b0 : decide ((wrap64 (x11_2 - x10_2)) < 0) = false := decide_eq_false c15
           (try (have c15b1 : decide ((IntKind.i64.wrap (x11_2 - x10_2)) < 0) = false := by simp only [i64_w]; exact (decide_eq_false c15)))
           clear c15
           by_cases c16 : x10_2 ≥ (t401.length : Int)
           ·rw [if_pos c16] at H
            exact absurd H (by simp)
           ·rw [if_neg c16] at H
            have c16b0 : decide ((t401.length : Int) ≤ x10_2) = false := decide_eq_false c16
            clear c16
            by_cases c17 : 0 ≤ x10_2
            ·rw [if_pos c17] at H
             have c17b0 : decide (0 ≤ x10_2) = true := decide_eq_true c17
             clear c17
             by_cases c18 : x10_2 < (t401.length : Int)
             ·rw [if_pos c18] at H
              have c18b0 : decide (x10_2 < (t401.length : Int)) = true := decide_eq_true c18
              clear c18
              by_cases c19 : (rd t401 x10_2) = (wrap64 (x11_2 + 1))
              ·rw [if_pos c19] at H
               have c19b0 : ((rd t401 x10_2) == (wrap64 (x11_2 + 1))) = true := beq_iff_eq.mpr c19
               have c19b1 : ((rd t401 x10_2) != (wrap64 (x11_2 + 1))) = false := bne_eq_false_iff_eq.mpr c19
               (try (have c19b2 : ((rd t401 x10_2) == (IntKind.i64.wrap (x11_2 + 1))) = true := by simp only [i64_w]; exact (beq_iff_eq.mpr c19)))
               (try (have c19b3 : ((rd t401 x10_2) != (IntKind.i64.wrap (x11_2 + 1))) = false := by simp only [i64_w]; exact (bne_eq_false_iff_eq.mpr c19)))
               clear c19
               have H' := Aside0.mk H
               clear H
               have p407 : 0 ≤ (x11_2 : Int) := odt
               have q407 : x11_2 < (l0.length : Int) := odt
               obtain ⟨ad407, A407_4, c407_4, e407, hx407_0, hx407_1, hx407_2, hx407_3, hx407_4, hl407_4, hi407_4⟩ := at_T41 HR0.out x11_2 p407 q407
               cases e407
               replace hx407_0 := (HB.out.cell (World.block_lt_of_cell? w _ hx407_0)).trans hx407_0
               replace hx407_1 := (HB.out.cell (World.block_lt_of_cell? w _ hx407_1)).trans hx407_1
               replace hx407_2 := (HB.out.cell (World.block_lt_of_cell? w _ hx407_2)).trans hx407_2
               replace hx407_3 := (HB.out.cell (World.block_lt_of_cell? w _ hx407_3)).trans hx407_3
               replace hx407_4 := (HB.out.cell (World.block_lt_of_cell? w _ hx407_4)).trans hx407_4
               have HR407_4 := Aside0.mk hi407_4
               have HC407_4 := Aside0.mk hl407_4
               clear hi407_4 hl407_4
               replace p407 := eq_true p407
               replace q407 := eq_true q407
               obtain ⟨Ao20, co20, eo20⟩ := Kd.R_slice HO_8.out
               subst eo20
               have p408 : 0 ≤ (x10_2 : Int) := odt
               have q408 : x10_2 < (t401.length : Int) := odt
               obtain ⟨ad408, e408, hx408_0⟩ := Kd.at_int (Kd.R_reads' HO_8.out).2.2 x10_2 p408 q408
               cases e408
               replace p408 := eq_true p408
               replace q408 := eq_true q408
               go_wp2
               go_roundg k2
               case measure => have := HK1.out; have := HK2.out; omega
               case rel => exact ⟨(wrap64 (x10_2 + 1)), (wrap64 (x11_2 + 1)), (by first | rfl | (simp; done) | (simp [*]; done)), (by first | rfl | (simp; done) | (simp [*]; done)), H', ⟨by have := HK1.out; have := HK2.out; omega⟩, ⟨by (with_reducible repeat (first | apply Kd.R_alloc | apply Kd.R_drewN | apply Kd.R_drew)); exact HO_6.out⟩, ⟨by (with_reducible repeat (first | apply Kd.R_alloc | apply Kd.R_drewN | apply Kd.R_drew)); exact HO_8.out⟩, ⟨by (with_reducible repeat (first | apply Kd.R_alloc | apply Kd.R_drewN | apply Kd.R_drew)); exact HO_9.out⟩, ⟨by repeat (first | (with_reducible first | exact HB.out | apply below_alloc | apply pw_below_drewN | apply below_drew1) | exact HB.out)⟩⟩
              ·rw [if_neg c19] at H
               exact absurd H (by simp)
             ·rw [if_neg c18] at H
              exact absurd H (by simp)
            ·rw [if_neg c17] at H
             exact absurd H (by simp)
         ·rw [if_neg c14] at H
          have c14b0 : decide (((rd_T41 l0 x11_2).f3) < 0) = false := decide_eq_false c14
          clear c14
          have H' := Aside0.mk H
          clear H
          have p407 : 0 ≤ (x11_2 : Int) := odt
          have q407 : x11_2 < (l0.length : Int) := odt
          obtain ⟨ad407, A407_4, c407_4, e407, hx407_0, hx407_1, hx407_2, hx407_3, hx407_4, hl407_4, hi407_4⟩ := at_T41 HR0.out x11_2 p407 q407
          cases e407
          replace hx407_0 := (HB.out.cell (World.block_lt_of_cell? w _ hx407_0)).trans hx407_0
          replace hx407_1 := (HB.out.cell (World.block_lt_of_cell? w _ hx407_1)).trans hx407_1
          replace hx407_2 := (HB.out.cell (World.block_lt_of_cell? w _ hx407_2)).trans hx407_2
          replace hx407_3 := (HB.out.cell (World.block_lt_of_cell? w _ hx407_3)).trans hx407_3
          replace hx407_4 := (HB.out.cell (World.block_lt_of_cell? w _ hx407_4)).trans hx407_4
          have HR407_4 := Aside0.mk hi407_4
          have HC407_4 := Aside0.mk hl407_4
          clear hi407_4 hl407_4
          replace p407 := eq_true p407
          replace q407 := eq_true q407
          go_wp2
          go_roundg k2
          case measure => have := HK1.out; have := HK2.out; omega
          case rel => exact ⟨(x10_2), (wrap64 (x11_2 + 1)), (by first | rfl | (simp; done) | (simp [*]; done)), (by first | rfl | (simp; done) | (simp [*]; done)), H', ⟨by have := HK1.out; have := HK2.out; omega⟩, ⟨by (with_reducible repeat (first | apply Kd.R_alloc | apply Kd.R_drewN | apply Kd.R_drew)); exact HO_6.out⟩, ⟨by (with_reducible repeat (first | apply Kd.R_alloc | apply Kd.R_drewN | apply Kd.R_drew)); exact HO_8.out⟩, ⟨by (with_reducible repeat (first | apply Kd.R_alloc | apply Kd.R_drewN | apply Kd.R_drew)); exact HO_9.out⟩, ⟨by repeat (first | (with_reducible first | exact HB.out | apply below_alloc | apply pw_below_drewN | apply below_drew1) | exact HB.out)⟩⟩
        ·rw [if_neg c13] at H
         exact absurd H (by simp)
       ·rw [if_neg c12] at H
        have c12b0 : decide (x11_2 < (l0.length : Int)) = false := decide_eq_false c12
        clear c12
        by_cases c21 : t394 = true
        ·subst c21
         have H1 : (if t398 = 0 then (if (t397.length : Int) = x4_1 then (if x10_2 = (t401.length : Int) then (some (decide ((wrap64 ((t401.length : Int) + (t402.length : Int))) ≤ (l0.length : Int)))) else (none)) else (none)) else (if (t397.length : Int) = 0 then (if x10_2 = (t401.length : Int) then (some (decide ((wrap64 ((t401.length : Int) + (t402.length : Int))) ≤ (l0.length : Int)))) else (none)) else (none))) = some r := by rw [if_pos rfl] at H; exact H
         clear H
         have H := H1
         clear H1
         by_cases c22 : t398 = 0
         ·rw [if_pos c22] at H
          have c22b0 : (t398 == 0) = true := beq_iff_eq.mpr c22
          have c22b1 : (t398 != 0) = false := bne_eq_false_iff_eq.mpr c22
          clear c22
          by_cases c23 : (t397.length : Int) = x4_1
          ·rw [if_pos c23] at H
           have c23b0 : ((t397.length : Int) == x4_1) = true := beq_iff_eq.mpr c23
           have c23b1 : ((t397.length : Int) != x4_1) = false := bne_eq_false_iff_eq.mpr c23
           clear c23
           by_cases c24 : x10_2 = (t401.length : Int)
           ·rw [if_pos c24] at H
            have c24b0 : (x10_2 == (t401.length : Int)) = true := beq_iff_eq.mpr c24
            have c24b1 : (x10_2 != (t401.length : Int)) = false := bne_eq_false_iff_eq.mpr c24
            clear c24
            obtain rfl := Option.some.inj H
            obtain ⟨Ao25, co25, eo25⟩ := Kd.R_slice HO_6.out
            subst eo25
            obtain ⟨Ao26, co26, eo26⟩ := Kd.R_slice HO_8.out
            subst eo26
            obtain ⟨Ao27, co27, eo27⟩ := Kd.R_slice HO_9.out
            subst eo27
            go_wp2
            go_ret
            exact ⟨by first | rfl | (simp [errW_none, errW_some] <;> rfl) | (simp [*, errW_none, errW_some] <;> rfl), by repeat (first | (with_reducible first | exact HB.out | apply below_alloc | apply pw_below_drewN | apply below_drew1) | exact HB.out)⟩
           ·rw [if_neg c24] at H
            exact absurd H (by simp)
          ·rw [if_neg c23] at H
           exact absurd H (by simp)
         ·rw [if_neg c22] at H
          have c22b0 : (t398 == 0) = false := beq_eq_false_iff_ne.mpr c22
          have c22b1 : (t398 != 0) = true := bne_iff_ne.mpr c22
          by_cases c28 : (t397.length : Int) = 0
          ·rw [if_pos c28] at H
           have c28b0 : ((t397.length : Int) == 0) = true := beq_iff_eq.mpr c28
           have c28b1 : ((t397.length : Int) != 0) = false := bne_eq_false_iff_eq.mpr c28
           clear c28
           by_cases c29 : x10_2 = (t401.length : Int)
           ·rw [if_pos c29] at H
            have c29b0 : (x10_2 == (t401.length : Int)) = true := beq_iff_eq.mpr c29
            have c29b1 : (x10_2 != (t401.length : Int)) = false := bne_eq_false_iff_eq.mpr c29
            clear c29
            obtain rfl := Option.some.inj H
            obtain ⟨Ao30, co30, eo30⟩ := Kd.R_slice HO_6.out
            subst eo30
            obtain ⟨Ao31, co31, eo31⟩ := Kd.R_slice HO_8.out
            subst eo31
            obtain ⟨Ao32, co32, eo32⟩ := Kd.R_slice HO_9.out
            subst eo32
            go_wp2
            go_ret
            exact ⟨by first | rfl | (simp [errW_none, errW_some] <;> rfl) | (simp [*, errW_none, errW_some] <;> rfl), by repeat (first | (with_reducible first | exact HB.out | apply below_alloc | apply pw_below_drewN | apply below_drew1) | exact HB.out)⟩
           ·rw [if_neg c29] at H
            exact absurd H (by simp)
          ·rw [if_neg c28] at H
           exact absurd H (by simp)
        ·replace c21 := Bool.eq_false_iff.mpr c21
         subst c21
         have H1 : (none) = some r := by rw [if_neg (show ¬ (false = true) by decide)] at H; exact H
         clear H
         have H := H1
         clear H1
         exact absurd H (by simp)
 ·replace c4 := Bool.eq_false_iff.mpr c4
  subst c4
  have H1 : (some t394) = some r := by rw [if_neg (show ¬ (false = true) by decide)] at H; exact H
  clear H
  have H := H1
  clear H1
  obtain rfl := Option.some.inj H
  go_enter Try.func6, Try.ntmps6
  have tk_ : True := trivial
  go_wp2_with (first | (go_at_call 7; clear tk_; (with_reducible refine (compositorlaw23_awake.calls k  t394 _ A2.out).mono ?_); rintro e w33 ⟨rfl, hb⟩; have n0_ := Aside0.mk (below_step (by repeat (first | (with_reducible first | exact HB.out | apply below_alloc | apply pw_below_drewN | apply below_drew1) | exact HB.out)) hb); clear HB; have HB := n0_; clear n0_; (try clear hb); (try clear hb2); (try clear hk); (try clear hi)))
  as_aux_lemma =>
  have tk_ : True := trivial
  go_wp2_with (first | (go_at_call 8; clear tk_; (with_reducible refine (compositorref23_Few.calls k _ _ l0 false _ ?side1 ?side2 A3.out).mono ?_); (case side1 => repeat (first | exact (Kd.C_below HR0.out HB.out) | (with_reducible apply Kd.C_alloc) | (with_reducible apply Kd.C_drewN) | (with_reducible apply Kd.C_drew))); (case side2 => exact HC0.out); rintro e w' ⟨rfl, ⟨nd, rfl⟩⟩))
  go_ret
  exact ⟨by first | rfl | (simp [errW_none, errW_some] <;> rfl) | (simp [*, errW_none, errW_some] <;> rfl), by repeat (first | (with_reducible first | exact HB.out | apply below_alloc | apply pw_below_drewN | apply below_drew1) | exact HB.out)⟩

end Go.Proofs.Ytihiiidbhhlfnaa.G
