/- Contracts of the functions of this seat: what each call computes, as a plain Lean function. Made by this session's own generator. -/
import Derived.Test.YtepllkdlnajbjaaGx0
namespace Go.Proofs.Ytepllkdlnajbjaa.G
open Go.RowKit Go.Proofs.YtepllkdlnajbjaaMy Go.Proofs.YtepllkdlnajbjaaW.PrintWords Go.Proofs.YtepllkdlnajbjaaW.PrintLast Go.Proofs.YtepllkdlnajbjaaW.PrintMore
attribute [local go_sem] max2_int min2_int max_two min_two max_three min_three max_four min_four   -- for this text's walks alone
set_option linter.unusedVariables false
set_option linter.unusedSimpArgs false

/-! ### compositorref17_Whole: function 14 -/
mutual
def compositorref17_Whole.l0 : Nat → List (List (List Int)) → List (S24) → List (List Int) → Bool → Int → Option ((List (List Int)))
 | 0, _, _, _, _, _ => none
 | k + 1, x0, x1, x5, x6, x7 => if x7 < (x0.length : Int) then (compositorref17_Whole.j1 k x0 x1 x5 x6 x7 (decide (x7 < (x1.length : Int)))) else (compositorref17_Whole.j1 k x0 x1 x5 x6 x7 false)
def compositorref17_Whole.j1 : Nat → List (List (List Int)) → List (S24) → List (List Int) → Bool → Int → Bool → Option ((List (List Int)))
 | 0, _, _, _, _, _, _ => none
 | k + 1, x0, x1, x5, x6, x7, x20 => if x20 = true then (compositorref17_Whole.l1 k x0 x1 x5 x6 x7 0) else (some x5)
def compositorref17_Whole.l1 : Nat → List (List (List Int)) → List (S24) → List (List Int) → Bool → Int → Int → Option ((List (List Int)))
 | 0, _, _, _, _, _, _ => none
 | k + 1, x0, x1, x5, x6, x7, x8 => if 0 ≤ x7 then (if x7 < (x0.length : Int) then (if x8 < ((rd_L4 x0 x7).length : Int) then ((some (([] : List Int) : List Int)).bind fun y442 => (if 0 ≤ x8 then (if y442.length + (rd_L1 (rd_L4 x0 x7) x8).length < 17592186044416 then ((some (y442 ++ (rd_L1 (rd_L4 x0 x7) x8) : List Int)).bind fun y447 => (if x8 = (wrap64 (((rd_L4 x0 x7).length : Int) - 1)) then (if (y447.length : Int) > 0 then (if x7 < (x1.length : Int) then (if ((rd_T24 x1 x7).f0) = 2 then (compositorref17_Whole.j3 k x0 x1 x5 x6 x7 x8 y447 true) else (compositorref17_Whole.j3 k x0 x1 x5 x6 x7 x8 y447 (((rd_T24 x1 x7).f0) == 3))) else (none)) else (compositorref17_Whole.j3 k x0 x1 x5 x6 x7 x8 y447 false)) else (compositorref17_Whole.j3 k x0 x1 x5 x6 x7 x8 y447 false))) else (none)) else (none))) else (if x7 < (x1.length : Int) then (if ((rd_T24 x1 x7).f0) ≥ 2 then (compositorref17_Whole.l0 k x0 x1 x5 (decide (((rd_T24 x1 x7).f0) ≤ 4)) (wrap64 (x7 + 1))) else (compositorref17_Whole.l0 k x0 x1 x5 false (wrap64 (x7 + 1)))) else (none))) else (none)) else (none)
def compositorref17_Whole.j3 : Nat → List (List (List Int)) → List (S24) → List (List Int) → Bool → Int → Int → List Int → Bool → Option ((List (List Int)))
 | 0, _, _, _, _, _, _, _, _ => none
 | k + 1, x0, x1, x5, x6, x7, x8, x9, x70 => if x70 = true then (if 0 ≤ (wrap64 ((x9.length : Int) - 1)) then (if (wrap64 ((x9.length : Int) - 1)) ≤ (x9.length : Int) then ((some (x9.take ((wrap64 ((x9.length : Int) - 1)) : Int).toNat : List Int)).bind fun y453 => (if x8 = 0 then (if x6 = true then (if (x5.length : Int) > 0 then ((some (([] : List Int) : List Int)).bind fun y456 => (if 0 ≤ (wrap64 ((x5.length : Int) - 1)) then (if (wrap64 ((x5.length : Int) - 1)) < (x5.length : Int) then (if y456.length + (rd_L1 x5 (wrap64 ((x5.length : Int) - 1))).length < 17592186044416 then ((some (y456 ++ (rd_L1 x5 (wrap64 ((x5.length : Int) - 1))) : List Int)).bind fun y460 => (if y460.length + y453.length < 17592186044416 then (compositorref17_Whole.l1 k x0 x1 (x5.set ((wrap64 ((x5.length : Int) - 1)) : Int).toNat (y460 ++ y453)) x6 x7 (wrap64 (x8 + 1))) else (none))) else (none)) else (none)) else (none))) else (if x5.length < 5864062014805 then (compositorref17_Whole.l1 k x0 x1 (x5 ++ [y453]) x6 x7 (wrap64 (x8 + 1))) else (none))) else (if x5.length < 5864062014805 then (compositorref17_Whole.l1 k x0 x1 (x5 ++ [y453]) x6 x7 (wrap64 (x8 + 1))) else (none))) else (if x5.length < 5864062014805 then (compositorref17_Whole.l1 k x0 x1 (x5 ++ [y453]) x6 x7 (wrap64 (x8 + 1))) else (none)))) else (none)) else (none)) else (if x8 = 0 then (if x6 = true then (if (x5.length : Int) > 0 then ((some (([] : List Int) : List Int)).bind fun y476 => (if 0 ≤ (wrap64 ((x5.length : Int) - 1)) then (if (wrap64 ((x5.length : Int) - 1)) < (x5.length : Int) then (if y476.length + (rd_L1 x5 (wrap64 ((x5.length : Int) - 1))).length < 17592186044416 then ((some (y476 ++ (rd_L1 x5 (wrap64 ((x5.length : Int) - 1))) : List Int)).bind fun y480 => (if y480.length + x9.length < 17592186044416 then (compositorref17_Whole.l1 k x0 x1 (x5.set ((wrap64 ((x5.length : Int) - 1)) : Int).toNat (y480 ++ x9)) x6 x7 (wrap64 (x8 + 1))) else (none))) else (none)) else (none)) else (none))) else (if x5.length < 5864062014805 then (compositorref17_Whole.l1 k x0 x1 (x5 ++ [x9]) x6 x7 (wrap64 (x8 + 1))) else (none))) else (if x5.length < 5864062014805 then (compositorref17_Whole.l1 k x0 x1 (x5 ++ [x9]) x6 x7 (wrap64 (x8 + 1))) else (none))) else (if x5.length < 5864062014805 then (compositorref17_Whole.l1 k x0 x1 (x5 ++ [x9]) x6 x7 (wrap64 (x8 + 1))) else (none)))
end
def compositorref17_Whole.f (k : Nat) (l0 : List (List (List Int))) (l1 : List (S24)) : Option ((List (List Int))) := compositorref17_Whole.l0 k l0 l1 ([] : List (List Int)) false 0
theorem compositorref17_Whole.mono_l : ∀ k, (∀ y0 y1 y2 y3 y4, LeO (compositorref17_Whole.l0 k y0 y1 y2 y3 y4) (compositorref17_Whole.l0 (k + 1) y0 y1 y2 y3 y4)) ∧ (∀ y0 y1 y2 y3 y4 y5, LeO (compositorref17_Whole.j1 k y0 y1 y2 y3 y4 y5) (compositorref17_Whole.j1 (k + 1) y0 y1 y2 y3 y4 y5)) ∧ (∀ y0 y1 y2 y3 y4 y5, LeO (compositorref17_Whole.l1 k y0 y1 y2 y3 y4 y5) (compositorref17_Whole.l1 (k + 1) y0 y1 y2 y3 y4 y5)) ∧ (∀ y0 y1 y2 y3 y4 y5 y6 y7, LeO (compositorref17_Whole.j3 k y0 y1 y2 y3 y4 y5 y6 y7) (compositorref17_Whole.j3 (k + 1) y0 y1 y2 y3 y4 y5 y6 y7))
 | 0 => ⟨fun _ _ _ _ _ r h => by simp [compositorref17_Whole.l0] at h, fun _ _ _ _ _ _ r h => by simp [compositorref17_Whole.j1] at h, fun _ _ _ _ _ _ r h => by simp [compositorref17_Whole.l1] at h, fun _ _ _ _ _ _ _ _ r h => by simp [compositorref17_Whole.j3] at h⟩
 | k + 1 => by
  obtain ⟨ih0, ih1, ih2, ih3⟩ := compositorref17_Whole.mono_l k
  refine ⟨?_, ?_, ?_, ?_⟩
  ·intro y0 y1 y2 y3 y4
   unfold compositorref17_Whole.l0
   repeat' first
   | (with_reducible exact ih0 _ _ _ _ _)
   | (with_reducible exact ih1 _ _ _ _ _ _)
   | (with_reducible exact ih2 _ _ _ _ _ _)
   | (with_reducible exact ih3 _ _ _ _ _ _ _ _)
   | (with_reducible exact LeO.refl _)
   | (with_reducible exact LeO.none _)
   | (with_reducible refine LeO.ite ?_ ?_)
   | (with_reducible refine LeO.bind ?_ (fun _ => ?_))
   | exact ih0 _ _ _ _ _
   | exact ih1 _ _ _ _ _ _
   | exact ih2 _ _ _ _ _ _
   | exact ih3 _ _ _ _ _ _ _ _
   | exact LeO.none _
   | refine LeO.ite ?_ ?_
   | refine LeO.bind ?_ (fun _ => ?_)
  ·intro y0 y1 y2 y3 y4 y5
   unfold compositorref17_Whole.j1
   repeat' first
   | (with_reducible exact ih0 _ _ _ _ _)
   | (with_reducible exact ih1 _ _ _ _ _ _)
   | (with_reducible exact ih2 _ _ _ _ _ _)
   | (with_reducible exact ih3 _ _ _ _ _ _ _ _)
   | (with_reducible exact LeO.refl _)
   | (with_reducible exact LeO.none _)
   | (with_reducible refine LeO.ite ?_ ?_)
   | (with_reducible refine LeO.bind ?_ (fun _ => ?_))
   | exact ih0 _ _ _ _ _
   | exact ih1 _ _ _ _ _ _
   | exact ih2 _ _ _ _ _ _
   | exact ih3 _ _ _ _ _ _ _ _
   | exact LeO.none _
   | refine LeO.ite ?_ ?_
   | refine LeO.bind ?_ (fun _ => ?_)
  ·intro y0 y1 y2 y3 y4 y5
   unfold compositorref17_Whole.l1
   repeat' first
   | (with_reducible exact ih0 _ _ _ _ _)
   | (with_reducible exact ih1 _ _ _ _ _ _)
   | (with_reducible exact ih2 _ _ _ _ _ _)
   | (with_reducible exact ih3 _ _ _ _ _ _ _ _)
   | (with_reducible exact LeO.refl _)
   | (with_reducible exact LeO.none _)
   | (with_reducible refine LeO.ite ?_ ?_)
   | (with_reducible refine LeO.bind ?_ (fun _ => ?_))
   | exact ih0 _ _ _ _ _
   | exact ih1 _ _ _ _ _ _
   | exact ih2 _ _ _ _ _ _
   | exact ih3 _ _ _ _ _ _ _ _
   | exact LeO.none _
   | refine LeO.ite ?_ ?_
   | refine LeO.bind ?_ (fun _ => ?_)
  ·intro y0 y1 y2 y3 y4 y5 y6 y7
   unfold compositorref17_Whole.j3
   repeat' first
   | (with_reducible exact ih0 _ _ _ _ _)
   | (with_reducible exact ih1 _ _ _ _ _ _)
   | (with_reducible exact ih2 _ _ _ _ _ _)
   | (with_reducible exact ih3 _ _ _ _ _ _ _ _)
   | (with_reducible exact LeO.refl _)
   | (with_reducible exact LeO.none _)
   | (with_reducible refine LeO.ite ?_ ?_)
   | (with_reducible refine LeO.bind ?_ (fun _ => ?_))
   | exact ih0 _ _ _ _ _
   | exact ih1 _ _ _ _ _ _
   | exact ih2 _ _ _ _ _ _
   | exact ih3 _ _ _ _ _ _ _ _
   | exact LeO.none _
   | refine LeO.ite ?_ ?_
   | refine LeO.bind ?_ (fun _ => ?_)
theorem compositorref17_Whole.mono : ∀ a0 a1 k, LeO (compositorref17_Whole.f k a0 a1) (compositorref17_Whole.f (k + 1) a0 a1) := by
 intro a0 a1 k
 obtain ⟨ih0, ih1, ih2, ih3⟩ := compositorref17_Whole.mono_l k
 unfold compositorref17_Whole.f
 repeat' first
   | (with_reducible exact ih0 _ _ _ _ _)
   | (with_reducible exact ih1 _ _ _ _ _ _)
   | (with_reducible exact ih2 _ _ _ _ _ _)
   | (with_reducible exact ih3 _ _ _ _ _ _ _ _)
   | (with_reducible exact LeO.refl _)
   | (with_reducible exact LeO.none _)
   | (with_reducible refine LeO.ite ?_ ?_)
   | (with_reducible refine LeO.bind ?_ (fun _ => ?_))
   | exact ih0 _ _ _ _ _
   | exact ih1 _ _ _ _ _ _
   | exact ih2 _ _ _ _ _ _
   | exact ih3 _ _ _ _ _ _ _ _
   | exact LeO.none _
   | refine LeO.ite ?_ ?_
   | refine LeO.bind ?_ (fun _ => ?_)
set_option maxHeartbeats 8000000 in
set_option maxRecDepth 100000 in
theorem compositorref17_Whole.calls (k : Nat) (A0 : Option Addr) (c0 : Nat) (l0 : List (List (List Int))) (A1 : Option Addr) (c1 : Nat) (l1 : List (S24)) (r : List (List Int)) (w : World) (hr0 : Kd.C (Kd.slice 36 (Kd.slice 3 (Kd.int .i64))) w A0 l0.length l0) (hc0 : l0.length ≤ c0) (hr1 : Kd.C k24 w A1 l1.length l1) (hc1 : l1.length ≤ c1) (h : compositorref17_Whole.f k l0 l1 = some r) :
  Calls Try.prog 14 #[.slice A0 l0.length c0, .slice A1 l1.length c1] w fun e w' => ∃ v0_ : Value, e = .returned (v0_) ∧ Kd.S (Kd.slice 3 (Kd.int .i64)) 36 w' w.heap.size (fun _ => True) v0_ r ∧ Below w.heap.size w w' := by
 have HR0 := Aside0.mk hr0
 have HC0 := Aside0.mk hc0
 clear hr0 hc0
 have HR1 := Aside0.mk hr1
 have HC1 := Aside0.mk hc1
 clear hr1 hc1
 have HB := Aside0.mk (Below.refl w.heap.size w)
 have H : (compositorref17_Whole.l0 k l0 l1 ([] : List (List Int)) false 0) = some r := h
 clear h
 have H' := Aside0.mk H
 clear H
 go_enter Try.func14, Try.ntmps14
 go_wp2
 go_loopg [5, 6, 7] k (fun kq v5 v6 v7 w' => ∃ (x5_1 : List (List Int)) (x6_1 : Bool) (x7_1 : Int), v6 = .bool x6_1 ∧ v7 = .int .i64 x7_1 ∧ Aside0 (compositorref17_Whole.l0 kq l0 l1 x5_1 x6_1 x7_1 = some r) ∧ Aside0 (kq ≤ k) ∧ Aside0 (Kd.S (Kd.slice 3 (Kd.int .i64)) 36 w' w.heap.size (fun _ => True) v5 x5_1) ∧ Aside0 (Below w.heap.size w w'))
 case atStart => exact ⟨(([] : List (List Int))), (false), (0), (by first | rfl | (simp; done) | (simp [*]; done)), (by first | rfl | (simp; done) | (simp [*]; done)), H', ⟨Nat.le_refl _⟩, ⟨by first | exact Kd.S_nil _ _ _ _ _ | exact Kd.N_nil _ _ _ _ _ | exact Kd.V_nil _ _ _ _ _ | exact Kd.Q_nil _ _ _ _ _ | exact Kd.R_nil _ _ _ _ _⟩, ⟨by repeat (first | (with_reducible first | exact HB.out | apply below_alloc | apply pw_below_drewN | apply below_drew1) | exact HB.out)⟩⟩
 case round =>
  clear H'
  try clear c1
  try clear p2
  obtain ⟨x5_1, x6_1, x7_1, rfl, rfl, HA, HK1, HO_5, HB⟩ := hrel
  cases gk with
  | zero => exact absurd HA.out (by simp [compositorref17_Whole.l0])
  | succ k1 =>
   have H := HA.out
   clear HA
   simp only [compositorref17_Whole.l0] at H
   have HC3 := Aside0.mk H
   clear H
   go_upto_region 4 with (fail)
   go_cut [20] (fun v20 wc => ∃ (kq : Nat) (x20_2 : Bool), v20 = .bool x20_2 ∧ Aside0 (compositorref17_Whole.j1 kq l0 l1 x5_1 x6_1 x7_1 x20_2 = some r) ∧ Aside0 (kq ≤ k1) ∧ Aside0 (Kd.S (Kd.slice 3 (Kd.int .i64)) 36 wc w.heap.size (fun _ => True) u5 x5_1) ∧ Aside0 (Below w.heap.size w wc))
   case first => as_aux_lemma =>
    have H := HC3.out
    clear HC3
    by_cases c4 : x7_1 < (l0.length : Int)
    ·rw [if_pos c4] at H
     have c4b0 : decide (x7_1 < (l0.length : Int)) = true := decide_eq_true c4
     clear c4
     (first | rw [c4b0] | (simp only [i64_w, i32_w]; rw [c4b0]) | skip)
     have H' := Aside0.mk H
     clear H
     go_wp2
     go_meet
     case rel => exact ⟨_, (decide (x7_1 < (l1.length : Int))), (by first | rfl | (simp; done) | (simp [*]; done)), H', ⟨by have := HK1.out; first | omega | exact Nat.le_refl _⟩, ⟨by (with_reducible repeat (first | apply Kd.S_alloc | apply Kd.S_drewN | apply Kd.S_drew)); exact HO_5.out⟩, ⟨by repeat (first | (with_reducible first | exact HB.out | apply below_alloc | apply pw_below_drewN | apply below_drew1) | exact HB.out)⟩⟩
    ·rw [if_neg c4] at H
     have c4b0 : decide (x7_1 < (l0.length : Int)) = false := decide_eq_false c4
     clear c4
     (first | rw [c4b0] | (simp only [i64_w, i32_w]; rw [c4b0]) | skip)
     have H' := Aside0.mk H
     clear H
     go_wp2
     go_meet
     case rel => exact ⟨_, (false), (by first | rfl | (simp; done) | (simp [*]; done)), H', ⟨by have := HK1.out; first | omega | exact Nat.le_refl _⟩, ⟨by (with_reducible repeat (first | apply Kd.S_alloc | apply Kd.S_drewN | apply Kd.S_drew)); exact HO_5.out⟩, ⟨by repeat (first | (with_reducible first | exact HB.out | apply below_alloc | apply pw_below_drewN | apply below_drew1) | exact HB.out)⟩⟩
   case rest => as_aux_lemma =>
    clear HC3
    try clear c1
    try clear p2
    try clear c4
    try clear c4b0
    try clear p2
    obtain ⟨kq, x20_2, rfl, HA, HJ2, HO_5, HB⟩ := hcut
    cases kq with
    | zero => exact absurd HA.out (by simp [compositorref17_Whole.j1])
    | succ kj2 =>
     have H := HA.out
     clear HA
     simp only [compositorref17_Whole.j1] at H
     by_cases c5 : x20_2 = true
     ·subst c5
      have H1 : (compositorref17_Whole.l1 kj2 l0 l1 x5_1 x6_1 x7_1 0) = some r := by rw [if_pos rfl] at H; exact H
      clear H
      have H := H1
      clear H1
      have H' := Aside0.mk H
      clear H
      go_wp2
      go_loopg [5, 8] kj2 (fun kq v5 v8 w' => ∃ (x5_3 : List (List Int)) (x8_3 : Int), v8 = .int .i64 x8_3 ∧ Aside0 (compositorref17_Whole.l1 kq l0 l1 x5_3 x6_1 x7_1 x8_3 = some r) ∧ Aside0 (kq ≤ kj2) ∧ Aside0 (Kd.S (Kd.slice 3 (Kd.int .i64)) 36 w' w.heap.size (fun _ => True) v5 x5_3) ∧ Aside0 (Below w.heap.size w w'))
      case atStart => exact ⟨(x5_1), (0), (by first | rfl | (simp; done) | (simp [*]; done)), H', ⟨Nat.le_refl _⟩, ⟨by (with_reducible repeat (first | apply Kd.S_alloc | apply Kd.S_drewN | apply Kd.S_drew)); exact HO_5.out⟩, ⟨by repeat (first | (with_reducible first | exact HB.out | apply below_alloc | apply pw_below_drewN | apply below_drew1) | exact HB.out)⟩⟩
      case round =>
       clear H'
       try clear c1
       try clear p2
       try clear c4
       try clear c4b0
       try clear c5
       try clear p2
       obtain ⟨x5_3, x8_3, rfl, HA, HK3, HO_5, HB⟩ := hrel
       cases gk with
       | zero => exact absurd HA.out (by simp [compositorref17_Whole.l1])
       | succ k3 =>
        have H := HA.out
        clear HA
        simp only [compositorref17_Whole.l1] at H
        by_cases c6 : 0 ≤ x7_1
        ·rw [if_pos c6] at H
         have c6b0 : decide (0 ≤ x7_1) = true := decide_eq_true c6
         clear c6
         by_cases c7 : x7_1 < (l0.length : Int)
         ·rw [if_pos c7] at H
          have c7b0 : decide (x7_1 < (l0.length : Int)) = true := decide_eq_true c7
          clear c7
          by_cases c8 : x8_3 < ((rd_L4 l0 x7_1).length : Int)
          ·rw [if_pos c8] at H
           have c8b0 : decide (x8_3 < ((rd_L4 l0 x7_1).length : Int)) = true := decide_eq_true c8
           clear c8
           obtain ⟨y442, hy442⟩ : ∃ y_ : List Int, y_ = (([] : List Int)) := ⟨_, rfl⟩
           replace H : (if 0 ≤ x8_3 then (if y442.length + (rd_L1 (rd_L4 l0 x7_1) x8_3).length < 17592186044416 then ((some (y442 ++ (rd_L1 (rd_L4 l0 x7_1) x8_3) : List Int)).bind fun y447 => (if x8_3 = (wrap64 (((rd_L4 l0 x7_1).length : Int) - 1)) then (if (y447.length : Int) > 0 then (if x7_1 < (l1.length : Int) then (if ((rd_T24 l1 x7_1).f0) = 2 then (compositorref17_Whole.j3 k3 l0 l1 x5_3 x6_1 x7_1 x8_3 y447 true) else (compositorref17_Whole.j3 k3 l0 l1 x5_3 x6_1 x7_1 x8_3 y447 (((rd_T24 l1 x7_1).f0) == 3))) else (none)) else (compositorref17_Whole.j3 k3 l0 l1 x5_3 x6_1 x7_1 x8_3 y447 false)) else (compositorref17_Whole.j3 k3 l0 l1 x5_3 x6_1 x7_1 x8_3 y447 false))) else (none)) else (none)) = some r := by first | (rw [hy442]; with_reducible exact H) | (have H2_ := (Option.bind_some _ _).symm.trans H; rw [hy442]; with_reducible exact H2_) | (have H2_ := (Option.bind_some _ _).symm.trans H; with_reducible exact H2_) | with_reducible exact H | (rw [hy442]; exact H) | exact H
           have Ny442 := Aside0.mk hy442
           clear hy442
           by_cases c9 : 0 ≤ x8_3
           ·rw [if_pos c9] at H
            have c9b0 : decide (0 ≤ x8_3) = true := decide_eq_true c9
            clear c9
            by_cases c10 : y442.length + (rd_L1 (rd_L4 l0 x7_1) x8_3).length < 17592186044416
            ·rw [if_pos c10] at H
             have LMc10 := Aside0.mk c10
             clear c10
             obtain ⟨y447, hy447⟩ : ∃ y_ : List Int, y_ = (y442 ++ (rd_L1 (rd_L4 l0 x7_1) x8_3)) := ⟨_, rfl⟩
             replace H : (if x8_3 = (wrap64 (((rd_L4 l0 x7_1).length : Int) - 1)) then (if (y447.length : Int) > 0 then (if x7_1 < (l1.length : Int) then (if ((rd_T24 l1 x7_1).f0) = 2 then (compositorref17_Whole.j3 k3 l0 l1 x5_3 x6_1 x7_1 x8_3 y447 true) else (compositorref17_Whole.j3 k3 l0 l1 x5_3 x6_1 x7_1 x8_3 y447 (((rd_T24 l1 x7_1).f0) == 3))) else (none)) else (compositorref17_Whole.j3 k3 l0 l1 x5_3 x6_1 x7_1 x8_3 y447 false)) else (compositorref17_Whole.j3 k3 l0 l1 x5_3 x6_1 x7_1 x8_3 y447 false)) = some r := by first | (rw [hy447]; with_reducible exact H) | (have H2_ := (Option.bind_some _ _).symm.trans H; rw [hy447]; with_reducible exact H2_) | (have H2_ := (Option.bind_some _ _).symm.trans H; with_reducible exact H2_) | with_reducible exact H | (rw [hy447]; exact H) | exact H
             have Ny447 := Aside0.mk hy447
             clear hy447
             have HC11 := Aside0.mk H
             clear H
             have p439 : 0 ≤ (x7_1 : Int) := odt
             have q439 : x7_1 < (l0.length : Int) := odt
             obtain ⟨ad439, A439_0, c439_0, e439, hx439_0, hl439_0, hi439_0⟩ := at_L4 HR0.out x7_1 p439 q439
             cases e439
             replace hx439_0 := (HB.out.cell (World.block_lt_of_cell? w _ hx439_0)).trans hx439_0
             have HR439_0 := Aside0.mk hi439_0
             have HC439_0 := Aside0.mk hl439_0
             clear hi439_0 hl439_0
             replace p439 := eq_true p439
             replace q439 := eq_true q439
             go_upto_region 11 with (first | ((with_reducible refine gate_dst (N := 32) rfl ?_); (try (refine gate_guard (by rfl) ?_; dsimp only)); refine Kd.R_lit (Kd.int .i64) _ 3 ?hg (N := 32) ?hd (xs := ([] : List Int)) (inner := []) (ok := fun _ => True) (okp := fun _ => True) ?hr ?hp (fun _ hk => hk) trivial (Below.refl _ _) (Nat.le_refl _) (by simp) ?_; (case hd => rfl); (case hg => rfl); (case hr => first | (go_simp; done) | (go_simp; rfl)); (case hp => exact (Reps.none _ _)); intro v443 w12 ho13 hb hg_ hnew_; clear hg_ hnew_; (first | rw [← Ny442.out] at ho13 | (simp only [Int.reduceToNat] at ho13; rw [← Ny442.out] at ho13)); have n0_ := Aside0.mk (Kd.S_elder' (by (with_reducible repeat (first | apply Kd.S_alloc | apply Kd.S_drewN | apply Kd.S_drew)); exact HO_5.out) (Kd.R_base ho13) hb); have n1_ := Aside0.mk (Kd.R_lower ho13 (below_size (by repeat (first | (with_reducible first | exact HB.out | apply below_alloc | apply pw_below_drewN | apply below_drew1) | exact HB.out)))); have n2_ := Aside0.mk (below_step (by repeat (first | (with_reducible first | exact HB.out | apply below_alloc | apply pw_below_drewN | apply below_drew1) | exact HB.out)) hb); clear HO_5; clear HB; have HO_5 := n0_; have HO444 := n1_; have HB := n2_; clear n0_ n1_ n2_; clear hb ho13; have p445 : 0 ≤ (x7_1 : Int) := odt; have q445 : x7_1 < (l0.length : Int) := odt; obtain ⟨ad445, A445_0, c445_0, e445, hx445_0, hl445_0, hi445_0⟩ := at_L4 HR0.out x7_1 p445 q445; obtain rfl : ad439 = ad445 := (by injection e445); replace hx445_0 := (HB.out.cell (World.block_lt_of_cell? w _ hx445_0)).trans hx445_0; have HR445_0 := Aside0.mk hi445_0; have HC445_0 := Aside0.mk hl445_0; clear hi445_0 hl445_0; replace p445 := eq_true p445; replace q445 := eq_true q445; have p446 : 0 ≤ (x8_3 : Int) := odt; have q446 : x8_3 < ((rd_L4 l0 x7_1).length : Int) := odt; obtain ⟨ad446, A446_0, c446_0, e446, hx446_0, hl446_0, hi446_0⟩ := at_L1 HR445_0.out x8_3 p446 q446; cases e446; replace hx446_0 := (HB.out.cell (World.block_lt_of_cell? w _ hx446_0)).trans hx446_0; have HR446_0 := Aside0.mk hi446_0; have HC446_0 := Aside0.mk hl446_0; clear hi446_0 hl446_0; replace p446 := eq_true p446; replace q446 := eq_true q446) | ((with_reducible refine gate_builtin (b := .append) (xs := #[.tmp 32, .tmp 39]) rfl ?_); (try (refine gate_guard (by rfl) ?_; dsimp only)); at_builtin; refine Kd.R_append_rows (Kd.int .i64) (w0 := w) w.heap.size rfl (.tmp 32) (.tmp 39) 36 3 (.int .i64 0) 8 rfl Try.underlying36 info3 rfl (by decide) (by omega) v443 y442 (rd_L1 (rd_L4 l0 x7_1) x8_3) _ _ _ (fun _ => True) (fun _ => False) rfl rfl ?aO ?aR (fun _ _ h => h) (fun _ h => h.elim) ?aF ?aB ?aS ?aL ?_; (case aR => repeat (first | exact (Kd.C_below HR446_0.out HB.out) | (with_reducible refine Kd.C_alloc ?_ _) | (with_reducible refine Kd.C_drewN ?_ _) | (with_reducible refine Kd.C_drew ?_))); (case aB => exact (by repeat (first | (with_reducible first | exact HB.out | apply below_alloc | apply pw_below_drewN | apply below_drew1) | exact HB.out))); (case aF => exact (fun _ _ => trivial)); (case aO => exact (by (with_reducible repeat (first | apply Kd.R_alloc | apply Kd.R_drewN | apply Kd.R_drew)); exact HO444.out)); (case aS => exact (below_size (by repeat (first | (with_reducible first | exact HB.out | apply below_alloc | apply pw_below_drewN | apply below_drew1) | exact HB.out)))); (case aL => have := LMc10.out; omega); intro v448 w14 ho hb hg hat; rw [← Ny447.out] at ho; have n0_ := Aside0.mk (Kd.S_after (ok := (fun _ => True)) (by (with_reducible repeat (first | apply Kd.S_alloc | apply Kd.S_drewN | apply Kd.S_drew)); exact HO_5.out) hg hat); have n1_ := Aside0.mk (hb); have n2_ := Aside0.mk (ho); clear HO_5; clear HB; clear HO444; have HO_5 := n0_; have HB := n1_; have HO449 := n2_; clear n0_ n1_ n2_; clear ho hb hg hat; have p450 : 0 ≤ (x7_1 : Int) := odt; have q450 : x7_1 < (l0.length : Int) := odt; obtain ⟨ad450, A450_0, c450_0, e450, hx450_0, hl450_0, hi450_0⟩ := at_L4 HR0.out x7_1 p450 q450; obtain rfl : ad439 = ad450 := (by injection e450); replace hx450_0 := (HB.out.cell (World.block_lt_of_cell? w _ hx450_0)).trans hx450_0; have HR450_0 := Aside0.mk hi450_0; have HC450_0 := Aside0.mk hl450_0; clear hi450_0 hl450_0; replace p450 := eq_true p450; replace q450 := eq_true q450))
             (try simp only [Act.put, List.setIfInBounds_toArray, List.set_cons_zero, List.set_cons_succ])
             go_cut [70, 10] (fun v70 vx10_ wc => ∃ (kq : Nat) (x70_10 : Bool), v70 = .bool x70_10 ∧ Aside0 (compositorref17_Whole.j3 kq l0 l1 x5_3 x6_1 x7_1 x8_3 y447 x70_10 = some r) ∧ Aside0 (kq ≤ k3) ∧ Aside0 (Kd.S (Kd.slice 3 (Kd.int .i64)) 36 wc w.heap.size (fun k_ => some k_ ≠ (v448 : Value).ownBlock) u5 x5_3) ∧ Aside0 (Kd.R (Kd.int .i64) 3 wc w.heap.size (fun _ => True) v448 y447) ∧ Aside0 (Below w.heap.size w wc))
             case first => as_aux_lemma =>
              have H := HC11.out
              clear HC11
              by_cases c15 : x8_3 = (wrap64 (((rd_L4 l0 x7_1).length : Int) - 1))
              ·rw [if_pos c15] at H
               have c15b0 : (x8_3 == (wrap64 (((rd_L4 l0 x7_1).length : Int) - 1))) = true := beq_iff_eq.mpr c15
               have c15b1 : (x8_3 != (wrap64 (((rd_L4 l0 x7_1).length : Int) - 1))) = false := bne_eq_false_iff_eq.mpr c15
               (try (have c15b2 : (x8_3 == (IntKind.i64.wrap (((rd_L4 l0 x7_1).length : Int) - 1))) = true := by simp only [i64_w]; exact (beq_iff_eq.mpr c15)))
               (try (have c15b3 : (x8_3 != (IntKind.i64.wrap (((rd_L4 l0 x7_1).length : Int) - 1))) = false := by simp only [i64_w]; exact (bne_eq_false_iff_eq.mpr c15)))
               clear c15
               (first | rw [c15b0] | (simp only [i64_w, i32_w]; rw [c15b0]) | skip)
               by_cases c16 : (y447.length : Int) > 0
               ·rw [if_pos c16] at H
                have c16b0 : decide (0 < (y447.length : Int)) = true := decide_eq_true c16
                have c16b1 : decide (0 < y447.length) = true := decide_eq_true (by omega)
                clear c16
                by_cases c17 : x7_1 < (l1.length : Int)
                ·rw [if_pos c17] at H
                 have c17b0 : decide (x7_1 < (l1.length : Int)) = true := decide_eq_true c17
                 clear c17
                 by_cases c18 : ((rd_T24 l1 x7_1).f0) = 2
                 ·rw [if_pos c18] at H
                  have c18b0 : (((rd_T24 l1 x7_1).f0) == 2) = true := beq_iff_eq.mpr c18
                  have c18b1 : (((rd_T24 l1 x7_1).f0) != 2) = false := bne_eq_false_iff_eq.mpr c18
                  clear c18
                  have H' := Aside0.mk H
                  clear H
                  obtain ⟨Ao19, co19, eo19⟩ := Kd.R_slice HO449.out
                  subst eo19
                  have p451 : 0 ≤ (x7_1 : Int) := odt
                  have q451 : x7_1 < (l1.length : Int) := odt
                  obtain ⟨ad451, e451, hx451_0, hx451_1, hx451_2⟩ := at_T24 HR1.out x7_1 p451 q451
                  cases e451
                  replace hx451_0 := (HB.out.cell (World.block_lt_of_cell? w _ hx451_0)).trans hx451_0
                  replace hx451_1 := (HB.out.cell (World.block_lt_of_cell? w _ hx451_1)).trans hx451_1
                  replace hx451_2 := (HB.out.cell (World.block_lt_of_cell? w _ hx451_2)).trans hx451_2
                  replace p451 := eq_true p451
                  replace q451 := eq_true q451
                  go_wp2
                  go_meet
                  case rel => exact ⟨_, (true), (by first | rfl | (simp; done) | (simp [*]; done)), H', ⟨by have := HK1.out; have := HJ2.out; have := HK3.out; first | omega | exact Nat.le_refl _⟩, ⟨by (with_reducible repeat (first | apply Kd.S_alloc | apply Kd.S_drewN | apply Kd.S_drew)); exact Kd.S_mono HO_5.out (fun _ hk => hk.2)⟩, ⟨by (with_reducible repeat (first | apply Kd.R_alloc | apply Kd.R_drewN | apply Kd.R_drew)); exact HO449.out⟩, ⟨by repeat (first | (with_reducible first | exact HB.out | apply below_alloc | apply pw_below_drewN | apply below_drew1) | exact HB.out)⟩⟩
                 ·rw [if_neg c18] at H
                  have c18b0 : (((rd_T24 l1 x7_1).f0) == 2) = false := beq_eq_false_iff_ne.mpr c18
                  have c18b1 : (((rd_T24 l1 x7_1).f0) != 2) = true := bne_iff_ne.mpr c18
                  have H' := Aside0.mk H
                  clear H
                  obtain ⟨Ao20, co20, eo20⟩ := Kd.R_slice HO449.out
                  subst eo20
                  have p451 : 0 ≤ (x7_1 : Int) := odt
                  have q451 : x7_1 < (l1.length : Int) := odt
                  obtain ⟨ad451, e451, hx451_0, hx451_1, hx451_2⟩ := at_T24 HR1.out x7_1 p451 q451
                  cases e451
                  replace hx451_0 := (HB.out.cell (World.block_lt_of_cell? w _ hx451_0)).trans hx451_0
                  replace hx451_1 := (HB.out.cell (World.block_lt_of_cell? w _ hx451_1)).trans hx451_1
                  replace hx451_2 := (HB.out.cell (World.block_lt_of_cell? w _ hx451_2)).trans hx451_2
                  replace p451 := eq_true p451
                  replace q451 := eq_true q451
                  have p452 : 0 ≤ (x7_1 : Int) := odt
                  have q452 : x7_1 < (l1.length : Int) := odt
                  obtain ⟨ad452, e452, hx452_0, hx452_1, hx452_2⟩ := at_T24 HR1.out x7_1 p452 q452
                  obtain rfl : ad451 = ad452 := (by injection e452)
                  replace hx452_0 := (HB.out.cell (World.block_lt_of_cell? w _ hx452_0)).trans hx452_0
                  replace hx452_1 := (HB.out.cell (World.block_lt_of_cell? w _ hx452_1)).trans hx452_1
                  replace hx452_2 := (HB.out.cell (World.block_lt_of_cell? w _ hx452_2)).trans hx452_2
                  replace p452 := eq_true p452
                  replace q452 := eq_true q452
                  go_wp2
                  go_meet
                  case rel => exact ⟨_, ((((rd_T24 l1 x7_1).f0) == 3)), (by first | rfl | (simp; done) | (simp [*]; done)), H', ⟨by have := HK1.out; have := HJ2.out; have := HK3.out; first | omega | exact Nat.le_refl _⟩, ⟨by (with_reducible repeat (first | apply Kd.S_alloc | apply Kd.S_drewN | apply Kd.S_drew)); exact Kd.S_mono HO_5.out (fun _ hk => hk.2)⟩, ⟨by (with_reducible repeat (first | apply Kd.R_alloc | apply Kd.R_drewN | apply Kd.R_drew)); exact HO449.out⟩, ⟨by repeat (first | (with_reducible first | exact HB.out | apply below_alloc | apply pw_below_drewN | apply below_drew1) | exact HB.out)⟩⟩
                ·rw [if_neg c17] at H
                 exact absurd H (by simp)
               ·rw [if_neg c16] at H
                have c16b0 : decide (0 < (y447.length : Int)) = false := decide_eq_false c16
                have c16b1 : decide (0 < y447.length) = false := decide_eq_false (by omega)
                clear c16
                have H' := Aside0.mk H
                clear H
                obtain ⟨Ao21, co21, eo21⟩ := Kd.R_slice HO449.out
                subst eo21
                go_wp2
                go_meet
                case rel => exact ⟨_, (false), (by first | rfl | (simp; done) | (simp [*]; done)), H', ⟨by have := HK1.out; have := HJ2.out; have := HK3.out; first | omega | exact Nat.le_refl _⟩, ⟨by (with_reducible repeat (first | apply Kd.S_alloc | apply Kd.S_drewN | apply Kd.S_drew)); exact Kd.S_mono HO_5.out (fun _ hk => hk.2)⟩, ⟨by (with_reducible repeat (first | apply Kd.R_alloc | apply Kd.R_drewN | apply Kd.R_drew)); exact HO449.out⟩, ⟨by repeat (first | (with_reducible first | exact HB.out | apply below_alloc | apply pw_below_drewN | apply below_drew1) | exact HB.out)⟩⟩
              ·rw [if_neg c15] at H
               have c15b0 : (x8_3 == (wrap64 (((rd_L4 l0 x7_1).length : Int) - 1))) = false := beq_eq_false_iff_ne.mpr c15
               have c15b1 : (x8_3 != (wrap64 (((rd_L4 l0 x7_1).length : Int) - 1))) = true := bne_iff_ne.mpr c15
               (try (have c15b2 : (x8_3 == (IntKind.i64.wrap (((rd_L4 l0 x7_1).length : Int) - 1))) = false := by simp only [i64_w]; exact (beq_eq_false_iff_ne.mpr c15)))
               (try (have c15b3 : (x8_3 != (IntKind.i64.wrap (((rd_L4 l0 x7_1).length : Int) - 1))) = true := by simp only [i64_w]; exact (bne_iff_ne.mpr c15)))
               (first | rw [c15b0] | (simp only [i64_w, i32_w]; rw [c15b0]) | skip)
               have H' := Aside0.mk H
               clear H
               go_wp2
               go_meet
               case rel => exact ⟨_, (false), (by first | rfl | (simp; done) | (simp [*]; done)), H', ⟨by have := HK1.out; have := HJ2.out; have := HK3.out; first | omega | exact Nat.le_refl _⟩, ⟨by (with_reducible repeat (first | apply Kd.S_alloc | apply Kd.S_drewN | apply Kd.S_drew)); exact Kd.S_mono HO_5.out (fun _ hk => hk.2)⟩, ⟨by (with_reducible repeat (first | apply Kd.R_alloc | apply Kd.R_drewN | apply Kd.R_drew)); exact HO449.out⟩, ⟨by repeat (first | (with_reducible first | exact HB.out | apply below_alloc | apply pw_below_drewN | apply below_drew1) | exact HB.out)⟩⟩
             case rest => as_aux_lemma =>
              clear HC11
              try clear c1
              try clear p2
              try clear c4
              try clear c4b0
              try clear p4
              try clear q4
              try clear hx4
              try clear c5
              try clear c6
              try clear c6b0
              try clear p6
              try clear c7
              try clear c7b0
              try clear c8
              try clear c8b0
              try clear c9
              try clear c9b0
              try clear c10
              try clear c14
              try clear c15
              try clear c15b0
              try clear c15b1
              try clear c15b2
              try clear c16
              try clear c16b0
              try clear c16b1
              try clear c17
              try clear c17b0
              try clear c18
              try clear c18b0
              try clear c18b1
              try clear hx439_0
              try clear hx445_0
              try clear hx446_0
              try clear hx450_0
              try clear hx451_0
              try clear hx451_1
              try clear hx451_2
              try clear hx452_0
              try clear hx452_1
              try clear hx452_2
              try clear p2
              try clear p439
              try clear p445
              try clear p446
              try clear p450
              try clear p451
              try clear p452
              try clear q439
              try clear q445
              try clear q446
              try clear q450
              try clear q451
              try clear q452
              obtain ⟨kq, x70_10, rfl, HA, HJ10, HO_5, HO_9, HB⟩ := hcut
              cases kq with
              | zero => exact absurd HA.out (by simp [compositorref17_Whole.j3])
              | succ kj10 =>
               have H := HA.out
               clear HA
               simp only [compositorref17_Whole.j3] at H
               by_cases c22 : x70_10 = true
               ·subst c22
                have H1 : (if 0 ≤ (wrap64 ((y447.length : Int) - 1)) then (if (wrap64 ((y447.length : Int) - 1)) ≤ (y447.length : Int) then ((some (y447.take ((wrap64 ((y447.length : Int) - 1)) : Int).toNat : List Int)).bind fun y453 => (if x8_3 = 0 then (if x6_1 = true then (if (x5_3.length : Int) > 0 then ((some (([] : List Int) : List Int)).bind fun y456 => (if 0 ≤ (wrap64 ((x5_3.length : Int) - 1)) then (if (wrap64 ((x5_3.length : Int) - 1)) < (x5_3.length : Int) then (if y456.length + (rd_L1 x5_3 (wrap64 ((x5_3.length : Int) - 1))).length < 17592186044416 then ((some (y456 ++ (rd_L1 x5_3 (wrap64 ((x5_3.length : Int) - 1))) : List Int)).bind fun y460 => (if y460.length + y453.length < 17592186044416 then (compositorref17_Whole.l1 kj10 l0 l1 (x5_3.set ((wrap64 ((x5_3.length : Int) - 1)) : Int).toNat (y460 ++ y453)) x6_1 x7_1 (wrap64 (x8_3 + 1))) else (none))) else (none)) else (none)) else (none))) else (if x5_3.length < 5864062014805 then (compositorref17_Whole.l1 kj10 l0 l1 (x5_3 ++ [y453]) x6_1 x7_1 (wrap64 (x8_3 + 1))) else (none))) else (if x5_3.length < 5864062014805 then (compositorref17_Whole.l1 kj10 l0 l1 (x5_3 ++ [y453]) x6_1 x7_1 (wrap64 (x8_3 + 1))) else (none))) else (if x5_3.length < 5864062014805 then (compositorref17_Whole.l1 kj10 l0 l1 (x5_3 ++ [y453]) x6_1 x7_1 (wrap64 (x8_3 + 1))) else (none)))) else (none)) else (none)) = some r := by rw [if_pos rfl] at H; exact H
                clear H
                have H := H1
                clear H1
                obtain ⟨ji23, hji23⟩ : ∃ j_ : Int, (wrap64 ((y447.length : Int) - 1)) = j_ := ⟨_, rfl⟩
                replace H : (if 0 ≤ (ji23) then (if (ji23) ≤ (y447.length : Int) then ((some (y447.take ((ji23) : Int).toNat : List Int)).bind fun y453 => (if x8_3 = 0 then (if x6_1 = true then (if (x5_3.length : Int) > 0 then ((some (([] : List Int) : List Int)).bind fun y456 => (if 0 ≤ (wrap64 ((x5_3.length : Int) - 1)) then (if (wrap64 ((x5_3.length : Int) - 1)) < (x5_3.length : Int) then (if y456.length + (rd_L1 x5_3 (wrap64 ((x5_3.length : Int) - 1))).length < 17592186044416 then ((some (y456 ++ (rd_L1 x5_3 (wrap64 ((x5_3.length : Int) - 1))) : List Int)).bind fun y460 => (if y460.length + y453.length < 17592186044416 then (compositorref17_Whole.l1 kj10 l0 l1 (x5_3.set ((wrap64 ((x5_3.length : Int) - 1)) : Int).toNat (y460 ++ y453)) x6_1 x7_1 (wrap64 (x8_3 + 1))) else (none))) else (none)) else (none)) else (none))) else (if x5_3.length < 5864062014805 then (compositorref17_Whole.l1 kj10 l0 l1 (x5_3 ++ [y453]) x6_1 x7_1 (wrap64 (x8_3 + 1))) else (none))) else (if x5_3.length < 5864062014805 then (compositorref17_Whole.l1 kj10 l0 l1 (x5_3 ++ [y453]) x6_1 x7_1 (wrap64 (x8_3 + 1))) else (none))) else (if x5_3.length < 5864062014805 then (compositorref17_Whole.l1 kj10 l0 l1 (x5_3 ++ [y453]) x6_1 x7_1 (wrap64 (x8_3 + 1))) else (none)))) else (none)) else (none)) = some r := by first | (rw [hji23] at H; exact H) | (simp only [hji23] at H ⊢; exact H)
                have hji23w : (IntKind.i64.wrap ((y447.length : Int) - 1)) = ji23 := (i64_w _).trans hji23
                by_cases c24 : 0 ≤ (ji23)
                ·rw [if_pos c24] at H
                 have c24b0 := eq_true c24
                 have c24b1 : decide (0 ≤ (ji23)) = true := decide_eq_true c24
                 clear c24
                 by_cases c25 : (ji23) ≤ (y447.length : Int)
                 ·rw [if_pos c25] at H
                  have c25b0 := eq_true c25
                  have c25b1 : decide ((ji23) ≤ (y447.length : Int)) = true := decide_eq_true c25
                  clear c25
                  obtain ⟨y453, hy453⟩ : ∃ y_ : List Int, y_ = (y447.take ((ji23) : Int).toNat) := ⟨_, rfl⟩
                  replace H : (if x8_3 = 0 then (if x6_1 = true then (if (x5_3.length : Int) > 0 then ((some (([] : List Int) : List Int)).bind fun y456 => (if 0 ≤ (wrap64 ((x5_3.length : Int) - 1)) then (if (wrap64 ((x5_3.length : Int) - 1)) < (x5_3.length : Int) then (if y456.length + (rd_L1 x5_3 (wrap64 ((x5_3.length : Int) - 1))).length < 17592186044416 then ((some (y456 ++ (rd_L1 x5_3 (wrap64 ((x5_3.length : Int) - 1))) : List Int)).bind fun y460 => (if y460.length + y453.length < 17592186044416 then (compositorref17_Whole.l1 kj10 l0 l1 (x5_3.set ((wrap64 ((x5_3.length : Int) - 1)) : Int).toNat (y460 ++ y453)) x6_1 x7_1 (wrap64 (x8_3 + 1))) else (none))) else (none)) else (none)) else (none))) else (if x5_3.length < 5864062014805 then (compositorref17_Whole.l1 kj10 l0 l1 (x5_3 ++ [y453]) x6_1 x7_1 (wrap64 (x8_3 + 1))) else (none))) else (if x5_3.length < 5864062014805 then (compositorref17_Whole.l1 kj10 l0 l1 (x5_3 ++ [y453]) x6_1 x7_1 (wrap64 (x8_3 + 1))) else (none))) else (if x5_3.length < 5864062014805 then (compositorref17_Whole.l1 kj10 l0 l1 (x5_3 ++ [y453]) x6_1 x7_1 (wrap64 (x8_3 + 1))) else (none))) = some r := by first | (rw [hy453]; with_reducible exact H) | (have H2_ := (Option.bind_some _ _).symm.trans H; rw [hy453]; with_reducible exact H2_) | (have H2_ := (Option.bind_some _ _).symm.trans H; with_reducible exact H2_) | with_reducible exact H | (rw [hy453]; exact H) | exact H
                  have Ny453 := Aside0.mk hy453
                  clear hy453
                  by_cases c26 : x8_3 = 0
                  ·rw [if_pos c26] at H
                   have c26b0 : (x8_3 == 0) = true := beq_iff_eq.mpr c26
                   have c26b1 : (x8_3 != 0) = false := bne_eq_false_iff_eq.mpr c26
                   clear c26
                   by_cases c27 : x6_1 = true
                   ·subst c27
                    have H1 : (if (x5_3.length : Int) > 0 then ((some (([] : List Int) : List Int)).bind fun y456 => (if 0 ≤ (wrap64 ((x5_3.length : Int) - 1)) then (if (wrap64 ((x5_3.length : Int) - 1)) < (x5_3.length : Int) then (if y456.length + (rd_L1 x5_3 (wrap64 ((x5_3.length : Int) - 1))).length < 17592186044416 then ((some (y456 ++ (rd_L1 x5_3 (wrap64 ((x5_3.length : Int) - 1))) : List Int)).bind fun y460 => (if y460.length + y453.length < 17592186044416 then (compositorref17_Whole.l1 kj10 l0 l1 (x5_3.set ((wrap64 ((x5_3.length : Int) - 1)) : Int).toNat (y460 ++ y453)) true x7_1 (wrap64 (x8_3 + 1))) else (none))) else (none)) else (none)) else (none))) else (if x5_3.length < 5864062014805 then (compositorref17_Whole.l1 kj10 l0 l1 (x5_3 ++ [y453]) true x7_1 (wrap64 (x8_3 + 1))) else (none))) = some r := by rw [if_pos rfl] at H; exact H
                    clear H
                    have H := H1
                    clear H1
                    by_cases c28 : (x5_3.length : Int) > 0
                    ·rw [if_pos c28] at H
                     have c28b0 : decide (0 < (x5_3.length : Int)) = true := decide_eq_true c28
                     have c28b1 : decide (0 < x5_3.length) = true := decide_eq_true (by omega)
                     clear c28
                     obtain ⟨y456, hy456⟩ : ∃ y_ : List Int, y_ = (([] : List Int)) := ⟨_, rfl⟩
                     replace H : (if 0 ≤ (wrap64 ((x5_3.length : Int) - 1)) then (if (wrap64 ((x5_3.length : Int) - 1)) < (x5_3.length : Int) then (if y456.length + (rd_L1 x5_3 (wrap64 ((x5_3.length : Int) - 1))).length < 17592186044416 then ((some (y456 ++ (rd_L1 x5_3 (wrap64 ((x5_3.length : Int) - 1))) : List Int)).bind fun y460 => (if y460.length + y453.length < 17592186044416 then (compositorref17_Whole.l1 kj10 l0 l1 (x5_3.set ((wrap64 ((x5_3.length : Int) - 1)) : Int).toNat (y460 ++ y453)) true x7_1 (wrap64 (x8_3 + 1))) else (none))) else (none)) else (none)) else (none)) = some r := by first | (rw [hy456]; with_reducible exact H) | (have H2_ := (Option.bind_some _ _).symm.trans H; rw [hy456]; with_reducible exact H2_) | (have H2_ := (Option.bind_some _ _).symm.trans H; with_reducible exact H2_) | with_reducible exact H | (rw [hy456]; exact H) | exact H
                     have Ny456 := Aside0.mk hy456
                     clear hy456
                     obtain ⟨ji29, hji29⟩ : ∃ j_ : Int, (wrap64 ((x5_3.length : Int) - 1)) = j_ := ⟨_, rfl⟩
                     replace H : (if 0 ≤ (ji29) then (if (ji29) < (x5_3.length : Int) then (if y456.length + (rd_L1 x5_3 (ji29)).length < 17592186044416 then ((some (y456 ++ (rd_L1 x5_3 (ji29)) : List Int)).bind fun y460 => (if y460.length + y453.length < 17592186044416 then (compositorref17_Whole.l1 kj10 l0 l1 (x5_3.set ((ji29) : Int).toNat (y460 ++ y453)) true x7_1 (wrap64 (x8_3 + 1))) else (none))) else (none)) else (none)) else (none)) = some r := by first | (rw [hji29] at H; exact H) | (simp only [hji29] at H ⊢; exact H)
                     have hji29w : (IntKind.i64.wrap ((x5_3.length : Int) - 1)) = ji29 := (i64_w _).trans hji29
                     by_cases c30 : 0 ≤ (ji29)
                     ·rw [if_pos c30] at H
                      have c30b0 : decide (0 ≤ (ji29)) = true := decide_eq_true c30
                      clear c30
                      by_cases c31 : (ji29) < (x5_3.length : Int)
                      ·rw [if_pos c31] at H
                       have c31b0 : decide ((ji29) < (x5_3.length : Int)) = true := decide_eq_true c31
                       clear c31
                       by_cases c32 : y456.length + (rd_L1 x5_3 (ji29)).length < 17592186044416
                       ·rw [if_pos c32] at H
                        have LMc32 := Aside0.mk c32
                        clear c32
                        obtain ⟨y460, hy460⟩ : ∃ y_ : List Int, y_ = (y456 ++ (rd_L1 x5_3 (ji29))) := ⟨_, rfl⟩
                        replace H : (if y460.length + y453.length < 17592186044416 then (compositorref17_Whole.l1 kj10 l0 l1 (x5_3.set ((ji29) : Int).toNat (y460 ++ y453)) true x7_1 (wrap64 (x8_3 + 1))) else (none)) = some r := by first | (rw [hy460]; with_reducible exact H) | (have H2_ := (Option.bind_some _ _).symm.trans H; rw [hy460]; with_reducible exact H2_) | (have H2_ := (Option.bind_some _ _).symm.trans H; with_reducible exact H2_) | with_reducible exact H | (rw [hy460]; exact H) | exact H
                        have Ny460 := Aside0.mk hy460
                        clear hy460
                        by_cases c33 : y460.length + y453.length < 17592186044416
                        ·rw [if_pos c33] at H
                         have LMc33 := Aside0.mk c33
                         clear c33
                         obtain ⟨y463, hy463⟩ : ∃ y_ : List Int, y_ = (y460 ++ y453) := ⟨_, rfl⟩
                         replace H : (compositorref17_Whole.l1 kj10 l0 l1 (x5_3.set ((ji29) : Int).toNat y463) true x7_1 (wrap64 (x8_3 + 1))) = some r := by first | (rw [hy463]; with_reducible exact H) | (have H2_ := (Option.bind_some _ _).symm.trans H; rw [hy463]; with_reducible exact H2_) | (have H2_ := (Option.bind_some _ _).symm.trans H; with_reducible exact H2_) | with_reducible exact H | (rw [hy463]; exact H) | exact H
                         have Ny463 := Aside0.mk hy463
                         clear hy463
                         obtain ⟨y466, hy466⟩ : ∃ y_ : List (List Int), y_ = (x5_3.set ((ji29) : Int).toNat y463) := ⟨_, rfl⟩
                         replace H : (compositorref17_Whole.l1 kj10 l0 l1 y466 true x7_1 (wrap64 (x8_3 + 1))) = some r := by first | (rw [hy466]; with_reducible exact H) | (have H2_ := (Option.bind_some _ _).symm.trans H; rw [hy466]; with_reducible exact H2_) | (have H2_ := (Option.bind_some _ _).symm.trans H; with_reducible exact H2_) | with_reducible exact H | (rw [hy466]; exact H) | exact H
                         have Ny466 := Aside0.mk hy466
                         clear hy466
                         have H' := Aside0.mk H
                         clear H
                         obtain ⟨Ao35, co35, eo35⟩ := Kd.R_slice HO_9.out
                         subst eo35
                         have q36 : ((ji23) : Int) ≤ ((y447.length : Int) : Int) := odt
                         obtain ⟨i036, hi036, _, hsz36, _⟩ := info_parts info3
                         have hcut36 := cut_to (P := Try.prog) 36 3 .i64 Try.underlying36 hi036 Ao35 y447.length co35 (ji23) (odt) q36 (Kd.R_reads' HO_9.out).2.1
                         have hr36 := Kd.R_take (m := ((ji23) : Int).toNat) HO_9.out (by omega)
                         have hy36 : y453.length = ((ji23) : Int).toNat := (by rw [Ny453.out, List.length_take]; omega)
                         rw [← Ny453.out] at hr36
                         rw [← hy36] at hr36 hcut36
                         clear hy36 hi036 hsz36 HO_9
                         have HO455 := Aside0.mk hr36
                         have ob_ : (Value.slice Ao35 y447.length co35).ownBlock = (Value.slice Ao35 y453.length co35).ownBlock := by cases Ao35 <;> rfl
                         (try simp only [ob_] at HO_5); (try simp only [ob_] at HO444); (try simp only [ob_] at HO449); (try simp only [ob_] at HO_9); clear ob_
                         clear hr36
                         replace q36 := eq_true q36
                         obtain ⟨Ao37, co37, eo37⟩ := Kd.S_slice HO_5.out
                         subst eo37
                         go_wp2_with (first | ((with_reducible refine gate_dst (N := 90) rfl ?_); (try (refine gate_guard (by rfl) ?_; dsimp only)); refine Kd.R_lit (Kd.int .i64) _ 3 ?hg (N := 90) ?hd (xs := ([] : List Int)) (inner := []) (ok := fun _ => True) (okp := fun _ => True) ?hr ?hp (fun _ hk => hk) trivial (Below.refl _ _) (Nat.le_refl _) (by simp) ?_; (case hd => rfl); (case hg => rfl); (case hr => first | (go_simp; done) | (go_simp; rfl)); (case hp => exact (Reps.none _ _)); intro v457 w38 ho39 hb hg_ hnew_; clear hg_ hnew_; (first | rw [← Ny456.out] at ho39 | (simp only [Int.reduceToNat] at ho39; rw [← Ny456.out] at ho39)); have n0_ := Aside0.mk (Kd.S_elder' (by (with_reducible repeat (first | apply Kd.S_alloc | apply Kd.S_drewN | apply Kd.S_drew)); exact HO_5.out) (Kd.R_base ho39) hb); have n1_ := Aside0.mk (Kd.R_elder' (by (with_reducible repeat (first | apply Kd.R_alloc | apply Kd.R_drewN | apply Kd.R_drew)); exact HO455.out) (Kd.R_base ho39) hb); have n2_ := Aside0.mk (Kd.R_lower (Kd.R_new' ho39 (Kd.R_lt (by (with_reducible repeat (first | apply Kd.R_alloc | apply Kd.R_drewN | apply Kd.R_drew)); exact HO455.out))) (below_size (by repeat (first | (with_reducible first | exact HB.out | apply below_alloc | apply pw_below_drewN | apply below_drew1) | exact HB.out)))); have n3_ := Aside0.mk (below_step (by repeat (first | (with_reducible first | exact HB.out | apply below_alloc | apply pw_below_drewN | apply below_drew1) | exact HB.out)) hb); clear HO_5; clear HO455; clear HB; have HO_5 := n0_; have HO455 := n1_; have HO458 := n2_; have HB := n3_; clear n0_ n1_ n2_ n3_; clear hb ho39; have p459 : 0 ≤ ((ji29) : Int) := odt; have q459 : (ji29) < (x5_3.length : Int) := odt; obtain ⟨ad459, A459_0, c459_0, e459, hx459_0, hl459_0, hi459_0⟩ := at_L1 (Kd.S_reads' HO_5.out).2.2 (ji29) p459 q459; cases e459; obtain ⟨ce459, hce459, hMe459, hcc459⟩ := Kd.S_get HO_5.out [] (ji29) p459 (by first | exact q459 | exact odt | (have e_ := (Kd.S_reads' HO_5.out).1; omega)); obtain ⟨ve459_0, rfl, ge459_0⟩ := hMe459; have hv459_0 := hcc459 0 _ rfl; rw [Nat.add_zero, show ((Kd.slice 3 (Kd.int .i64))).sz = 1 from rfl, Nat.mul_one] at hv459_0; replace hv459_0 := Option.some.inj (hv459_0.symm.trans hx459_0); rw [hv459_0] at ge459_0; have HL459_0 := Aside0.mk (show Kd.R (Kd.int .i64) 3 _ _ _ _ (rd_L1 x5_3 (ji29)) from ge459_0); clear hv459_0 ge459_0; clear hcc459 hce459; have HR459_0 := Aside0.mk hi459_0; have HC459_0 := Aside0.mk hl459_0; clear hi459_0 hl459_0; replace p459 := eq_true p459; replace q459 := eq_true q459) | ((with_reducible refine gate_builtin (b := .append) (xs := #[.tmp 90, .tmp 96]) rfl ?_); (try (refine gate_guard (by rfl) ?_; dsimp only)); at_builtin; refine Kd.R_append_rows (Kd.int .i64) (w0 := w) w.heap.size rfl (.tmp 90) (.tmp 96) 36 3 (.int .i64 0) 8 rfl Try.underlying36 info3 rfl (by decide) (by omega) v457 y456 (rd_L1 x5_3 (ji29)) _ _ _ (fun k_ => some k_ ≠ (.slice Ao35 y453.length co35 : Value).ownBlock) (fun _ => False) rfl rfl ?aO ?aR (fun _ _ h => h) (fun _ h => h.elim) ?aF ?aB ?aS ?aL ?_; (case aR => repeat (first | exact (by repeat (first | (with_reducible exact HR459_0.out) | (with_reducible refine Kd.C_alloc ?_ _) | (with_reducible refine Kd.C_drewN ?_ _) | (with_reducible refine Kd.C_drew ?_) | exact HR459_0.out)) | (with_reducible refine Kd.C_alloc ?_ _) | (with_reducible refine Kd.C_drewN ?_ _) | (with_reducible refine Kd.C_drew ?_))); (case aB => exact (by repeat (first | (with_reducible first | exact HB.out | apply below_alloc | apply pw_below_drewN | apply below_drew1) | exact HB.out))); (case aF => exact (fun k_ hk => Kd.fresh' (Kd.R_lt (by (with_reducible repeat (first | apply Kd.R_alloc | apply Kd.R_drewN | apply Kd.R_drew)); exact HO455.out)) k_ hk)); (case aO => exact (by (with_reducible repeat (first | apply Kd.R_alloc | apply Kd.R_drewN | apply Kd.R_drew)); exact Kd.R_mono HO458.out (fun _ hk => hk.2))); (case aS => exact (below_size (by repeat (first | (with_reducible first | exact HB.out | apply below_alloc | apply pw_below_drewN | apply below_drew1) | exact HB.out)))); (case aL => have := LMc32.out; omega); intro v461 w40 ho hb hg hat; rw [← Ny460.out] at ho; have n0_ := Aside0.mk (Kd.S_after (ok := (fun k_ => some k_ ≠ (.slice Ao35 y453.length co35 : Value).ownBlock)) (by (with_reducible repeat (first | apply Kd.S_alloc | apply Kd.S_drewN | apply Kd.S_drew)); exact HO_5.out) hg hat); have n1_ := Aside0.mk (Kd.R_after (ok := (fun _ => True)) (by (with_reducible repeat (first | apply Kd.R_alloc | apply Kd.R_drewN | apply Kd.R_drew)); exact HO455.out) hg hat); have n2_ := Aside0.mk (Kd.R_after (ok := (fun k_ => some k_ ≠ (.slice (some ad459) x5_3.length co37 : Value).ownBlock ∧ some k_ ≠ (.slice Ao35 y453.length co35 : Value).ownBlock)) (by (with_reducible repeat (first | apply Kd.R_alloc | apply Kd.R_drewN | apply Kd.R_drew)); exact Kd.R_mono HL459_0.out (fun _ hk => ⟨⟨hk.2, hk.1.1⟩, hk.1.2⟩)) hg hat); have n3_ := Aside0.mk (hb); have n4_ := Aside0.mk (ho); clear HO_5; clear HO455; clear HL459_0; clear HB; clear HO458; have HO_5 := n0_; have HO455 := n1_; have HL459_0 := n2_; have HB := n3_; have HO462 := n4_; clear n0_ n1_ n2_ n3_ n4_; clear ho hb hg hat) | ((with_reducible refine gate_builtin (b := .append) (xs := #[.tmp 97, .tmp 98]) rfl ?_); (try (refine gate_guard (by rfl) ?_; dsimp only)); at_builtin; refine Kd.R_append_rows (Kd.int .i64) (w0 := w) w.heap.size rfl (.tmp 97) (.tmp 98) 36 3 (.int .i64 0) 8 rfl Try.underlying36 info3 rfl (by decide) (by omega) v461 y460 y453 _ _ _ (fun k_ => some k_ ≠ (.slice Ao35 y453.length co35 : Value).ownBlock) (fun _ => False) rfl rfl ?aO ?aR (fun _ _ h => h) (fun _ h => h.elim) ?aF ?aB ?aS ?aL ?_; (case aR => repeat (first | exact (Kd.R_reads' HO455.out).2.2 | (with_reducible refine Kd.C_alloc ?_ _) | (with_reducible refine Kd.C_drewN ?_ _) | (with_reducible refine Kd.C_drew ?_))); (case aB => exact (by repeat (first | (with_reducible first | exact HB.out | apply below_alloc | apply pw_below_drewN | apply below_drew1) | exact HB.out))); (case aF => exact (fun k_ hk => Kd.fresh' (Kd.R_lt (by (with_reducible repeat (first | apply Kd.R_alloc | apply Kd.R_drewN | apply Kd.R_drew)); exact HO455.out)) k_ hk)); (case aO => exact (by (with_reducible repeat (first | apply Kd.R_alloc | apply Kd.R_drewN | apply Kd.R_drew)); exact HO462.out)); (case aS => exact (below_size (by repeat (first | (with_reducible first | exact HB.out | apply below_alloc | apply pw_below_drewN | apply below_drew1) | exact HB.out)))); (case aL => have := LMc33.out; omega); intro v464 w41 ho hb hg hat; rw [← Ny463.out] at ho; have n0_ := Aside0.mk (Kd.S_after (ok := (fun k_ => some k_ ≠ (.slice Ao35 y453.length co35 : Value).ownBlock)) (by (with_reducible repeat (first | apply Kd.S_alloc | apply Kd.S_drewN | apply Kd.S_drew)); exact HO_5.out) hg hat); have n1_ := Aside0.mk (Kd.R_after (ok := (fun _ => True)) (by (with_reducible repeat (first | apply Kd.R_alloc | apply Kd.R_drewN | apply Kd.R_drew)); exact HO455.out) hg hat); have n2_ := Aside0.mk (Kd.R_after (ok := (fun k_ => some k_ ≠ (.slice (some ad459) x5_3.length co37 : Value).ownBlock ∧ some k_ ≠ (.slice Ao35 y453.length co35 : Value).ownBlock)) (by (with_reducible repeat (first | apply Kd.R_alloc | apply Kd.R_drewN | apply Kd.R_drew)); exact HL459_0.out) hg hat); have n3_ := Aside0.mk (hb); have n4_ := Aside0.mk (ho); clear HO_5; clear HO455; clear HL459_0; clear HB; clear HO462; have HO_5 := n0_; have HO455 := n1_; have HL459_0 := n2_; have HB := n3_; have HO465 := n4_; clear n0_ n1_ n2_ n3_ n4_; clear ho hb hg hat; have p34 : 0 ≤ ((ji29) : Int) := odt; have q34 : ((ji29) : Int) < ((x5_3.length : Int) : Int) := odt; obtain ⟨go34, co34, eo34, gb34, gl34, cl34, HG34⟩ := Kd.S_form HO_5.out (by omega); (first | cases eo34 | (injection eo34 with ea_ en_ ec_; (first | subst ea_ | (injection ea_ with ea_; subst ea_)); subst ec_; clear en_)); have GB34 := Aside0.mk gb34; have GG34 := Aside0.mk HG34; clear gb34 gl34 HG34; (first | simp only [add_plain] at hx459_0 | skip); obtain ⟨_, ce34, hcl34, hM34, hcc34, hfr34, _, _⟩ := Kd.S_elem HO_5.out [] ((ji29) : Int) p34 q34; obtain ⟨ve34_0, rfl, ge34_0⟩ := hM34; have hx34_0 := hcc34 0 _ rfl; have hf34_0 := hfr34 0; (try simp only [show ((Kd.slice 3 (Kd.int .i64))).sz = 1 from rfl, Nat.mul_one, Nat.add_zero] at hx34_0); (try simp only [show ((Kd.slice 3 (Kd.int .i64))).sz = 1 from rfl, Nat.mul_one, Nat.add_zero] at hf34_0); clear hcl34 hcc34 hfr34; (try clear hM34); replace p34 := eq_true p34; replace q34 := eq_true q34; have HX42 := Aside0.mk (show Kd.S (Kd.slice 3 (Kd.int .i64)) 36 w41 w.heap.size (fun k_ => ((fun k_ => some k_ ≠ (.slice Ao35 y453.length co35 : Value).ownBlock)) k_ ∧ ¬ ((fun k_ => some k_ = (v464 : Value).ownBlock)) k_) (.slice (some ⟨go34, 0, none⟩) x5_3.length co37) x5_3 from (by (with_reducible repeat (first | apply Kd.S_alloc | apply Kd.S_drewN | apply Kd.S_drew)); exact Kd.S_mono HO_5.out (fun k_ hk => ⟨hk.1, fun e_ => hk.2 e_⟩))); obtain ⟨oki42, ce42, hcl42, hM42, hcc42, hfr42, hoki42, hH42⟩ := Kd.S_elem HX42.out [] ((ji29) : Int) (odt) (by have h_ : ((ji29) : Int) < ((x5_3.length : Int) : Int) := odt; first | exact h_ | (have e_ := (Kd.S_reads' HO_5.out).1; omega) | simpa using h_); obtain ⟨ve42_0, rfl, ge42_0⟩ := hM42; have HP42 := Kd.S_seg hH42 (odt) (by have h_ : ((ji29) : Int) < ((x5_3.length : Int) : Int) := odt; first | exact h_ | (have e_ := (Kd.S_reads' HO_5.out).1; omega) | simpa using h_) (seg := [v464]) (j := 0) (show 1 ≤ 1 from by decide) (x' := y463) (Kd.M_row (Kd.R_mono (Kd.R_tight rfl (Kd.R_mono (ok' := fun k_ => ((fun k_ => some k_ ≠ (.slice Ao35 y453.length co35 : Value).ownBlock)) k_ ∧ k_ ≠ go34) (Kd.R_apart' (HO465.out) (Kd.S_typed HO_5.out) (by decide)) (fun k_ hk => ⟨hk.1, fun e_ => (hk.2) (by rw [e_]; rfl)⟩))) (fun _ h_ => Or.inr (h_)))) (fun _ hk => hk) (fun k_ hk_ => ((Kd.R_mono (ok' := fun k_ => ((fun k_ => some k_ ≠ (.slice Ao35 y453.length co35 : Value).ownBlock)) k_ ∧ k_ ≠ go34) (Kd.R_apart' (HO465.out) (Kd.S_typed HO_5.out) (by decide)) (fun k_ hk => ⟨hk.1, fun e_ => (hk.2) (by rw [e_]; rfl)⟩))).1 k_ hk_.symm); have hx42_0 := hcc42 0 _ rfl; (try simp only [show ((Kd.slice 3 (Kd.int .i64))).sz = 1 from rfl, Nat.mul_one, Nat.add_zero] at hx42_0); have hf42_0 := hfr42 0; (try simp only [show ((Kd.slice 3 (Kd.int .i64))).sz = 1 from rfl, Nat.mul_one, Nat.add_zero] at hf42_0); clear hcl42 hcc42 hfr42 hoki42 hH42; (try clear hM42); (try simp only [show ((Kd.slice 3 (Kd.int .i64))).sz = 1 from rfl, Nat.mul_one, Nat.add_zero] at HP42)) | ((with_reducible refine gate_store (t := 36) (p := 100) rfl ?_); refine store_event (t := 36) (p := 100) (v := ?vo_w43) (w1 := (w41.setCell ⟨go34, ((ji29) : Int).toNat, none⟩ (v464))) ?hg ?ho ?hn ?hr ?_; (case ho => rfl); (case hg => rfl); (case hn => rfl); (case hr => first | (go_simp; done) | (go_simp; rfl) | (obtain ⟨Az_, cz_, ez_⟩ := Kd.R_slice HO465.out; subst ez_; first | (go_simp; done) | (go_simp; rfl))); intro w43 hw; have hg : w41.grownBy w43 (some go34) := (by rw [hw]; exact HP42.2); have hp_ : Kd.S (Kd.slice 3 (Kd.int .i64)) 36 w43 w.heap.size (fun k_ => some k_ ≠ (.slice Ao35 y453.length co35 : Value).ownBlock) (.slice (some ⟨go34, 0, none⟩) x5_3.length co37) y466 := (by rw [hw, Ny466.out]; exact HP42.1); clear HP42; have n0_ := Aside0.mk (hp_); have n1_ := Aside0.mk (Kd.R_over' (v := (.slice (some ⟨go34, 0, none⟩) x5_3.length co37)) (by (with_reducible repeat (first | apply Kd.R_alloc | apply Kd.R_drewN | apply Kd.R_drew)); exact HO455.out) (Kd.S_typed HO_5.out) (by decide) hg); have n2_ := Aside0.mk (Kd.R_after (v := (.slice (some ⟨go34, 0, none⟩) x5_3.length co37)) (v1 := (.slice (some ⟨go34, 0, none⟩) x5_3.length co37)) (ok := (fun k_ => some k_ ≠ (.slice Ao35 y453.length co35 : Value).ownBlock ∧ some k_ ≠ (v464 : Value).ownBlock)) (by (with_reducible repeat (first | apply Kd.R_alloc | apply Kd.R_drewN | apply Kd.R_drew)); exact Kd.R_mono HL459_0.out (fun _ hk => ⟨⟨hk.1.2, hk.2⟩, hk.1.1⟩)) hg (.inl rfl)); have n3_ := Aside0.mk ((by rw [hw]; exact below_set (HB.out) GB34.out : Below w.heap.size w w43)); clear HO_5; clear HO455; clear HL459_0; clear HB; clear HO465; have HO_5 := n0_; have HO455 := n1_; have HL459_0 := n2_; have HB := n3_; clear n0_ n1_ n2_ n3_; clear hg hw hp_))
                         go_roundg kj10
                         case measure => have := HK1.out; have := HJ2.out; have := HK3.out; have := HJ10.out; omega
                         case rel => exact ⟨(y466), (wrap64 (x8_3 + 1)), (by first | rfl | (simp; done) | (simp [*]; done)), H', ⟨by have := HK1.out; have := HJ2.out; have := HK3.out; have := HJ10.out; omega⟩, ⟨by (with_reducible repeat (first | apply Kd.S_alloc | apply Kd.S_drewN | apply Kd.S_drew)); exact Kd.S_mono HO_5.out (fun _ hk => trivial)⟩, ⟨by repeat (first | (with_reducible first | exact HB.out | apply below_alloc | apply pw_below_drewN | apply below_drew1) | exact HB.out)⟩⟩
                        ·rw [if_neg c33] at H
                         exact absurd H (by simp)
                       ·rw [if_neg c32] at H
                        exact absurd H (by simp)
                      ·rw [if_neg c31] at H
                       exact absurd H (by simp)
                     ·rw [if_neg c30] at H
                      exact absurd H (by simp)
                    ·rw [if_neg c28] at H
                     have c28b0 : decide (0 < (x5_3.length : Int)) = false := decide_eq_false c28
                     have c28b1 : decide (0 < x5_3.length) = false := decide_eq_false (by omega)
                     clear c28
                     by_cases c44 : x5_3.length < 5864062014805
                     ·rw [if_pos c44] at H
                      have LMc44 := Aside0.mk c44
                      clear c44
                      obtain ⟨y467, hy467⟩ : ∃ y_ : List (List Int), y_ = (x5_3 ++ [y453]) := ⟨_, rfl⟩
                      replace H : (compositorref17_Whole.l1 kj10 l0 l1 y467 true x7_1 (wrap64 (x8_3 + 1))) = some r := by first | (rw [hy467]; with_reducible exact H) | (have H2_ := (Option.bind_some _ _).symm.trans H; rw [hy467]; with_reducible exact H2_) | (have H2_ := (Option.bind_some _ _).symm.trans H; with_reducible exact H2_) | with_reducible exact H | (rw [hy467]; exact H) | exact H
                      have Ny467 := Aside0.mk hy467
                      clear hy467
                      have H' := Aside0.mk H
                      clear H
                      obtain ⟨Ao45, co45, eo45⟩ := Kd.R_slice HO_9.out
                      subst eo45
                      have q46 : ((ji23) : Int) ≤ ((y447.length : Int) : Int) := odt
                      obtain ⟨i046, hi046, _, hsz46, _⟩ := info_parts info3
                      have hcut46 := cut_to (P := Try.prog) 36 3 .i64 Try.underlying36 hi046 Ao45 y447.length co45 (ji23) (odt) q46 (Kd.R_reads' HO_9.out).2.1
                      have hr46 := Kd.R_take (m := ((ji23) : Int).toNat) HO_9.out (by omega)
                      have hy46 : y453.length = ((ji23) : Int).toNat := (by rw [Ny453.out, List.length_take]; omega)
                      rw [← Ny453.out] at hr46
                      rw [← hy46] at hr46 hcut46
                      clear hy46 hi046 hsz46 HO_9
                      have HO455 := Aside0.mk hr46
                      have ob_ : (Value.slice Ao45 y447.length co45).ownBlock = (Value.slice Ao45 y453.length co45).ownBlock := by cases Ao45 <;> rfl
                      (try simp only [ob_] at HO_5); (try simp only [ob_] at HO444); (try simp only [ob_] at HO449); (try simp only [ob_] at HO_9); (try simp only [ob_] at HO458); (try simp only [ob_] at HO462); (try simp only [ob_] at HO465); clear ob_
                      clear hr46
                      replace q46 := eq_true q46
                      obtain ⟨Ao47, co47, eo47⟩ := Kd.S_slice HO_5.out
                      subst eo47
                      go_wp2_with (first | ((with_reducible refine gate_builtin (b := .append) (xs := #[.tmp 101, .tmp 103]) rfl ?_); (try (refine gate_guard (by rfl) ?_; dsimp only)); at_builtin; refine Kd.S_append (Kd.slice 3 (Kd.int .i64)) (w0 := w) w.heap.size rfl (.tmp 101) (.tmp 103) 27 36 (.slice none 0 0) 24 rfl Try.underlying27 info36 rfl (by decide) (by omega) (.slice Ao47 x5_3.length co47) x5_3 y453 [.slice Ao45 y453.length co45] (fun _ => True) (fun k_ => some k_ = (.slice Ao45 y453.length co45 : Value).ownBlock) rfl rfl ?aP (fun k_ hk_ => ((Kd.R_mono (ok' := fun k_ => ((fun _ => True)) k_ ∧ some k_ ≠ (.slice Ao47 x5_3.length co47 : Value).ownBlock) (Kd.R_apart' (HO455.out) (Kd.S_typed HO_5.out) (by decide)) (fun k_ hk => ⟨trivial, hk.2⟩))).1 k_ hk_.symm) ?aF ?aO ?aB ?aS ?aL ?_; (case aP => exact Kd.M_row (Kd.R_mono (Kd.R_tight rfl (Kd.R_mono (ok' := fun k_ => ((fun _ => True)) k_ ∧ some k_ ≠ (.slice Ao47 x5_3.length co47 : Value).ownBlock) (Kd.R_apart' (HO455.out) (Kd.S_typed HO_5.out) (by decide)) (fun k_ hk => ⟨trivial, hk.2⟩))) (fun _ h_ => h_))); (case aB => exact (by repeat (first | (with_reducible first | exact HB.out | apply below_alloc | apply pw_below_drewN | apply below_drew1) | exact HB.out))); (case aF => exact (fun _ _ => trivial)); (case aO => exact (by (with_reducible repeat (first | apply Kd.S_alloc | apply Kd.S_drewN | apply Kd.S_drew)); exact Kd.S_mono HO_5.out (fun k_ hk => ⟨trivial, fun e_ => hk e_⟩))); (case aS => exact (below_size (by repeat (first | (with_reducible first | exact HB.out | apply below_alloc | apply pw_below_drewN | apply below_drew1) | exact HB.out)))); (case aL => have := LMc44.out; omega); intro v468 w48 ho hb hg hat; rw [← Ny467.out] at ho; have n0_ := Aside0.mk (hb); have n1_ := Aside0.mk (ho); clear HB; clear HO_5; clear HO455; have HB := n0_; have HO469 := n1_; clear n0_ n1_; clear ho hb hg hat))
                      go_roundg kj10
                      case measure => have := HK1.out; have := HJ2.out; have := HK3.out; have := HJ10.out; omega
                      case rel => exact ⟨(y467), (wrap64 (x8_3 + 1)), (by first | rfl | (simp; done) | (simp [*]; done)), H', ⟨by have := HK1.out; have := HJ2.out; have := HK3.out; have := HJ10.out; omega⟩, ⟨by (with_reducible repeat (first | apply Kd.S_alloc | apply Kd.S_drewN | apply Kd.S_drew)); exact HO469.out⟩, ⟨by repeat (first | (with_reducible first | exact HB.out | apply below_alloc | apply pw_below_drewN | apply below_drew1) | exact HB.out)⟩⟩
                     ·rw [if_neg c44] at H
                      exact absurd H (by simp)
                   ·replace c27 := Bool.eq_false_iff.mpr c27
                    subst c27
                    have H1 : (if x5_3.length < 5864062014805 then (compositorref17_Whole.l1 kj10 l0 l1 (x5_3 ++ [y453]) false x7_1 (wrap64 (x8_3 + 1))) else (none)) = some r := by rw [if_neg (show ¬ (false = true) by decide)] at H; exact H
                    clear H
                    have H := H1
                    clear H1
                    by_cases c49 : x5_3.length < 5864062014805
                    ·rw [if_pos c49] at H
                     have LMc49 := Aside0.mk c49
                     clear c49
                     obtain ⟨y470, hy470⟩ : ∃ y_ : List (List Int), y_ = (x5_3 ++ [y453]) := ⟨_, rfl⟩
                     replace H : (compositorref17_Whole.l1 kj10 l0 l1 y470 false x7_1 (wrap64 (x8_3 + 1))) = some r := by first | (rw [hy470]; with_reducible exact H) | (have H2_ := (Option.bind_some _ _).symm.trans H; rw [hy470]; with_reducible exact H2_) | (have H2_ := (Option.bind_some _ _).symm.trans H; with_reducible exact H2_) | with_reducible exact H | (rw [hy470]; exact H) | exact H
                     have Ny470 := Aside0.mk hy470
                     clear hy470
                     have H' := Aside0.mk H
                     clear H
                     obtain ⟨Ao50, co50, eo50⟩ := Kd.R_slice HO_9.out
                     subst eo50
                     have q51 : ((ji23) : Int) ≤ ((y447.length : Int) : Int) := odt
                     obtain ⟨i051, hi051, _, hsz51, _⟩ := info_parts info3
                     have hcut51 := cut_to (P := Try.prog) 36 3 .i64 Try.underlying36 hi051 Ao50 y447.length co50 (ji23) (odt) q51 (Kd.R_reads' HO_9.out).2.1
                     have hr51 := Kd.R_take (m := ((ji23) : Int).toNat) HO_9.out (by omega)
                     have hy51 : y453.length = ((ji23) : Int).toNat := (by rw [Ny453.out, List.length_take]; omega)
                     rw [← Ny453.out] at hr51
                     rw [← hy51] at hr51 hcut51
                     clear hy51 hi051 hsz51 HO_9
                     have HO455 := Aside0.mk hr51
                     have ob_ : (Value.slice Ao50 y447.length co50).ownBlock = (Value.slice Ao50 y453.length co50).ownBlock := by cases Ao50 <;> rfl
                     (try simp only [ob_] at HO_5); (try simp only [ob_] at HO444); (try simp only [ob_] at HO449); (try simp only [ob_] at HO_9); (try simp only [ob_] at HO458); (try simp only [ob_] at HO462); (try simp only [ob_] at HO465); (try simp only [ob_] at HO469); clear ob_
                     clear hr51
                     replace q51 := eq_true q51
                     go_wp2_with (first | ((with_reducible refine gate_builtin (b := .append) (xs := #[.tmp 101, .tmp 103]) rfl ?_); (try (refine gate_guard (by rfl) ?_; dsimp only)); at_builtin; refine Kd.S_append (Kd.slice 3 (Kd.int .i64)) (w0 := w) w.heap.size rfl (.tmp 101) (.tmp 103) 27 36 (.slice none 0 0) 24 rfl Try.underlying27 info36 rfl (by decide) (by omega) u5 x5_3 y453 [.slice Ao50 y453.length co50] (fun _ => True) (fun k_ => some k_ = (.slice Ao50 y453.length co50 : Value).ownBlock) rfl rfl ?aP (fun k_ hk_ => ((Kd.R_mono (ok' := fun k_ => ((fun _ => True)) k_ ∧ some k_ ≠ (u5 : Value).ownBlock) (Kd.R_apart' (HO455.out) (Kd.S_typed HO_5.out) (by decide)) (fun k_ hk => ⟨trivial, hk.2⟩))).1 k_ hk_.symm) ?aF ?aO ?aB ?aS ?aL ?_; (case aP => exact Kd.M_row (Kd.R_mono (Kd.R_tight rfl (Kd.R_mono (ok' := fun k_ => ((fun _ => True)) k_ ∧ some k_ ≠ (u5 : Value).ownBlock) (Kd.R_apart' (HO455.out) (Kd.S_typed HO_5.out) (by decide)) (fun k_ hk => ⟨trivial, hk.2⟩))) (fun _ h_ => h_))); (case aB => exact (by repeat (first | (with_reducible first | exact HB.out | apply below_alloc | apply pw_below_drewN | apply below_drew1) | exact HB.out))); (case aF => exact (fun _ _ => trivial)); (case aO => exact (by (with_reducible repeat (first | apply Kd.S_alloc | apply Kd.S_drewN | apply Kd.S_drew)); exact Kd.S_mono HO_5.out (fun k_ hk => ⟨trivial, fun e_ => hk e_⟩))); (case aS => exact (below_size (by repeat (first | (with_reducible first | exact HB.out | apply below_alloc | apply pw_below_drewN | apply below_drew1) | exact HB.out)))); (case aL => have := LMc49.out; omega); intro v471 w52 ho hb hg hat; rw [← Ny470.out] at ho; have n0_ := Aside0.mk (hb); have n1_ := Aside0.mk (ho); clear HB; clear HO_5; clear HO455; have HB := n0_; have HO472 := n1_; clear n0_ n1_; clear ho hb hg hat))
                     go_roundg kj10
                     case measure => have := HK1.out; have := HJ2.out; have := HK3.out; have := HJ10.out; omega
                     case rel => exact ⟨(y470), (wrap64 (x8_3 + 1)), (by first | rfl | (simp; done) | (simp [*]; done)), H', ⟨by have := HK1.out; have := HJ2.out; have := HK3.out; have := HJ10.out; omega⟩, ⟨by (with_reducible repeat (first | apply Kd.S_alloc | apply Kd.S_drewN | apply Kd.S_drew)); exact HO472.out⟩, ⟨by repeat (first | (with_reducible first | exact HB.out | apply below_alloc | apply pw_below_drewN | apply below_drew1) | exact HB.out)⟩⟩
                    ·rw [if_neg c49] at H
                     exact absurd H (by simp)
                  ·rw [if_neg c26] at H
                   have c26b0 : (x8_3 == 0) = false := beq_eq_false_iff_ne.mpr c26
                   have c26b1 : (x8_3 != 0) = true := bne_iff_ne.mpr c26
                   by_cases c53 : x5_3.length < 5864062014805
                   ·rw [if_pos c53] at H
                    have LMc53 := Aside0.mk c53
                    clear c53
                    obtain ⟨y473, hy473⟩ : ∃ y_ : List (List Int), y_ = (x5_3 ++ [y453]) := ⟨_, rfl⟩
                    replace H : (compositorref17_Whole.l1 kj10 l0 l1 y473 x6_1 x7_1 (wrap64 (x8_3 + 1))) = some r := by first | (rw [hy473]; with_reducible exact H) | (have H2_ := (Option.bind_some _ _).symm.trans H; rw [hy473]; with_reducible exact H2_) | (have H2_ := (Option.bind_some _ _).symm.trans H; with_reducible exact H2_) | with_reducible exact H | (rw [hy473]; exact H) | exact H
                    have Ny473 := Aside0.mk hy473
                    clear hy473
                    have H' := Aside0.mk H
                    clear H
                    obtain ⟨Ao54, co54, eo54⟩ := Kd.R_slice HO_9.out
                    subst eo54
                    have q55 : ((ji23) : Int) ≤ ((y447.length : Int) : Int) := odt
                    obtain ⟨i055, hi055, _, hsz55, _⟩ := info_parts info3
                    have hcut55 := cut_to (P := Try.prog) 36 3 .i64 Try.underlying36 hi055 Ao54 y447.length co54 (ji23) (odt) q55 (Kd.R_reads' HO_9.out).2.1
                    have hr55 := Kd.R_take (m := ((ji23) : Int).toNat) HO_9.out (by omega)
                    have hy55 : y453.length = ((ji23) : Int).toNat := (by rw [Ny453.out, List.length_take]; omega)
                    rw [← Ny453.out] at hr55
                    rw [← hy55] at hr55 hcut55
                    clear hy55 hi055 hsz55 HO_9
                    have HO455 := Aside0.mk hr55
                    have ob_ : (Value.slice Ao54 y447.length co54).ownBlock = (Value.slice Ao54 y453.length co54).ownBlock := by cases Ao54 <;> rfl
                    (try simp only [ob_] at HO_5); (try simp only [ob_] at HO444); (try simp only [ob_] at HO449); (try simp only [ob_] at HO_9); (try simp only [ob_] at HO458); (try simp only [ob_] at HO462); (try simp only [ob_] at HO465); (try simp only [ob_] at HO469); (try simp only [ob_] at HO472); clear ob_
                    clear hr55
                    replace q55 := eq_true q55
                    go_wp2_with (first | ((with_reducible refine gate_builtin (b := .append) (xs := #[.tmp 101, .tmp 103]) rfl ?_); (try (refine gate_guard (by rfl) ?_; dsimp only)); at_builtin; refine Kd.S_append (Kd.slice 3 (Kd.int .i64)) (w0 := w) w.heap.size rfl (.tmp 101) (.tmp 103) 27 36 (.slice none 0 0) 24 rfl Try.underlying27 info36 rfl (by decide) (by omega) u5 x5_3 y453 [.slice Ao54 y453.length co54] (fun _ => True) (fun k_ => some k_ = (.slice Ao54 y453.length co54 : Value).ownBlock) rfl rfl ?aP (fun k_ hk_ => ((Kd.R_mono (ok' := fun k_ => ((fun _ => True)) k_ ∧ some k_ ≠ (u5 : Value).ownBlock) (Kd.R_apart' (HO455.out) (Kd.S_typed HO_5.out) (by decide)) (fun k_ hk => ⟨trivial, hk.2⟩))).1 k_ hk_.symm) ?aF ?aO ?aB ?aS ?aL ?_; (case aP => exact Kd.M_row (Kd.R_mono (Kd.R_tight rfl (Kd.R_mono (ok' := fun k_ => ((fun _ => True)) k_ ∧ some k_ ≠ (u5 : Value).ownBlock) (Kd.R_apart' (HO455.out) (Kd.S_typed HO_5.out) (by decide)) (fun k_ hk => ⟨trivial, hk.2⟩))) (fun _ h_ => h_))); (case aB => exact (by repeat (first | (with_reducible first | exact HB.out | apply below_alloc | apply pw_below_drewN | apply below_drew1) | exact HB.out))); (case aF => exact (fun _ _ => trivial)); (case aO => exact (by (with_reducible repeat (first | apply Kd.S_alloc | apply Kd.S_drewN | apply Kd.S_drew)); exact Kd.S_mono HO_5.out (fun k_ hk => ⟨trivial, fun e_ => hk e_⟩))); (case aS => exact (below_size (by repeat (first | (with_reducible first | exact HB.out | apply below_alloc | apply pw_below_drewN | apply below_drew1) | exact HB.out)))); (case aL => have := LMc53.out; omega); intro v474 w56 ho hb hg hat; rw [← Ny473.out] at ho; have n0_ := Aside0.mk (hb); have n1_ := Aside0.mk (ho); clear HB; clear HO_5; clear HO455; have HB := n0_; have HO475 := n1_; clear n0_ n1_; clear ho hb hg hat))
                    go_roundg kj10
                    case measure => have := HK1.out; have := HJ2.out; have := HK3.out; have := HJ10.out; omega
                    case rel => exact ⟨(y473), (wrap64 (x8_3 + 1)), (by first | rfl | (simp; done) | (simp [*]; done)), H', ⟨by have := HK1.out; have := HJ2.out; have := HK3.out; have := HJ10.out; omega⟩, ⟨by (with_reducible repeat (first | apply Kd.S_alloc | apply Kd.S_drewN | apply Kd.S_drew)); exact HO475.out⟩, ⟨by repeat (first | (with_reducible first | exact HB.out | apply below_alloc | apply pw_below_drewN | apply below_drew1) | exact HB.out)⟩⟩
                   ·rw [if_neg c53] at H
                    exact absurd H (by simp)
                 ·rw [if_neg c25] at H
                  exact absurd H (by simp)
                ·rw [if_neg c24] at H
                 exact absurd H (by simp)
               ·replace c22 := Bool.eq_false_iff.mpr c22
                subst c22
                have H1 : (if x8_3 = 0 then (if x6_1 = true then (if (x5_3.length : Int) > 0 then ((some (([] : List Int) : List Int)).bind fun y476 => (if 0 ≤ (wrap64 ((x5_3.length : Int) - 1)) then (if (wrap64 ((x5_3.length : Int) - 1)) < (x5_3.length : Int) then (if y476.length + (rd_L1 x5_3 (wrap64 ((x5_3.length : Int) - 1))).length < 17592186044416 then ((some (y476 ++ (rd_L1 x5_3 (wrap64 ((x5_3.length : Int) - 1))) : List Int)).bind fun y480 => (if y480.length + y447.length < 17592186044416 then (compositorref17_Whole.l1 kj10 l0 l1 (x5_3.set ((wrap64 ((x5_3.length : Int) - 1)) : Int).toNat (y480 ++ y447)) x6_1 x7_1 (wrap64 (x8_3 + 1))) else (none))) else (none)) else (none)) else (none))) else (if x5_3.length < 5864062014805 then (compositorref17_Whole.l1 kj10 l0 l1 (x5_3 ++ [y447]) x6_1 x7_1 (wrap64 (x8_3 + 1))) else (none))) else (if x5_3.length < 5864062014805 then (compositorref17_Whole.l1 kj10 l0 l1 (x5_3 ++ [y447]) x6_1 x7_1 (wrap64 (x8_3 + 1))) else (none))) else (if x5_3.length < 5864062014805 then (compositorref17_Whole.l1 kj10 l0 l1 (x5_3 ++ [y447]) x6_1 x7_1 (wrap64 (x8_3 + 1))) else (none))) = some r := by rw [if_neg (show ¬ (false = true) by decide)] at H; exact H
                clear H
                have H := H1
                clear H1
                by_cases c57 : x8_3 = 0
                ·rw [if_pos c57] at H
                 have c57b0 : (x8_3 == 0) = true := beq_iff_eq.mpr c57
                 have c57b1 : (x8_3 != 0) = false := bne_eq_false_iff_eq.mpr c57
                 clear c57
                 by_cases c58 : x6_1 = true
                 ·subst c58
                  have H1 : (if (x5_3.length : Int) > 0 then ((some (([] : List Int) : List Int)).bind fun y476 => (if 0 ≤ (wrap64 ((x5_3.length : Int) - 1)) then (if (wrap64 ((x5_3.length : Int) - 1)) < (x5_3.length : Int) then (if y476.length + (rd_L1 x5_3 (wrap64 ((x5_3.length : Int) - 1))).length < 17592186044416 then ((some (y476 ++ (rd_L1 x5_3 (wrap64 ((x5_3.length : Int) - 1))) : List Int)).bind fun y480 => (if y480.length + y447.length < 17592186044416 then (compositorref17_Whole.l1 kj10 l0 l1 (x5_3.set ((wrap64 ((x5_3.length : Int) - 1)) : Int).toNat (y480 ++ y447)) true x7_1 (wrap64 (x8_3 + 1))) else (none))) else (none)) else (none)) else (none))) else (if x5_3.length < 5864062014805 then (compositorref17_Whole.l1 kj10 l0 l1 (x5_3 ++ [y447]) true x7_1 (wrap64 (x8_3 + 1))) else (none))) = some r := by rw [if_pos rfl] at H; exact H
                  clear H
                  have H := H1
                  clear H1
                  by_cases c59 : (x5_3.length : Int) > 0
                  ·rw [if_pos c59] at H
                   have c59b0 : decide (0 < (x5_3.length : Int)) = true := decide_eq_true c59
                   have c59b1 : decide (0 < x5_3.length) = true := decide_eq_true (by omega)
                   clear c59
                   obtain ⟨y476, hy476⟩ : ∃ y_ : List Int, y_ = (([] : List Int)) := ⟨_, rfl⟩
                   replace H : (if 0 ≤ (wrap64 ((x5_3.length : Int) - 1)) then (if (wrap64 ((x5_3.length : Int) - 1)) < (x5_3.length : Int) then (if y476.length + (rd_L1 x5_3 (wrap64 ((x5_3.length : Int) - 1))).length < 17592186044416 then ((some (y476 ++ (rd_L1 x5_3 (wrap64 ((x5_3.length : Int) - 1))) : List Int)).bind fun y480 => (if y480.length + y447.length < 17592186044416 then (compositorref17_Whole.l1 kj10 l0 l1 (x5_3.set ((wrap64 ((x5_3.length : Int) - 1)) : Int).toNat (y480 ++ y447)) true x7_1 (wrap64 (x8_3 + 1))) else (none))) else (none)) else (none)) else (none)) = some r := by first | (rw [hy476]; with_reducible exact H) | (have H2_ := (Option.bind_some _ _).symm.trans H; rw [hy476]; with_reducible exact H2_) | (have H2_ := (Option.bind_some _ _).symm.trans H; with_reducible exact H2_) | with_reducible exact H | (rw [hy476]; exact H) | exact H
                   have Ny476 := Aside0.mk hy476
                   clear hy476
                   obtain ⟨ji60, hji60⟩ : ∃ j_ : Int, (wrap64 ((x5_3.length : Int) - 1)) = j_ := ⟨_, rfl⟩
                   replace H : (if 0 ≤ (ji60) then (if (ji60) < (x5_3.length : Int) then (if y476.length + (rd_L1 x5_3 (ji60)).length < 17592186044416 then ((some (y476 ++ (rd_L1 x5_3 (ji60)) : List Int)).bind fun y480 => (if y480.length + y447.length < 17592186044416 then (compositorref17_Whole.l1 kj10 l0 l1 (x5_3.set ((ji60) : Int).toNat (y480 ++ y447)) true x7_1 (wrap64 (x8_3 + 1))) else (none))) else (none)) else (none)) else (none)) = some r := by first | (rw [hji60] at H; exact H) | (simp only [hji60] at H ⊢; exact H)
                   have hji60w : (IntKind.i64.wrap ((x5_3.length : Int) - 1)) = ji60 := (i64_w _).trans hji60
                   by_cases c61 : 0 ≤ (ji60)
                   ·rw [if_pos c61] at H
                    have c61b0 : decide (0 ≤ (ji60)) = true := decide_eq_true c61
                    clear c61
                    by_cases c62 : (ji60) < (x5_3.length : Int)
                    ·rw [if_pos c62] at H
                     have c62b0 : decide ((ji60) < (x5_3.length : Int)) = true := decide_eq_true c62
                     clear c62
                     by_cases c63 : y476.length + (rd_L1 x5_3 (ji60)).length < 17592186044416
                     ·rw [if_pos c63] at H
                      have LMc63 := Aside0.mk c63
                      clear c63
                      obtain ⟨y480, hy480⟩ : ∃ y_ : List Int, y_ = (y476 ++ (rd_L1 x5_3 (ji60))) := ⟨_, rfl⟩
                      replace H : (if y480.length + y447.length < 17592186044416 then (compositorref17_Whole.l1 kj10 l0 l1 (x5_3.set ((ji60) : Int).toNat (y480 ++ y447)) true x7_1 (wrap64 (x8_3 + 1))) else (none)) = some r := by first | (rw [hy480]; with_reducible exact H) | (have H2_ := (Option.bind_some _ _).symm.trans H; rw [hy480]; with_reducible exact H2_) | (have H2_ := (Option.bind_some _ _).symm.trans H; with_reducible exact H2_) | with_reducible exact H | (rw [hy480]; exact H) | exact H
                      have Ny480 := Aside0.mk hy480
                      clear hy480
                      by_cases c64 : y480.length + y447.length < 17592186044416
                      ·rw [if_pos c64] at H
                       have LMc64 := Aside0.mk c64
                       clear c64
                       obtain ⟨y483, hy483⟩ : ∃ y_ : List Int, y_ = (y480 ++ y447) := ⟨_, rfl⟩
                       replace H : (compositorref17_Whole.l1 kj10 l0 l1 (x5_3.set ((ji60) : Int).toNat y483) true x7_1 (wrap64 (x8_3 + 1))) = some r := by first | (rw [hy483]; with_reducible exact H) | (have H2_ := (Option.bind_some _ _).symm.trans H; rw [hy483]; with_reducible exact H2_) | (have H2_ := (Option.bind_some _ _).symm.trans H; with_reducible exact H2_) | with_reducible exact H | (rw [hy483]; exact H) | exact H
                       have Ny483 := Aside0.mk hy483
                       clear hy483
                       obtain ⟨y486, hy486⟩ : ∃ y_ : List (List Int), y_ = (x5_3.set ((ji60) : Int).toNat y483) := ⟨_, rfl⟩
                       replace H : (compositorref17_Whole.l1 kj10 l0 l1 y486 true x7_1 (wrap64 (x8_3 + 1))) = some r := by first | (rw [hy486]; with_reducible exact H) | (have H2_ := (Option.bind_some _ _).symm.trans H; rw [hy486]; with_reducible exact H2_) | (have H2_ := (Option.bind_some _ _).symm.trans H; with_reducible exact H2_) | with_reducible exact H | (rw [hy486]; exact H) | exact H
                       have Ny486 := Aside0.mk hy486
                       clear hy486
                       have H' := Aside0.mk H
                       clear H
                       obtain ⟨Ao66, co66, eo66⟩ := Kd.S_slice HO_5.out
                       subst eo66
                       go_wp2_with (first | ((with_reducible refine gate_dst (N := 90) rfl ?_); (try (refine gate_guard (by rfl) ?_; dsimp only)); refine Kd.R_lit (Kd.int .i64) _ 3 ?hg (N := 90) ?hd (xs := ([] : List Int)) (inner := []) (ok := fun _ => True) (okp := fun _ => True) ?hr ?hp (fun _ hk => hk) trivial (Below.refl _ _) (Nat.le_refl _) (by simp) ?_; (case hd => rfl); (case hg => rfl); (case hr => first | (go_simp; done) | (go_simp; rfl)); (case hp => exact (Reps.none _ _)); intro v477 w67 ho68 hb hg_ hnew_; clear hg_ hnew_; (first | rw [← Ny476.out] at ho68 | (simp only [Int.reduceToNat] at ho68; rw [← Ny476.out] at ho68)); have n0_ := Aside0.mk (Kd.S_elder' (by (with_reducible repeat (first | apply Kd.S_alloc | apply Kd.S_drewN | apply Kd.S_drew)); exact HO_5.out) (Kd.R_base ho68) hb); have n1_ := Aside0.mk (Kd.R_elder' (by (with_reducible repeat (first | apply Kd.R_alloc | apply Kd.R_drewN | apply Kd.R_drew)); exact HO_9.out) (Kd.R_base ho68) hb); have n2_ := Aside0.mk (Kd.R_lower (Kd.R_new' ho68 (Kd.R_lt (by (with_reducible repeat (first | apply Kd.R_alloc | apply Kd.R_drewN | apply Kd.R_drew)); exact HO_9.out))) (below_size (by repeat (first | (with_reducible first | exact HB.out | apply below_alloc | apply pw_below_drewN | apply below_drew1) | exact HB.out)))); have n3_ := Aside0.mk (below_step (by repeat (first | (with_reducible first | exact HB.out | apply below_alloc | apply pw_below_drewN | apply below_drew1) | exact HB.out)) hb); clear HO_5; clear HO_9; clear HB; have HO_5 := n0_; have HO_9 := n1_; have HO478 := n2_; have HB := n3_; clear n0_ n1_ n2_ n3_; clear hb ho68; have p479 : 0 ≤ ((ji60) : Int) := odt; have q479 : (ji60) < (x5_3.length : Int) := odt; obtain ⟨ad479, A479_0, c479_0, e479, hx479_0, hl479_0, hi479_0⟩ := at_L1 (Kd.S_reads' HO_5.out).2.2 (ji60) p479 q479; cases e479; obtain ⟨ce479, hce479, hMe479, hcc479⟩ := Kd.S_get HO_5.out [] (ji60) p479 (by first | exact q479 | exact odt | (have e_ := (Kd.S_reads' HO_5.out).1; omega)); obtain ⟨ve479_0, rfl, ge479_0⟩ := hMe479; have hv479_0 := hcc479 0 _ rfl; rw [Nat.add_zero, show ((Kd.slice 3 (Kd.int .i64))).sz = 1 from rfl, Nat.mul_one] at hv479_0; replace hv479_0 := Option.some.inj (hv479_0.symm.trans hx479_0); rw [hv479_0] at ge479_0; have HL479_0 := Aside0.mk (show Kd.R (Kd.int .i64) 3 _ _ _ _ (rd_L1 x5_3 (ji60)) from ge479_0); clear hv479_0 ge479_0; clear hcc479 hce479; have HR479_0 := Aside0.mk hi479_0; have HC479_0 := Aside0.mk hl479_0; clear hi479_0 hl479_0; replace p479 := eq_true p479; replace q479 := eq_true q479) | ((with_reducible refine gate_builtin (b := .append) (xs := #[.tmp 90, .tmp 96]) rfl ?_); (try (refine gate_guard (by rfl) ?_; dsimp only)); at_builtin; refine Kd.R_append_rows (Kd.int .i64) (w0 := w) w.heap.size rfl (.tmp 90) (.tmp 96) 36 3 (.int .i64 0) 8 rfl Try.underlying36 info3 rfl (by decide) (by omega) v477 y476 (rd_L1 x5_3 (ji60)) _ _ _ (fun k_ => some k_ ≠ (v448 : Value).ownBlock) (fun _ => False) rfl rfl ?aO ?aR (fun _ _ h => h) (fun _ h => h.elim) ?aF ?aB ?aS ?aL ?_; (case aR => repeat (first | exact (by repeat (first | (with_reducible exact HR479_0.out) | (with_reducible refine Kd.C_alloc ?_ _) | (with_reducible refine Kd.C_drewN ?_ _) | (with_reducible refine Kd.C_drew ?_) | exact HR479_0.out)) | (with_reducible refine Kd.C_alloc ?_ _) | (with_reducible refine Kd.C_drewN ?_ _) | (with_reducible refine Kd.C_drew ?_))); (case aB => exact (by repeat (first | (with_reducible first | exact HB.out | apply below_alloc | apply pw_below_drewN | apply below_drew1) | exact HB.out))); (case aF => exact (fun k_ hk => Kd.fresh' (Kd.R_lt (by (with_reducible repeat (first | apply Kd.R_alloc | apply Kd.R_drewN | apply Kd.R_drew)); exact HO_9.out)) k_ hk)); (case aO => exact (by (with_reducible repeat (first | apply Kd.R_alloc | apply Kd.R_drewN | apply Kd.R_drew)); exact Kd.R_mono HO478.out (fun _ hk => hk.2))); (case aS => exact (below_size (by repeat (first | (with_reducible first | exact HB.out | apply below_alloc | apply pw_below_drewN | apply below_drew1) | exact HB.out)))); (case aL => have := LMc63.out; omega); intro v481 w69 ho hb hg hat; rw [← Ny480.out] at ho; have n0_ := Aside0.mk (Kd.S_after (ok := (fun k_ => some k_ ≠ (v448 : Value).ownBlock)) (by (with_reducible repeat (first | apply Kd.S_alloc | apply Kd.S_drewN | apply Kd.S_drew)); exact HO_5.out) hg hat); have n1_ := Aside0.mk (Kd.R_after (ok := (fun _ => True)) (by (with_reducible repeat (first | apply Kd.R_alloc | apply Kd.R_drewN | apply Kd.R_drew)); exact HO_9.out) hg hat); have n2_ := Aside0.mk (Kd.R_after (ok := (fun k_ => some k_ ≠ (.slice (some ad479) x5_3.length co66 : Value).ownBlock ∧ some k_ ≠ (v448 : Value).ownBlock)) (by (with_reducible repeat (first | apply Kd.R_alloc | apply Kd.R_drewN | apply Kd.R_drew)); exact Kd.R_mono HL479_0.out (fun _ hk => ⟨⟨hk.2, hk.1.1⟩, hk.1.2⟩)) hg hat); have n3_ := Aside0.mk (hb); have n4_ := Aside0.mk (ho); clear HO_5; clear HO_9; clear HL479_0; clear HB; clear HO478; have HO_5 := n0_; have HO_9 := n1_; have HL479_0 := n2_; have HB := n3_; have HO482 := n4_; clear n0_ n1_ n2_ n3_ n4_; clear ho hb hg hat; obtain ⟨Ao71, co71, eo71⟩ := Kd.R_slice HO_9.out; subst eo71) | ((with_reducible refine gate_builtin (b := .append) (xs := #[.tmp 97, .tmp 98]) rfl ?_); (try (refine gate_guard (by rfl) ?_; dsimp only)); at_builtin; refine Kd.R_append_rows (Kd.int .i64) (w0 := w) w.heap.size rfl (.tmp 97) (.tmp 98) 36 3 (.int .i64 0) 8 rfl Try.underlying36 info3 rfl (by decide) (by omega) v481 y480 y447 _ _ _ (fun k_ => some k_ ≠ (.slice Ao71 y447.length co71 : Value).ownBlock) (fun _ => False) rfl rfl ?aO ?aR (fun _ _ h => h) (fun _ h => h.elim) ?aF ?aB ?aS ?aL ?_; (case aR => repeat (first | exact (Kd.R_reads' HO_9.out).2.2 | (with_reducible refine Kd.C_alloc ?_ _) | (with_reducible refine Kd.C_drewN ?_ _) | (with_reducible refine Kd.C_drew ?_))); (case aB => exact (by repeat (first | (with_reducible first | exact HB.out | apply below_alloc | apply pw_below_drewN | apply below_drew1) | exact HB.out))); (case aF => exact (fun k_ hk => Kd.fresh' (Kd.R_lt (by (with_reducible repeat (first | apply Kd.R_alloc | apply Kd.R_drewN | apply Kd.R_drew)); exact HO_9.out)) k_ hk)); (case aO => exact (by (with_reducible repeat (first | apply Kd.R_alloc | apply Kd.R_drewN | apply Kd.R_drew)); exact HO482.out)); (case aS => exact (below_size (by repeat (first | (with_reducible first | exact HB.out | apply below_alloc | apply pw_below_drewN | apply below_drew1) | exact HB.out)))); (case aL => have := LMc64.out; omega); intro v484 w70 ho hb hg hat; rw [← Ny483.out] at ho; have n0_ := Aside0.mk (Kd.S_after (ok := (fun k_ => some k_ ≠ (.slice Ao71 y447.length co71 : Value).ownBlock)) (by (with_reducible repeat (first | apply Kd.S_alloc | apply Kd.S_drewN | apply Kd.S_drew)); exact HO_5.out) hg hat); have n1_ := Aside0.mk (Kd.R_after (ok := (fun _ => True)) (by (with_reducible repeat (first | apply Kd.R_alloc | apply Kd.R_drewN | apply Kd.R_drew)); exact HO_9.out) hg hat); have n2_ := Aside0.mk (Kd.R_after (ok := (fun k_ => some k_ ≠ (.slice (some ad479) x5_3.length co66 : Value).ownBlock ∧ some k_ ≠ (.slice Ao71 y447.length co71 : Value).ownBlock)) (by (with_reducible repeat (first | apply Kd.R_alloc | apply Kd.R_drewN | apply Kd.R_drew)); exact HL479_0.out) hg hat); have n3_ := Aside0.mk (hb); have n4_ := Aside0.mk (ho); clear HO_5; clear HO_9; clear HL479_0; clear HB; clear HO482; have HO_5 := n0_; have HO_9 := n1_; have HL479_0 := n2_; have HB := n3_; have HO485 := n4_; clear n0_ n1_ n2_ n3_ n4_; clear ho hb hg hat; have p65 : 0 ≤ ((ji60) : Int) := odt; have q65 : ((ji60) : Int) < ((x5_3.length : Int) : Int) := odt; obtain ⟨go65, co65, eo65, gb65, gl65, cl65, HG65⟩ := Kd.S_form HO_5.out (by omega); (first | cases eo65 | (injection eo65 with ea_ en_ ec_; (first | subst ea_ | (injection ea_ with ea_; subst ea_)); subst ec_; clear en_)); have GB65 := Aside0.mk gb65; have GG65 := Aside0.mk HG65; clear gb65 gl65 HG65; (first | simp only [add_plain] at hx479_0 | skip); obtain ⟨_, ce65, hcl65, hM65, hcc65, hfr65, _, _⟩ := Kd.S_elem HO_5.out [] ((ji60) : Int) p65 q65; obtain ⟨ve65_0, rfl, ge65_0⟩ := hM65; have hx65_0 := hcc65 0 _ rfl; have hf65_0 := hfr65 0; (try simp only [show ((Kd.slice 3 (Kd.int .i64))).sz = 1 from rfl, Nat.mul_one, Nat.add_zero] at hx65_0); (try simp only [show ((Kd.slice 3 (Kd.int .i64))).sz = 1 from rfl, Nat.mul_one, Nat.add_zero] at hf65_0); clear hcl65 hcc65 hfr65; (try clear hM65); replace p65 := eq_true p65; replace q65 := eq_true q65; have HX72 := Aside0.mk (show Kd.S (Kd.slice 3 (Kd.int .i64)) 36 w70 w.heap.size (fun k_ => ((fun k_ => some k_ ≠ (.slice Ao71 y447.length co71 : Value).ownBlock)) k_ ∧ ¬ ((fun k_ => some k_ = (v484 : Value).ownBlock)) k_) (.slice (some ⟨go65, 0, none⟩) x5_3.length co66) x5_3 from (by (with_reducible repeat (first | apply Kd.S_alloc | apply Kd.S_drewN | apply Kd.S_drew)); exact Kd.S_mono HO_5.out (fun k_ hk => ⟨hk.1, fun e_ => hk.2 e_⟩))); obtain ⟨oki72, ce72, hcl72, hM72, hcc72, hfr72, hoki72, hH72⟩ := Kd.S_elem HX72.out [] ((ji60) : Int) (odt) (by have h_ : ((ji60) : Int) < ((x5_3.length : Int) : Int) := odt; first | exact h_ | (have e_ := (Kd.S_reads' HO_5.out).1; omega) | simpa using h_); obtain ⟨ve72_0, rfl, ge72_0⟩ := hM72; have HP72 := Kd.S_seg hH72 (odt) (by have h_ : ((ji60) : Int) < ((x5_3.length : Int) : Int) := odt; first | exact h_ | (have e_ := (Kd.S_reads' HO_5.out).1; omega) | simpa using h_) (seg := [v484]) (j := 0) (show 1 ≤ 1 from by decide) (x' := y483) (Kd.M_row (Kd.R_mono (Kd.R_tight rfl (Kd.R_mono (ok' := fun k_ => ((fun k_ => some k_ ≠ (.slice Ao71 y447.length co71 : Value).ownBlock)) k_ ∧ k_ ≠ go65) (Kd.R_apart' (HO485.out) (Kd.S_typed HO_5.out) (by decide)) (fun k_ hk => ⟨hk.1, fun e_ => (hk.2) (by rw [e_]; rfl)⟩))) (fun _ h_ => Or.inr (h_)))) (fun _ hk => hk) (fun k_ hk_ => ((Kd.R_mono (ok' := fun k_ => ((fun k_ => some k_ ≠ (.slice Ao71 y447.length co71 : Value).ownBlock)) k_ ∧ k_ ≠ go65) (Kd.R_apart' (HO485.out) (Kd.S_typed HO_5.out) (by decide)) (fun k_ hk => ⟨hk.1, fun e_ => (hk.2) (by rw [e_]; rfl)⟩))).1 k_ hk_.symm); have hx72_0 := hcc72 0 _ rfl; (try simp only [show ((Kd.slice 3 (Kd.int .i64))).sz = 1 from rfl, Nat.mul_one, Nat.add_zero] at hx72_0); have hf72_0 := hfr72 0; (try simp only [show ((Kd.slice 3 (Kd.int .i64))).sz = 1 from rfl, Nat.mul_one, Nat.add_zero] at hf72_0); clear hcl72 hcc72 hfr72 hoki72 hH72; (try clear hM72); (try simp only [show ((Kd.slice 3 (Kd.int .i64))).sz = 1 from rfl, Nat.mul_one, Nat.add_zero] at HP72)) | ((with_reducible refine gate_store (t := 36) (p := 100) rfl ?_); refine store_event (t := 36) (p := 100) (v := ?vo_w73) (w1 := (w70.setCell ⟨go65, ((ji60) : Int).toNat, none⟩ (v484))) ?hg ?ho ?hn ?hr ?_; (case ho => rfl); (case hg => rfl); (case hn => rfl); (case hr => first | (go_simp; done) | (go_simp; rfl) | (obtain ⟨Az_, cz_, ez_⟩ := Kd.R_slice HO485.out; subst ez_; first | (go_simp; done) | (go_simp; rfl))); intro w73 hw; have hg : w70.grownBy w73 (some go65) := (by rw [hw]; exact HP72.2); have hp_ : Kd.S (Kd.slice 3 (Kd.int .i64)) 36 w73 w.heap.size (fun k_ => some k_ ≠ (.slice Ao71 y447.length co71 : Value).ownBlock) (.slice (some ⟨go65, 0, none⟩) x5_3.length co66) y486 := (by rw [hw, Ny486.out]; exact HP72.1); clear HP72; have n0_ := Aside0.mk (hp_); have n1_ := Aside0.mk (Kd.R_over' (v := (.slice (some ⟨go65, 0, none⟩) x5_3.length co66)) (by (with_reducible repeat (first | apply Kd.R_alloc | apply Kd.R_drewN | apply Kd.R_drew)); exact HO_9.out) (Kd.S_typed HO_5.out) (by decide) hg); have n2_ := Aside0.mk (Kd.R_after (v := (.slice (some ⟨go65, 0, none⟩) x5_3.length co66)) (v1 := (.slice (some ⟨go65, 0, none⟩) x5_3.length co66)) (ok := (fun k_ => some k_ ≠ (.slice Ao71 y447.length co71 : Value).ownBlock ∧ some k_ ≠ (v484 : Value).ownBlock)) (by (with_reducible repeat (first | apply Kd.R_alloc | apply Kd.R_drewN | apply Kd.R_drew)); exact Kd.R_mono HL479_0.out (fun _ hk => ⟨⟨hk.1.2, hk.2⟩, hk.1.1⟩)) hg (.inl rfl)); have n3_ := Aside0.mk ((by rw [hw]; exact below_set (HB.out) GB65.out : Below w.heap.size w w73)); clear HO_5; clear HO_9; clear HL479_0; clear HB; clear HO485; have HO_5 := n0_; have HO_9 := n1_; have HL479_0 := n2_; have HB := n3_; clear n0_ n1_ n2_ n3_; clear hg hw hp_))
                       go_roundg kj10
                       case measure => have := HK1.out; have := HJ2.out; have := HK3.out; have := HJ10.out; omega
                       case rel => exact ⟨(y486), (wrap64 (x8_3 + 1)), (by first | rfl | (simp; done) | (simp [*]; done)), H', ⟨by have := HK1.out; have := HJ2.out; have := HK3.out; have := HJ10.out; omega⟩, ⟨by (with_reducible repeat (first | apply Kd.S_alloc | apply Kd.S_drewN | apply Kd.S_drew)); exact Kd.S_mono HO_5.out (fun _ hk => trivial)⟩, ⟨by repeat (first | (with_reducible first | exact HB.out | apply below_alloc | apply pw_below_drewN | apply below_drew1) | exact HB.out)⟩⟩
                      ·rw [if_neg c64] at H
                       exact absurd H (by simp)
                     ·rw [if_neg c63] at H
                      exact absurd H (by simp)
                    ·rw [if_neg c62] at H
                     exact absurd H (by simp)
                   ·rw [if_neg c61] at H
                    exact absurd H (by simp)
                  ·rw [if_neg c59] at H
                   have c59b0 : decide (0 < (x5_3.length : Int)) = false := decide_eq_false c59
                   have c59b1 : decide (0 < x5_3.length) = false := decide_eq_false (by omega)
                   clear c59
                   by_cases c74 : x5_3.length < 5864062014805
                   ·rw [if_pos c74] at H
                    have LMc74 := Aside0.mk c74
                    clear c74
                    obtain ⟨y487, hy487⟩ : ∃ y_ : List (List Int), y_ = (x5_3 ++ [y447]) := ⟨_, rfl⟩
                    replace H : (compositorref17_Whole.l1 kj10 l0 l1 y487 true x7_1 (wrap64 (x8_3 + 1))) = some r := by first | (rw [hy487]; with_reducible exact H) | (have H2_ := (Option.bind_some _ _).symm.trans H; rw [hy487]; with_reducible exact H2_) | (have H2_ := (Option.bind_some _ _).symm.trans H; with_reducible exact H2_) | with_reducible exact H | (rw [hy487]; exact H) | exact H
                    have Ny487 := Aside0.mk hy487
                    clear hy487
                    have H' := Aside0.mk H
                    clear H
                    obtain ⟨Ao75, co75, eo75⟩ := Kd.S_slice HO_5.out
                    subst eo75
                    obtain ⟨Ao77, co77, eo77⟩ := Kd.R_slice HO_9.out
                    subst eo77
                    go_wp2_with (first | ((with_reducible refine gate_builtin (b := .append) (xs := #[.tmp 101, .tmp 103]) rfl ?_); (try (refine gate_guard (by rfl) ?_; dsimp only)); at_builtin; refine Kd.S_append (Kd.slice 3 (Kd.int .i64)) (w0 := w) w.heap.size rfl (.tmp 101) (.tmp 103) 27 36 (.slice none 0 0) 24 rfl Try.underlying27 info36 rfl (by decide) (by omega) (.slice Ao75 x5_3.length co75) x5_3 y447 [.slice Ao77 y447.length co77] (fun _ => True) (fun k_ => some k_ = (.slice Ao77 y447.length co77 : Value).ownBlock) rfl rfl ?aP (fun k_ hk_ => ((Kd.R_mono (ok' := fun k_ => ((fun _ => True)) k_ ∧ some k_ ≠ (.slice Ao75 x5_3.length co75 : Value).ownBlock) (Kd.R_apart' (HO_9.out) (Kd.S_typed HO_5.out) (by decide)) (fun k_ hk => ⟨trivial, hk.2⟩))).1 k_ hk_.symm) ?aF ?aO ?aB ?aS ?aL ?_; (case aP => exact Kd.M_row (Kd.R_mono (Kd.R_tight rfl (Kd.R_mono (ok' := fun k_ => ((fun _ => True)) k_ ∧ some k_ ≠ (.slice Ao75 x5_3.length co75 : Value).ownBlock) (Kd.R_apart' (HO_9.out) (Kd.S_typed HO_5.out) (by decide)) (fun k_ hk => ⟨trivial, hk.2⟩))) (fun _ h_ => h_))); (case aB => exact (by repeat (first | (with_reducible first | exact HB.out | apply below_alloc | apply pw_below_drewN | apply below_drew1) | exact HB.out))); (case aF => exact (fun _ _ => trivial)); (case aO => exact (by (with_reducible repeat (first | apply Kd.S_alloc | apply Kd.S_drewN | apply Kd.S_drew)); exact Kd.S_mono HO_5.out (fun k_ hk => ⟨trivial, fun e_ => hk e_⟩))); (case aS => exact (below_size (by repeat (first | (with_reducible first | exact HB.out | apply below_alloc | apply pw_below_drewN | apply below_drew1) | exact HB.out)))); (case aL => have := LMc74.out; omega); intro v488 w76 ho hb hg hat; rw [← Ny487.out] at ho; have n0_ := Aside0.mk (hb); have n1_ := Aside0.mk (ho); clear HB; clear HO_5; clear HO_9; have HB := n0_; have HO489 := n1_; clear n0_ n1_; clear ho hb hg hat))
                    go_roundg kj10
                    case measure => have := HK1.out; have := HJ2.out; have := HK3.out; have := HJ10.out; omega
                    case rel => exact ⟨(y487), (wrap64 (x8_3 + 1)), (by first | rfl | (simp; done) | (simp [*]; done)), H', ⟨by have := HK1.out; have := HJ2.out; have := HK3.out; have := HJ10.out; omega⟩, ⟨by (with_reducible repeat (first | apply Kd.S_alloc | apply Kd.S_drewN | apply Kd.S_drew)); exact HO489.out⟩, ⟨by repeat (first | (with_reducible first | exact HB.out | apply below_alloc | apply pw_below_drewN | apply below_drew1) | exact HB.out)⟩⟩
                   ·rw [if_neg c74] at H
                    exact absurd H (by simp)
                 ·replace c58 := Bool.eq_false_iff.mpr c58
                  subst c58
                  have H1 : (if x5_3.length < 5864062014805 then (compositorref17_Whole.l1 kj10 l0 l1 (x5_3 ++ [y447]) false x7_1 (wrap64 (x8_3 + 1))) else (none)) = some r := by rw [if_neg (show ¬ (false = true) by decide)] at H; exact H
                  clear H
                  have H := H1
                  clear H1
                  by_cases c78 : x5_3.length < 5864062014805
                  ·rw [if_pos c78] at H
                   have LMc78 := Aside0.mk c78
                   clear c78
                   obtain ⟨y490, hy490⟩ : ∃ y_ : List (List Int), y_ = (x5_3 ++ [y447]) := ⟨_, rfl⟩
                   replace H : (compositorref17_Whole.l1 kj10 l0 l1 y490 false x7_1 (wrap64 (x8_3 + 1))) = some r := by first | (rw [hy490]; with_reducible exact H) | (have H2_ := (Option.bind_some _ _).symm.trans H; rw [hy490]; with_reducible exact H2_) | (have H2_ := (Option.bind_some _ _).symm.trans H; with_reducible exact H2_) | with_reducible exact H | (rw [hy490]; exact H) | exact H
                   have Ny490 := Aside0.mk hy490
                   clear hy490
                   have H' := Aside0.mk H
                   clear H
                   obtain ⟨Ao80, co80, eo80⟩ := Kd.R_slice HO_9.out
                   subst eo80
                   go_wp2_with (first | ((with_reducible refine gate_builtin (b := .append) (xs := #[.tmp 101, .tmp 103]) rfl ?_); (try (refine gate_guard (by rfl) ?_; dsimp only)); at_builtin; refine Kd.S_append (Kd.slice 3 (Kd.int .i64)) (w0 := w) w.heap.size rfl (.tmp 101) (.tmp 103) 27 36 (.slice none 0 0) 24 rfl Try.underlying27 info36 rfl (by decide) (by omega) u5 x5_3 y447 [.slice Ao80 y447.length co80] (fun _ => True) (fun k_ => some k_ = (.slice Ao80 y447.length co80 : Value).ownBlock) rfl rfl ?aP (fun k_ hk_ => ((Kd.R_mono (ok' := fun k_ => ((fun _ => True)) k_ ∧ some k_ ≠ (u5 : Value).ownBlock) (Kd.R_apart' (HO_9.out) (Kd.S_typed HO_5.out) (by decide)) (fun k_ hk => ⟨trivial, hk.2⟩))).1 k_ hk_.symm) ?aF ?aO ?aB ?aS ?aL ?_; (case aP => exact Kd.M_row (Kd.R_mono (Kd.R_tight rfl (Kd.R_mono (ok' := fun k_ => ((fun _ => True)) k_ ∧ some k_ ≠ (u5 : Value).ownBlock) (Kd.R_apart' (HO_9.out) (Kd.S_typed HO_5.out) (by decide)) (fun k_ hk => ⟨trivial, hk.2⟩))) (fun _ h_ => h_))); (case aB => exact (by repeat (first | (with_reducible first | exact HB.out | apply below_alloc | apply pw_below_drewN | apply below_drew1) | exact HB.out))); (case aF => exact (fun _ _ => trivial)); (case aO => exact (by (with_reducible repeat (first | apply Kd.S_alloc | apply Kd.S_drewN | apply Kd.S_drew)); exact Kd.S_mono HO_5.out (fun k_ hk => ⟨trivial, fun e_ => hk e_⟩))); (case aS => exact (below_size (by repeat (first | (with_reducible first | exact HB.out | apply below_alloc | apply pw_below_drewN | apply below_drew1) | exact HB.out)))); (case aL => have := LMc78.out; omega); intro v491 w79 ho hb hg hat; rw [← Ny490.out] at ho; have n0_ := Aside0.mk (hb); have n1_ := Aside0.mk (ho); clear HB; clear HO_5; clear HO_9; have HB := n0_; have HO492 := n1_; clear n0_ n1_; clear ho hb hg hat))
                   go_roundg kj10
                   case measure => have := HK1.out; have := HJ2.out; have := HK3.out; have := HJ10.out; omega
                   case rel => exact ⟨(y490), (wrap64 (x8_3 + 1)), (by first | rfl | (simp; done) | (simp [*]; done)), H', ⟨by have := HK1.out; have := HJ2.out; have := HK3.out; have := HJ10.out; omega⟩, ⟨by (with_reducible repeat (first | apply Kd.S_alloc | apply Kd.S_drewN | apply Kd.S_drew)); exact HO492.out⟩, ⟨by repeat (first | (with_reducible first | exact HB.out | apply below_alloc | apply pw_below_drewN | apply below_drew1) | exact HB.out)⟩⟩
                  ·rw [if_neg c78] at H
                   exact absurd H (by simp)
                ·rw [if_neg c57] at H
                 have c57b0 : (x8_3 == 0) = false := beq_eq_false_iff_ne.mpr c57
                 have c57b1 : (x8_3 != 0) = true := bne_iff_ne.mpr c57
                 by_cases c81 : x5_3.length < 5864062014805
                 ·rw [if_pos c81] at H
                  have LMc81 := Aside0.mk c81
                  clear c81
                  obtain ⟨y493, hy493⟩ : ∃ y_ : List (List Int), y_ = (x5_3 ++ [y447]) := ⟨_, rfl⟩
                  replace H : (compositorref17_Whole.l1 kj10 l0 l1 y493 x6_1 x7_1 (wrap64 (x8_3 + 1))) = some r := by first | (rw [hy493]; with_reducible exact H) | (have H2_ := (Option.bind_some _ _).symm.trans H; rw [hy493]; with_reducible exact H2_) | (have H2_ := (Option.bind_some _ _).symm.trans H; with_reducible exact H2_) | with_reducible exact H | (rw [hy493]; exact H) | exact H
                  have Ny493 := Aside0.mk hy493
                  clear hy493
                  have H' := Aside0.mk H
                  clear H
                  obtain ⟨Ao83, co83, eo83⟩ := Kd.R_slice HO_9.out
                  subst eo83
                  go_wp2_with (first | ((with_reducible refine gate_builtin (b := .append) (xs := #[.tmp 101, .tmp 103]) rfl ?_); (try (refine gate_guard (by rfl) ?_; dsimp only)); at_builtin; refine Kd.S_append (Kd.slice 3 (Kd.int .i64)) (w0 := w) w.heap.size rfl (.tmp 101) (.tmp 103) 27 36 (.slice none 0 0) 24 rfl Try.underlying27 info36 rfl (by decide) (by omega) u5 x5_3 y447 [.slice Ao83 y447.length co83] (fun _ => True) (fun k_ => some k_ = (.slice Ao83 y447.length co83 : Value).ownBlock) rfl rfl ?aP (fun k_ hk_ => ((Kd.R_mono (ok' := fun k_ => ((fun _ => True)) k_ ∧ some k_ ≠ (u5 : Value).ownBlock) (Kd.R_apart' (HO_9.out) (Kd.S_typed HO_5.out) (by decide)) (fun k_ hk => ⟨trivial, hk.2⟩))).1 k_ hk_.symm) ?aF ?aO ?aB ?aS ?aL ?_; (case aP => exact Kd.M_row (Kd.R_mono (Kd.R_tight rfl (Kd.R_mono (ok' := fun k_ => ((fun _ => True)) k_ ∧ some k_ ≠ (u5 : Value).ownBlock) (Kd.R_apart' (HO_9.out) (Kd.S_typed HO_5.out) (by decide)) (fun k_ hk => ⟨trivial, hk.2⟩))) (fun _ h_ => h_))); (case aB => exact (by repeat (first | (with_reducible first | exact HB.out | apply below_alloc | apply pw_below_drewN | apply below_drew1) | exact HB.out))); (case aF => exact (fun _ _ => trivial)); (case aO => exact (by (with_reducible repeat (first | apply Kd.S_alloc | apply Kd.S_drewN | apply Kd.S_drew)); exact Kd.S_mono HO_5.out (fun k_ hk => ⟨trivial, fun e_ => hk e_⟩))); (case aS => exact (below_size (by repeat (first | (with_reducible first | exact HB.out | apply below_alloc | apply pw_below_drewN | apply below_drew1) | exact HB.out)))); (case aL => have := LMc81.out; omega); intro v494 w82 ho hb hg hat; rw [← Ny493.out] at ho; have n0_ := Aside0.mk (hb); have n1_ := Aside0.mk (ho); clear HB; clear HO_5; clear HO_9; have HB := n0_; have HO495 := n1_; clear n0_ n1_; clear ho hb hg hat))
                  go_roundg kj10
                  case measure => have := HK1.out; have := HJ2.out; have := HK3.out; have := HJ10.out; omega
                  case rel => exact ⟨(y493), (wrap64 (x8_3 + 1)), (by first | rfl | (simp; done) | (simp [*]; done)), H', ⟨by have := HK1.out; have := HJ2.out; have := HK3.out; have := HJ10.out; omega⟩, ⟨by (with_reducible repeat (first | apply Kd.S_alloc | apply Kd.S_drewN | apply Kd.S_drew)); exact HO495.out⟩, ⟨by repeat (first | (with_reducible first | exact HB.out | apply below_alloc | apply pw_below_drewN | apply below_drew1) | exact HB.out)⟩⟩
                 ·rw [if_neg c81] at H
                  exact absurd H (by simp)
            ·rw [if_neg c10] at H
             exact absurd H (by simp)
           ·rw [if_neg c9] at H
            exact absurd H (by simp)
          ·rw [if_neg c8] at H
           have c8b0 : decide (x8_3 < ((rd_L4 l0 x7_1).length : Int)) = false := decide_eq_false c8
           clear c8
           by_cases c84 : x7_1 < (l1.length : Int)
           ·rw [if_pos c84] at H
            have c84b0 : decide (x7_1 < (l1.length : Int)) = true := decide_eq_true c84
            clear c84
            by_cases c85 : ((rd_T24 l1 x7_1).f0) ≥ 2
            ·rw [if_pos c85] at H
             have c85b0 : decide (2 ≤ ((rd_T24 l1 x7_1).f0)) = true := decide_eq_true c85
             clear c85
             have H' := Aside0.mk H
             clear H
             have p439 : 0 ≤ (x7_1 : Int) := odt
             have q439 : x7_1 < (l0.length : Int) := odt
             obtain ⟨ad439, A439_0, c439_0, e439, hx439_0, hl439_0, hi439_0⟩ := at_L4 HR0.out x7_1 p439 q439
             cases e439
             replace hx439_0 := (HB.out.cell (World.block_lt_of_cell? w _ hx439_0)).trans hx439_0
             have HR439_0 := Aside0.mk hi439_0
             have HC439_0 := Aside0.mk hl439_0
             clear hi439_0 hl439_0
             replace p439 := eq_true p439
             replace q439 := eq_true q439
             have p440 : 0 ≤ (x7_1 : Int) := odt
             have q440 : x7_1 < (l1.length : Int) := odt
             obtain ⟨ad440, e440, hx440_0, hx440_1, hx440_2⟩ := at_T24 HR1.out x7_1 p440 q440
             cases e440
             replace hx440_0 := (HB.out.cell (World.block_lt_of_cell? w _ hx440_0)).trans hx440_0
             replace hx440_1 := (HB.out.cell (World.block_lt_of_cell? w _ hx440_1)).trans hx440_1
             replace hx440_2 := (HB.out.cell (World.block_lt_of_cell? w _ hx440_2)).trans hx440_2
             replace p440 := eq_true p440
             replace q440 := eq_true q440
             have p441 : 0 ≤ (x7_1 : Int) := odt
             have q441 : x7_1 < (l1.length : Int) := odt
             obtain ⟨ad441, e441, hx441_0, hx441_1, hx441_2⟩ := at_T24 HR1.out x7_1 p441 q441
             obtain rfl : ad440 = ad441 := (by injection e441)
             replace hx441_0 := (HB.out.cell (World.block_lt_of_cell? w _ hx441_0)).trans hx441_0
             replace hx441_1 := (HB.out.cell (World.block_lt_of_cell? w _ hx441_1)).trans hx441_1
             replace hx441_2 := (HB.out.cell (World.block_lt_of_cell? w _ hx441_2)).trans hx441_2
             replace p441 := eq_true p441
             replace q441 := eq_true q441
             go_wp2
             go_roundg k3
             case measure => have := HK1.out; have := HJ2.out; have := HK3.out; omega
             case rel => exact ⟨(x5_3), (decide (((rd_T24 l1 x7_1).f0) ≤ 4)), (wrap64 (x7_1 + 1)), (by first | rfl | (simp; done) | (simp [*]; done)), (by first | rfl | (simp; done) | (simp [*]; done)), H', ⟨by have := HK1.out; have := HJ2.out; have := HK3.out; omega⟩, ⟨by (with_reducible repeat (first | apply Kd.S_alloc | apply Kd.S_drewN | apply Kd.S_drew)); exact HO_5.out⟩, ⟨by repeat (first | (with_reducible first | exact HB.out | apply below_alloc | apply pw_below_drewN | apply below_drew1) | exact HB.out)⟩⟩
            ·rw [if_neg c85] at H
             have c85b0 : decide (2 ≤ ((rd_T24 l1 x7_1).f0)) = false := decide_eq_false c85
             clear c85
             have H' := Aside0.mk H
             clear H
             have p439 : 0 ≤ (x7_1 : Int) := odt
             have q439 : x7_1 < (l0.length : Int) := odt
             obtain ⟨ad439, A439_0, c439_0, e439, hx439_0, hl439_0, hi439_0⟩ := at_L4 HR0.out x7_1 p439 q439
             cases e439
             replace hx439_0 := (HB.out.cell (World.block_lt_of_cell? w _ hx439_0)).trans hx439_0
             have HR439_0 := Aside0.mk hi439_0
             have HC439_0 := Aside0.mk hl439_0
             clear hi439_0 hl439_0
             replace p439 := eq_true p439
             replace q439 := eq_true q439
             have p440 : 0 ≤ (x7_1 : Int) := odt
             have q440 : x7_1 < (l1.length : Int) := odt
             obtain ⟨ad440, e440, hx440_0, hx440_1, hx440_2⟩ := at_T24 HR1.out x7_1 p440 q440
             cases e440
             replace hx440_0 := (HB.out.cell (World.block_lt_of_cell? w _ hx440_0)).trans hx440_0
             replace hx440_1 := (HB.out.cell (World.block_lt_of_cell? w _ hx440_1)).trans hx440_1
             replace hx440_2 := (HB.out.cell (World.block_lt_of_cell? w _ hx440_2)).trans hx440_2
             replace p440 := eq_true p440
             replace q440 := eq_true q440
             go_wp2
             go_roundg k3
             case measure => have := HK1.out; have := HJ2.out; have := HK3.out; omega
             case rel => exact ⟨(x5_3), (false), (wrap64 (x7_1 + 1)), (by first | rfl | (simp; done) | (simp [*]; done)), (by first | rfl | (simp; done) | (simp [*]; done)), H', ⟨by have := HK1.out; have := HJ2.out; have := HK3.out; omega⟩, ⟨by (with_reducible repeat (first | apply Kd.S_alloc | apply Kd.S_drewN | apply Kd.S_drew)); exact HO_5.out⟩, ⟨by repeat (first | (with_reducible first | exact HB.out | apply below_alloc | apply pw_below_drewN | apply below_drew1) | exact HB.out)⟩⟩
           ·rw [if_neg c84] at H
            exact absurd H (by simp)
         ·rw [if_neg c7] at H
          exact absurd H (by simp)
        ·rw [if_neg c6] at H
         exact absurd H (by simp)
     ·replace c5 := Bool.eq_false_iff.mpr c5
      subst c5
      have H1 : (some x5_1) = some r := by rw [if_neg (show ¬ (false = true) by decide)] at H; exact H
      clear H
      have H := H1
      clear H1
      obtain rfl := Option.some.inj H
      go_wp2
      go_ret
      exact ⟨_, by first | rfl | (simp [errW_none, errW_some] <;> rfl) | (simp [*, errW_none, errW_some] <;> rfl), by (with_reducible repeat (first | apply Kd.S_alloc | apply Kd.S_drewN | apply Kd.S_drew)); exact HO_5.out, by repeat (first | (with_reducible first | exact HB.out | apply below_alloc | apply pw_below_drewN | apply below_drew1) | exact HB.out)⟩

end Go.Proofs.Ytepllkdlnajbjaa.G
