/- Contracts of the functions of this seat: what each call computes, as a plain Lean function. Made by this session's own generator. -/
import Derived.Test.YtanhafkoohnjhaaGx0
import Derived.Test.YtanhafkoohnjhaaGx5
namespace Go.Proofs.Ytanhafkoohnjhaa.G
open Go.RowKit Go.Proofs.YtanhafkoohnjhaaMy Go.Proofs.YtanhafkoohnjhaaW.PrintWords Go.Proofs.YtanhafkoohnjhaaW.PrintLast Go.Proofs.YtanhafkoohnjhaaW.PrintMore
attribute [local go_sem] max2_int min2_int max_two min_two max_three min_three max_four min_four   -- for this text's walks alone
set_option linter.unusedVariables false
set_option linter.unusedSimpArgs false

/-! ### compositorref13_Same: function 13 -/
def compositorref13_Same.l0 : Nat → List (S36) → List (S36) → Int → Option (Bool)
 | 0, _, _, _ => none
 | k + 1, x0, x1, x5 => if x5 < (x0.length : Int) then (if 0 ≤ x5 then (if x5 < (x1.length : Int) then ((compositorref04_Same.f k ((rd_T36 x0 x5).f0) ((rd_T36 x1 x5).f0)).bind fun t218 => (if t218 = true then ((compositorref04_Same.f k ((rd_T36 x0 x5).f1) ((rd_T36 x1 x5).f1)).bind fun t221 => (if t221 = true then (compositorref13_Same.l0 k x0 x1 (wrap64 (x5 + 1))) else (some false))) else (some false))) else (none)) else (none)) else (some true)
def compositorref13_Same.f (k : Nat) (l0 : List (S36)) (l1 : List (S36)) : Option (Bool) := if (l0.length : Int) = (l1.length : Int) then (compositorref13_Same.l0 k l0 l1 0) else (some false)
theorem compositorref13_Same.mono_l : ∀ k, (∀ y0 y1 y2, LeO (compositorref13_Same.l0 k y0 y1 y2) (compositorref13_Same.l0 (k + 1) y0 y1 y2))
 | 0 => fun _ _ _ r h => by simp [compositorref13_Same.l0] at h
 | k + 1 => by
  have ih0 := compositorref13_Same.mono_l k
  ·intro y0 y1 y2
   unfold compositorref13_Same.l0
   repeat' first
   | (with_reducible exact ih0 _ _ _)
   | (with_reducible exact compositorref04_Same.mono _ _ _)
   | (with_reducible exact LeO.refl _)
   | (with_reducible exact LeO.none _)
   | (with_reducible refine LeO.ite ?_ ?_)
   | (with_reducible refine LeO.bind ?_ (fun _ => ?_))
   | exact ih0 _ _ _
   | exact compositorref04_Same.mono _ _ _
   | exact LeO.none _
   | refine LeO.ite ?_ ?_
   | refine LeO.bind ?_ (fun _ => ?_)
theorem compositorref13_Same.mono : ∀ a0 a1 k, LeO (compositorref13_Same.f k a0 a1) (compositorref13_Same.f (k + 1) a0 a1) := by
 intro a0 a1 k
 have ih0 := compositorref13_Same.mono_l k
 unfold compositorref13_Same.f
 repeat' first
   | (with_reducible exact ih0 _ _ _)
   | (with_reducible exact compositorref04_Same.mono _ _ _)
   | (with_reducible exact LeO.refl _)
   | (with_reducible exact LeO.none _)
   | (with_reducible refine LeO.ite ?_ ?_)
   | (with_reducible refine LeO.bind ?_ (fun _ => ?_))
   | exact ih0 _ _ _
   | exact compositorref04_Same.mono _ _ _
   | exact LeO.none _
   | refine LeO.ite ?_ ?_
   | refine LeO.bind ?_ (fun _ => ?_)
set_option maxHeartbeats 8000000 in
set_option maxRecDepth 100000 in
theorem compositorref13_Same.calls (k : Nat) (A0 : Option Addr) (c0 : Nat) (l0 : List (S36)) (A1 : Option Addr) (c1 : Nat) (l1 : List (S36)) (r : Bool) (w : World) (hr0 : Kd.C k36 w A0 l0.length l0) (hc0 : l0.length ≤ c0) (hr1 : Kd.C k36 w A1 l1.length l1) (hc1 : l1.length ≤ c1) (h : compositorref13_Same.f k l0 l1 = some r) :
  Calls Try.prog 13 #[.slice A0 l0.length c0, .slice A1 l1.length c1] w fun e w' => e = .returned (.bool r) ∧ Drawn0 w w' := by
 have HR0 := Aside0.mk hr0
 have HC0 := Aside0.mk hc0
 clear hr0 hc0
 have HR1 := Aside0.mk hr1
 have HC1 := Aside0.mk hc1
 clear hr1 hc1
 have H : (if (l0.length : Int) = (l1.length : Int) then (compositorref13_Same.l0 k l0 l1 0) else (some false)) = some r := h
 clear h
 by_cases c3 : (l0.length : Int) = (l1.length : Int)
 ·rw [if_pos c3] at H
  have c3b0 : ((l0.length : Int) == (l1.length : Int)) = true := beq_iff_eq.mpr c3
  have c3b1 : ((l0.length : Int) != (l1.length : Int)) = false := bne_eq_false_iff_eq.mpr c3
  have c3b2 : (l0.length == l1.length) = true := by first | simpa using c3 | (simp at c3 ⊢; omega)
  clear c3
  have H' := Aside0.mk H
  clear H
  go_enter Try.func13, Try.ntmps13
  go_wp2
  repeat (go_quiet (fail); try go_wp2)
  go_loopg [5] k (fun kq v5 w' => ∃ (x5_1 : Int), v5 = .int .i64 x5_1 ∧ Aside0 (compositorref13_Same.l0 kq l0 l1 x5_1 = some r) ∧ Aside0 (kq ≤ k) ∧ Drawn0 w w')
  case atStart => exact ⟨(0), (by first | rfl | (simp; done) | (simp [*]; done)), H', ⟨Nat.le_refl _⟩, by repeat (first | exact Drawn0.refl _ | apply Drawn0.step)⟩
  case round =>
   clear H'
   try clear c1
   try clear p2
   try clear c3
   try clear c3b0
   try clear c3b1
   try clear c3b2
   obtain ⟨x5_1, rfl, HA, HK1, ⟨m1, rfl⟩⟩ := hrel
   cases gk with
   | zero => exact absurd HA.out (by simp [compositorref13_Same.l0])
   | succ k1 =>
    have H := HA.out
    clear HA
    simp only [compositorref13_Same.l0] at H
    by_cases c4 : x5_1 < (l0.length : Int)
    ·rw [if_pos c4] at H
     have c4b0 : decide (x5_1 < (l0.length : Int)) = true := decide_eq_true c4
     clear c4
     by_cases c5 : 0 ≤ x5_1
     ·rw [if_pos c5] at H
      have c5b0 : decide (0 ≤ x5_1) = true := decide_eq_true c5
      clear c5
      by_cases c6 : x5_1 < (l1.length : Int)
      ·rw [if_pos c6] at H
       have c6b0 : decide (x5_1 < (l1.length : Int)) = true := decide_eq_true c6
       clear c6
       replace H := Option.bind_eq_some_iff.mp H
       obtain ⟨t218, A70, H⟩ := H
       replace H : (if t218 = true then ((compositorref04_Same.f k1 ((rd_T36 l0 x5_1).f1) ((rd_T36 l1 x5_1).f1)).bind fun t221 => (if t221 = true then (compositorref13_Same.l0 k1 l0 l1 (wrap64 (x5_1 + 1))) else (some false))) else (some false)) = some r := H
       have A7 := Aside0.mk A70
       clear A70
       by_cases c8 : t218 = true
       ·subst c8
        have H1 : ((compositorref04_Same.f k1 ((rd_T36 l0 x5_1).f1) ((rd_T36 l1 x5_1).f1)).bind fun t221 => (if t221 = true then (compositorref13_Same.l0 k1 l0 l1 (wrap64 (x5_1 + 1))) else (some false))) = some r := by rw [if_pos rfl] at H; exact H
        clear H
        have H := H1
        clear H1
        replace H := Option.bind_eq_some_iff.mp H
        obtain ⟨t221, A90, H⟩ := H
        replace H : (if t221 = true then (compositorref13_Same.l0 k1 l0 l1 (wrap64 (x5_1 + 1))) else (some false)) = some r := H
        have A9 := Aside0.mk A90
        clear A90
        by_cases c10 : t221 = true
        ·subst c10
         have H1 : (compositorref13_Same.l0 k1 l0 l1 (wrap64 (x5_1 + 1))) = some r := by rw [if_pos rfl] at H; exact H
         clear H
         have H := H1
         clear H1
         have H' := Aside0.mk H
         clear H
         have p216 : 0 ≤ (x5_1 : Int) := odt
         have q216 : x5_1 < (l0.length : Int) := odt
         obtain ⟨ad216, A216_0, c216_0, A216_1, c216_1, e216, hx216_0, hx216_1, hl216_0, hi216_0, hl216_1, hi216_1⟩ := at_T36 HR0.out x5_1 p216 q216
         cases e216
         have HR216_0 := Aside0.mk hi216_0
         have HC216_0 := Aside0.mk hl216_0
         clear hi216_0 hl216_0
         have HR216_1 := Aside0.mk hi216_1
         have HC216_1 := Aside0.mk hl216_1
         clear hi216_1 hl216_1
         replace p216 := eq_true p216
         replace q216 := eq_true q216
         have p217 : 0 ≤ (x5_1 : Int) := odt
         have q217 : x5_1 < (l1.length : Int) := odt
         obtain ⟨ad217, A217_0, c217_0, A217_1, c217_1, e217, hx217_0, hx217_1, hl217_0, hi217_0, hl217_1, hi217_1⟩ := at_T36 HR1.out x5_1 p217 q217
         cases e217
         have HR217_0 := Aside0.mk hi217_0
         have HC217_0 := Aside0.mk hl217_0
         clear hi217_0 hl217_0
         have HR217_1 := Aside0.mk hi217_1
         have HC217_1 := Aside0.mk hl217_1
         clear hi217_1 hl217_1
         replace p217 := eq_true p217
         replace q217 := eq_true q217
         have tk_ : True := trivial
         go_wp2_with (first | (go_at_call 19; clear tk_; (with_reducible refine (compositorref04_Same.calls k1 _ _ ((rd_T36 l0 x5_1).f0) _ _ ((rd_T36 l1 x5_1).f0) true _ ?side1 ?side2 ?side3 ?side4 A7.out).mono ?_); (case side1 => repeat (first | exact HR216_0.out | (with_reducible apply Kd.C_alloc) | (with_reducible apply Kd.C_drewN) | (with_reducible apply Kd.C_drew))); (case side2 => exact HC216_0.out); (case side3 => repeat (first | exact HR217_0.out | (with_reducible apply Kd.C_alloc) | (with_reducible apply Kd.C_drewN) | (with_reducible apply Kd.C_drew))); (case side4 => exact HC217_0.out); rintro e w' ⟨rfl, ⟨nd, rfl⟩⟩; (try first | exact ⟨rfl, _, World.drewN_drewN _ _ _⟩ | exact ⟨rfl, _, Eq.trans (World.drewN_drewN _ _ _) (congrArg (World.drewN _) (Nat.add_assoc _ _ _))⟩); have p219 : 0 ≤ (x5_1 : Int) := odt; have q219 : x5_1 < (l0.length : Int) := odt; obtain ⟨ad219, A219_0, c219_0, A219_1, c219_1, e219, hx219_0, hx219_1, hl219_0, hi219_0, hl219_1, hi219_1⟩ := at_T36 HR0.out x5_1 p219 q219; obtain rfl : ad216 = ad219 := (by injection e219); have HR219_0 := Aside0.mk hi219_0; have HC219_0 := Aside0.mk hl219_0; clear hi219_0 hl219_0; have HR219_1 := Aside0.mk hi219_1; have HC219_1 := Aside0.mk hl219_1; clear hi219_1 hl219_1; replace p219 := eq_true p219; replace q219 := eq_true q219; have ea_ := Option.some.inj (hx216_0.symm.trans hx219_0); injection ea_ with ea_ en_ ec_; subst ea_; subst ec_; clear en_; have ea_ := Option.some.inj (hx216_1.symm.trans hx219_1); injection ea_ with ea_ en_ ec_; subst ea_; subst ec_; clear en_; have p220 : 0 ≤ (x5_1 : Int) := odt; have q220 : x5_1 < (l1.length : Int) := odt; obtain ⟨ad220, A220_0, c220_0, A220_1, c220_1, e220, hx220_0, hx220_1, hl220_0, hi220_0, hl220_1, hi220_1⟩ := at_T36 HR1.out x5_1 p220 q220; obtain rfl : ad217 = ad220 := (by injection e220); have HR220_0 := Aside0.mk hi220_0; have HC220_0 := Aside0.mk hl220_0; clear hi220_0 hl220_0; have HR220_1 := Aside0.mk hi220_1; have HC220_1 := Aside0.mk hl220_1; clear hi220_1 hl220_1; replace p220 := eq_true p220; replace q220 := eq_true q220; have ea_ := Option.some.inj (hx217_0.symm.trans hx220_0); injection ea_ with ea_ en_ ec_; subst ea_; subst ec_; clear en_; have ea_ := Option.some.inj (hx217_1.symm.trans hx220_1); injection ea_ with ea_ en_ ec_; subst ea_; subst ec_; clear en_))
         as_aux_lemma =>
         have tk_ : True := trivial
         go_wp2_with (first | (go_at_call 19; clear tk_; (with_reducible refine (compositorref04_Same.calls k1 _ _ ((rd_T36 l0 x5_1).f1) _ _ ((rd_T36 l1 x5_1).f1) true _ ?side1 ?side2 ?side3 ?side4 A9.out).mono ?_); (case side1 => repeat (first | exact HR219_1.out | (with_reducible apply Kd.C_alloc) | (with_reducible apply Kd.C_drewN) | (with_reducible apply Kd.C_drew))); (case side2 => exact HC219_1.out); (case side3 => repeat (first | exact HR220_1.out | (with_reducible apply Kd.C_alloc) | (with_reducible apply Kd.C_drewN) | (with_reducible apply Kd.C_drew))); (case side4 => exact HC220_1.out); rintro e w' ⟨rfl, ⟨nd, rfl⟩⟩; (try first | exact ⟨rfl, _, World.drewN_drewN _ _ _⟩ | exact ⟨rfl, _, Eq.trans (World.drewN_drewN _ _ _) (congrArg (World.drewN _) (Nat.add_assoc _ _ _))⟩)))
         repeat (go_quiet (first | (go_at_call 19; (with_reducible refine (compositorref04_Same.calls k1 _ _ ((rd_T36 l0 x5_1).f0) _ _ ((rd_T36 l1 x5_1).f0) true _ ?side1 ?side2 ?side3 ?side4 A7.out).mono ?_); (case side1 => repeat (first | exact HR216_0.out | (with_reducible apply Kd.C_alloc) | (with_reducible apply Kd.C_drewN) | (with_reducible apply Kd.C_drew))); (case side2 => exact HC216_0.out); (case side3 => repeat (first | exact HR217_0.out | (with_reducible apply Kd.C_alloc) | (with_reducible apply Kd.C_drewN) | (with_reducible apply Kd.C_drew))); (case side4 => exact HC217_0.out); rintro e w' ⟨rfl, ⟨nd, rfl⟩⟩; (try first | exact ⟨rfl, _, World.drewN_drewN _ _ _⟩ | exact ⟨rfl, _, Eq.trans (World.drewN_drewN _ _ _) (congrArg (World.drewN _) (Nat.add_assoc _ _ _))⟩); have p219 : 0 ≤ (x5_1 : Int) := odt; have q219 : x5_1 < (l0.length : Int) := odt; obtain ⟨ad219, A219_0, c219_0, A219_1, c219_1, e219, hx219_0, hx219_1, hl219_0, hi219_0, hl219_1, hi219_1⟩ := at_T36 HR0.out x5_1 p219 q219; obtain rfl : ad216 = ad219 := (by injection e219); have HR219_0 := Aside0.mk hi219_0; have HC219_0 := Aside0.mk hl219_0; clear hi219_0 hl219_0; have HR219_1 := Aside0.mk hi219_1; have HC219_1 := Aside0.mk hl219_1; clear hi219_1 hl219_1; replace p219 := eq_true p219; replace q219 := eq_true q219; have ea_ := Option.some.inj (hx216_0.symm.trans hx219_0); injection ea_ with ea_ en_ ec_; subst ea_; subst ec_; clear en_; have ea_ := Option.some.inj (hx216_1.symm.trans hx219_1); injection ea_ with ea_ en_ ec_; subst ea_; subst ec_; clear en_; have p220 : 0 ≤ (x5_1 : Int) := odt; have q220 : x5_1 < (l1.length : Int) := odt; obtain ⟨ad220, A220_0, c220_0, A220_1, c220_1, e220, hx220_0, hx220_1, hl220_0, hi220_0, hl220_1, hi220_1⟩ := at_T36 HR1.out x5_1 p220 q220; obtain rfl : ad217 = ad220 := (by injection e220); have HR220_0 := Aside0.mk hi220_0; have HC220_0 := Aside0.mk hl220_0; clear hi220_0 hl220_0; have HR220_1 := Aside0.mk hi220_1; have HC220_1 := Aside0.mk hl220_1; clear hi220_1 hl220_1; replace p220 := eq_true p220; replace q220 := eq_true q220; have ea_ := Option.some.inj (hx217_0.symm.trans hx220_0); injection ea_ with ea_ en_ ec_; subst ea_; subst ec_; clear en_; have ea_ := Option.some.inj (hx217_1.symm.trans hx220_1); injection ea_ with ea_ en_ ec_; subst ea_; subst ec_; clear en_) | (go_at_call 19; (with_reducible refine (compositorref04_Same.calls k1 _ _ ((rd_T36 l0 x5_1).f1) _ _ ((rd_T36 l1 x5_1).f1) true _ ?side1 ?side2 ?side3 ?side4 A9.out).mono ?_); (case side1 => repeat (first | exact HR219_1.out | (with_reducible apply Kd.C_alloc) | (with_reducible apply Kd.C_drewN) | (with_reducible apply Kd.C_drew))); (case side2 => exact HC219_1.out); (case side3 => repeat (first | exact HR220_1.out | (with_reducible apply Kd.C_alloc) | (with_reducible apply Kd.C_drewN) | (with_reducible apply Kd.C_drew))); (case side4 => exact HC220_1.out); rintro e w' ⟨rfl, ⟨nd, rfl⟩⟩; (try first | exact ⟨rfl, _, World.drewN_drewN _ _ _⟩ | exact ⟨rfl, _, Eq.trans (World.drewN_drewN _ _ _) (congrArg (World.drewN _) (Nat.add_assoc _ _ _))⟩))); try go_wp2_with (first | (go_at_call 19; (with_reducible refine (compositorref04_Same.calls k1 _ _ ((rd_T36 l0 x5_1).f0) _ _ ((rd_T36 l1 x5_1).f0) true _ ?side1 ?side2 ?side3 ?side4 A7.out).mono ?_); (case side1 => repeat (first | exact HR216_0.out | (with_reducible apply Kd.C_alloc) | (with_reducible apply Kd.C_drewN) | (with_reducible apply Kd.C_drew))); (case side2 => exact HC216_0.out); (case side3 => repeat (first | exact HR217_0.out | (with_reducible apply Kd.C_alloc) | (with_reducible apply Kd.C_drewN) | (with_reducible apply Kd.C_drew))); (case side4 => exact HC217_0.out); rintro e w' ⟨rfl, ⟨nd, rfl⟩⟩; (try first | exact ⟨rfl, _, World.drewN_drewN _ _ _⟩ | exact ⟨rfl, _, Eq.trans (World.drewN_drewN _ _ _) (congrArg (World.drewN _) (Nat.add_assoc _ _ _))⟩); have p219 : 0 ≤ (x5_1 : Int) := odt; have q219 : x5_1 < (l0.length : Int) := odt; obtain ⟨ad219, A219_0, c219_0, A219_1, c219_1, e219, hx219_0, hx219_1, hl219_0, hi219_0, hl219_1, hi219_1⟩ := at_T36 HR0.out x5_1 p219 q219; obtain rfl : ad216 = ad219 := (by injection e219); have HR219_0 := Aside0.mk hi219_0; have HC219_0 := Aside0.mk hl219_0; clear hi219_0 hl219_0; have HR219_1 := Aside0.mk hi219_1; have HC219_1 := Aside0.mk hl219_1; clear hi219_1 hl219_1; replace p219 := eq_true p219; replace q219 := eq_true q219; have ea_ := Option.some.inj (hx216_0.symm.trans hx219_0); injection ea_ with ea_ en_ ec_; subst ea_; subst ec_; clear en_; have ea_ := Option.some.inj (hx216_1.symm.trans hx219_1); injection ea_ with ea_ en_ ec_; subst ea_; subst ec_; clear en_; have p220 : 0 ≤ (x5_1 : Int) := odt; have q220 : x5_1 < (l1.length : Int) := odt; obtain ⟨ad220, A220_0, c220_0, A220_1, c220_1, e220, hx220_0, hx220_1, hl220_0, hi220_0, hl220_1, hi220_1⟩ := at_T36 HR1.out x5_1 p220 q220; obtain rfl : ad217 = ad220 := (by injection e220); have HR220_0 := Aside0.mk hi220_0; have HC220_0 := Aside0.mk hl220_0; clear hi220_0 hl220_0; have HR220_1 := Aside0.mk hi220_1; have HC220_1 := Aside0.mk hl220_1; clear hi220_1 hl220_1; replace p220 := eq_true p220; replace q220 := eq_true q220; have ea_ := Option.some.inj (hx217_0.symm.trans hx220_0); injection ea_ with ea_ en_ ec_; subst ea_; subst ec_; clear en_; have ea_ := Option.some.inj (hx217_1.symm.trans hx220_1); injection ea_ with ea_ en_ ec_; subst ea_; subst ec_; clear en_) | (go_at_call 19; (with_reducible refine (compositorref04_Same.calls k1 _ _ ((rd_T36 l0 x5_1).f1) _ _ ((rd_T36 l1 x5_1).f1) true _ ?side1 ?side2 ?side3 ?side4 A9.out).mono ?_); (case side1 => repeat (first | exact HR219_1.out | (with_reducible apply Kd.C_alloc) | (with_reducible apply Kd.C_drewN) | (with_reducible apply Kd.C_drew))); (case side2 => exact HC219_1.out); (case side3 => repeat (first | exact HR220_1.out | (with_reducible apply Kd.C_alloc) | (with_reducible apply Kd.C_drewN) | (with_reducible apply Kd.C_drew))); (case side4 => exact HC220_1.out); rintro e w' ⟨rfl, ⟨nd, rfl⟩⟩; (try first | exact ⟨rfl, _, World.drewN_drewN _ _ _⟩ | exact ⟨rfl, _, Eq.trans (World.drewN_drewN _ _ _) (congrArg (World.drewN _) (Nat.add_assoc _ _ _))⟩))))
         go_roundg k1
         case measure => have := HK1.out; omega
         case rel => exact ⟨(wrap64 (x5_1 + 1)), (by first | rfl | (simp; done) | (simp [*]; done)), H', ⟨by have := HK1.out; omega⟩, by repeat (first | exact Drawn0.refl _ | apply Drawn0.step)⟩
        ·replace c10 := Bool.eq_false_iff.mpr c10
         subst c10
         have H1 : (some false) = some r := by rw [if_neg (show ¬ (false = true) by decide)] at H; exact H
         clear H
         have H := H1
         clear H1
         obtain rfl := Option.some.inj H
         have p216 : 0 ≤ (x5_1 : Int) := odt
         have q216 : x5_1 < (l0.length : Int) := odt
         obtain ⟨ad216, A216_0, c216_0, A216_1, c216_1, e216, hx216_0, hx216_1, hl216_0, hi216_0, hl216_1, hi216_1⟩ := at_T36 HR0.out x5_1 p216 q216
         cases e216
         have HR216_0 := Aside0.mk hi216_0
         have HC216_0 := Aside0.mk hl216_0
         clear hi216_0 hl216_0
         have HR216_1 := Aside0.mk hi216_1
         have HC216_1 := Aside0.mk hl216_1
         clear hi216_1 hl216_1
         replace p216 := eq_true p216
         replace q216 := eq_true q216
         have p217 : 0 ≤ (x5_1 : Int) := odt
         have q217 : x5_1 < (l1.length : Int) := odt
         obtain ⟨ad217, A217_0, c217_0, A217_1, c217_1, e217, hx217_0, hx217_1, hl217_0, hi217_0, hl217_1, hi217_1⟩ := at_T36 HR1.out x5_1 p217 q217
         cases e217
         have HR217_0 := Aside0.mk hi217_0
         have HC217_0 := Aside0.mk hl217_0
         clear hi217_0 hl217_0
         have HR217_1 := Aside0.mk hi217_1
         have HC217_1 := Aside0.mk hl217_1
         clear hi217_1 hl217_1
         replace p217 := eq_true p217
         replace q217 := eq_true q217
         have tk_ : True := trivial
         go_wp2_with (first | (go_at_call 19; clear tk_; (with_reducible refine (compositorref04_Same.calls k1 _ _ ((rd_T36 l0 x5_1).f0) _ _ ((rd_T36 l1 x5_1).f0) true _ ?side1 ?side2 ?side3 ?side4 A7.out).mono ?_); (case side1 => repeat (first | exact HR216_0.out | (with_reducible apply Kd.C_alloc) | (with_reducible apply Kd.C_drewN) | (with_reducible apply Kd.C_drew))); (case side2 => exact HC216_0.out); (case side3 => repeat (first | exact HR217_0.out | (with_reducible apply Kd.C_alloc) | (with_reducible apply Kd.C_drewN) | (with_reducible apply Kd.C_drew))); (case side4 => exact HC217_0.out); rintro e w' ⟨rfl, ⟨nd, rfl⟩⟩; (try first | exact ⟨rfl, _, World.drewN_drewN _ _ _⟩ | exact ⟨rfl, _, Eq.trans (World.drewN_drewN _ _ _) (congrArg (World.drewN _) (Nat.add_assoc _ _ _))⟩); have p219 : 0 ≤ (x5_1 : Int) := odt; have q219 : x5_1 < (l0.length : Int) := odt; obtain ⟨ad219, A219_0, c219_0, A219_1, c219_1, e219, hx219_0, hx219_1, hl219_0, hi219_0, hl219_1, hi219_1⟩ := at_T36 HR0.out x5_1 p219 q219; obtain rfl : ad216 = ad219 := (by injection e219); have HR219_0 := Aside0.mk hi219_0; have HC219_0 := Aside0.mk hl219_0; clear hi219_0 hl219_0; have HR219_1 := Aside0.mk hi219_1; have HC219_1 := Aside0.mk hl219_1; clear hi219_1 hl219_1; replace p219 := eq_true p219; replace q219 := eq_true q219; have ea_ := Option.some.inj (hx216_0.symm.trans hx219_0); injection ea_ with ea_ en_ ec_; subst ea_; subst ec_; clear en_; have ea_ := Option.some.inj (hx216_1.symm.trans hx219_1); injection ea_ with ea_ en_ ec_; subst ea_; subst ec_; clear en_; have p220 : 0 ≤ (x5_1 : Int) := odt; have q220 : x5_1 < (l1.length : Int) := odt; obtain ⟨ad220, A220_0, c220_0, A220_1, c220_1, e220, hx220_0, hx220_1, hl220_0, hi220_0, hl220_1, hi220_1⟩ := at_T36 HR1.out x5_1 p220 q220; obtain rfl : ad217 = ad220 := (by injection e220); have HR220_0 := Aside0.mk hi220_0; have HC220_0 := Aside0.mk hl220_0; clear hi220_0 hl220_0; have HR220_1 := Aside0.mk hi220_1; have HC220_1 := Aside0.mk hl220_1; clear hi220_1 hl220_1; replace p220 := eq_true p220; replace q220 := eq_true q220; have ea_ := Option.some.inj (hx217_0.symm.trans hx220_0); injection ea_ with ea_ en_ ec_; subst ea_; subst ec_; clear en_; have ea_ := Option.some.inj (hx217_1.symm.trans hx220_1); injection ea_ with ea_ en_ ec_; subst ea_; subst ec_; clear en_))
         as_aux_lemma =>
         have tk_ : True := trivial
         go_wp2_with (first | (go_at_call 19; clear tk_; (with_reducible refine (compositorref04_Same.calls k1 _ _ ((rd_T36 l0 x5_1).f1) _ _ ((rd_T36 l1 x5_1).f1) false _ ?side1 ?side2 ?side3 ?side4 A9.out).mono ?_); (case side1 => repeat (first | exact HR219_1.out | (with_reducible apply Kd.C_alloc) | (with_reducible apply Kd.C_drewN) | (with_reducible apply Kd.C_drew))); (case side2 => exact HC219_1.out); (case side3 => repeat (first | exact HR220_1.out | (with_reducible apply Kd.C_alloc) | (with_reducible apply Kd.C_drewN) | (with_reducible apply Kd.C_drew))); (case side4 => exact HC220_1.out); rintro e w' ⟨rfl, ⟨nd, rfl⟩⟩; (try first | exact ⟨rfl, _, World.drewN_drewN _ _ _⟩ | exact ⟨rfl, _, Eq.trans (World.drewN_drewN _ _ _) (congrArg (World.drewN _) (Nat.add_assoc _ _ _))⟩)))
         repeat (go_quiet (first | (go_at_call 19; (with_reducible refine (compositorref04_Same.calls k1 _ _ ((rd_T36 l0 x5_1).f0) _ _ ((rd_T36 l1 x5_1).f0) true _ ?side1 ?side2 ?side3 ?side4 A7.out).mono ?_); (case side1 => repeat (first | exact HR216_0.out | (with_reducible apply Kd.C_alloc) | (with_reducible apply Kd.C_drewN) | (with_reducible apply Kd.C_drew))); (case side2 => exact HC216_0.out); (case side3 => repeat (first | exact HR217_0.out | (with_reducible apply Kd.C_alloc) | (with_reducible apply Kd.C_drewN) | (with_reducible apply Kd.C_drew))); (case side4 => exact HC217_0.out); rintro e w' ⟨rfl, ⟨nd, rfl⟩⟩; (try first | exact ⟨rfl, _, World.drewN_drewN _ _ _⟩ | exact ⟨rfl, _, Eq.trans (World.drewN_drewN _ _ _) (congrArg (World.drewN _) (Nat.add_assoc _ _ _))⟩); have p219 : 0 ≤ (x5_1 : Int) := odt; have q219 : x5_1 < (l0.length : Int) := odt; obtain ⟨ad219, A219_0, c219_0, A219_1, c219_1, e219, hx219_0, hx219_1, hl219_0, hi219_0, hl219_1, hi219_1⟩ := at_T36 HR0.out x5_1 p219 q219; obtain rfl : ad216 = ad219 := (by injection e219); have HR219_0 := Aside0.mk hi219_0; have HC219_0 := Aside0.mk hl219_0; clear hi219_0 hl219_0; have HR219_1 := Aside0.mk hi219_1; have HC219_1 := Aside0.mk hl219_1; clear hi219_1 hl219_1; replace p219 := eq_true p219; replace q219 := eq_true q219; have ea_ := Option.some.inj (hx216_0.symm.trans hx219_0); injection ea_ with ea_ en_ ec_; subst ea_; subst ec_; clear en_; have ea_ := Option.some.inj (hx216_1.symm.trans hx219_1); injection ea_ with ea_ en_ ec_; subst ea_; subst ec_; clear en_; have p220 : 0 ≤ (x5_1 : Int) := odt; have q220 : x5_1 < (l1.length : Int) := odt; obtain ⟨ad220, A220_0, c220_0, A220_1, c220_1, e220, hx220_0, hx220_1, hl220_0, hi220_0, hl220_1, hi220_1⟩ := at_T36 HR1.out x5_1 p220 q220; obtain rfl : ad217 = ad220 := (by injection e220); have HR220_0 := Aside0.mk hi220_0; have HC220_0 := Aside0.mk hl220_0; clear hi220_0 hl220_0; have HR220_1 := Aside0.mk hi220_1; have HC220_1 := Aside0.mk hl220_1; clear hi220_1 hl220_1; replace p220 := eq_true p220; replace q220 := eq_true q220; have ea_ := Option.some.inj (hx217_0.symm.trans hx220_0); injection ea_ with ea_ en_ ec_; subst ea_; subst ec_; clear en_; have ea_ := Option.some.inj (hx217_1.symm.trans hx220_1); injection ea_ with ea_ en_ ec_; subst ea_; subst ec_; clear en_) | (go_at_call 19; (with_reducible refine (compositorref04_Same.calls k1 _ _ ((rd_T36 l0 x5_1).f1) _ _ ((rd_T36 l1 x5_1).f1) false _ ?side1 ?side2 ?side3 ?side4 A9.out).mono ?_); (case side1 => repeat (first | exact HR219_1.out | (with_reducible apply Kd.C_alloc) | (with_reducible apply Kd.C_drewN) | (with_reducible apply Kd.C_drew))); (case side2 => exact HC219_1.out); (case side3 => repeat (first | exact HR220_1.out | (with_reducible apply Kd.C_alloc) | (with_reducible apply Kd.C_drewN) | (with_reducible apply Kd.C_drew))); (case side4 => exact HC220_1.out); rintro e w' ⟨rfl, ⟨nd, rfl⟩⟩; (try first | exact ⟨rfl, _, World.drewN_drewN _ _ _⟩ | exact ⟨rfl, _, Eq.trans (World.drewN_drewN _ _ _) (congrArg (World.drewN _) (Nat.add_assoc _ _ _))⟩))); try go_wp2_with (first | (go_at_call 19; (with_reducible refine (compositorref04_Same.calls k1 _ _ ((rd_T36 l0 x5_1).f0) _ _ ((rd_T36 l1 x5_1).f0) true _ ?side1 ?side2 ?side3 ?side4 A7.out).mono ?_); (case side1 => repeat (first | exact HR216_0.out | (with_reducible apply Kd.C_alloc) | (with_reducible apply Kd.C_drewN) | (with_reducible apply Kd.C_drew))); (case side2 => exact HC216_0.out); (case side3 => repeat (first | exact HR217_0.out | (with_reducible apply Kd.C_alloc) | (with_reducible apply Kd.C_drewN) | (with_reducible apply Kd.C_drew))); (case side4 => exact HC217_0.out); rintro e w' ⟨rfl, ⟨nd, rfl⟩⟩; (try first | exact ⟨rfl, _, World.drewN_drewN _ _ _⟩ | exact ⟨rfl, _, Eq.trans (World.drewN_drewN _ _ _) (congrArg (World.drewN _) (Nat.add_assoc _ _ _))⟩); have p219 : 0 ≤ (x5_1 : Int) := odt; have q219 : x5_1 < (l0.length : Int) := odt; obtain ⟨ad219, A219_0, c219_0, A219_1, c219_1, e219, hx219_0, hx219_1, hl219_0, hi219_0, hl219_1, hi219_1⟩ := at_T36 HR0.out x5_1 p219 q219; obtain rfl : ad216 = ad219 := (by injection e219); have HR219_0 := Aside0.mk hi219_0; have HC219_0 := Aside0.mk hl219_0; clear hi219_0 hl219_0; have HR219_1 := Aside0.mk hi219_1; have HC219_1 := Aside0.mk hl219_1; clear hi219_1 hl219_1; replace p219 := eq_true p219; replace q219 := eq_true q219; have ea_ := Option.some.inj (hx216_0.symm.trans hx219_0); injection ea_ with ea_ en_ ec_; subst ea_; subst ec_; clear en_; have ea_ := Option.some.inj (hx216_1.symm.trans hx219_1); injection ea_ with ea_ en_ ec_; subst ea_; subst ec_; clear en_; have p220 : 0 ≤ (x5_1 : Int) := odt; have q220 : x5_1 < (l1.length : Int) := odt; obtain ⟨ad220, A220_0, c220_0, A220_1, c220_1, e220, hx220_0, hx220_1, hl220_0, hi220_0, hl220_1, hi220_1⟩ := at_T36 HR1.out x5_1 p220 q220; obtain rfl : ad217 = ad220 := (by injection e220); have HR220_0 := Aside0.mk hi220_0; have HC220_0 := Aside0.mk hl220_0; clear hi220_0 hl220_0; have HR220_1 := Aside0.mk hi220_1; have HC220_1 := Aside0.mk hl220_1; clear hi220_1 hl220_1; replace p220 := eq_true p220; replace q220 := eq_true q220; have ea_ := Option.some.inj (hx217_0.symm.trans hx220_0); injection ea_ with ea_ en_ ec_; subst ea_; subst ec_; clear en_; have ea_ := Option.some.inj (hx217_1.symm.trans hx220_1); injection ea_ with ea_ en_ ec_; subst ea_; subst ec_; clear en_) | (go_at_call 19; (with_reducible refine (compositorref04_Same.calls k1 _ _ ((rd_T36 l0 x5_1).f1) _ _ ((rd_T36 l1 x5_1).f1) false _ ?side1 ?side2 ?side3 ?side4 A9.out).mono ?_); (case side1 => repeat (first | exact HR219_1.out | (with_reducible apply Kd.C_alloc) | (with_reducible apply Kd.C_drewN) | (with_reducible apply Kd.C_drew))); (case side2 => exact HC219_1.out); (case side3 => repeat (first | exact HR220_1.out | (with_reducible apply Kd.C_alloc) | (with_reducible apply Kd.C_drewN) | (with_reducible apply Kd.C_drew))); (case side4 => exact HC220_1.out); rintro e w' ⟨rfl, ⟨nd, rfl⟩⟩; (try first | exact ⟨rfl, _, World.drewN_drewN _ _ _⟩ | exact ⟨rfl, _, Eq.trans (World.drewN_drewN _ _ _) (congrArg (World.drewN _) (Nat.add_assoc _ _ _))⟩))))
         go_ret
         exact ⟨by first | rfl | (simp; done) | (simp [*]; done), by repeat (first | exact Drawn0.refl _ | apply Drawn0.step)⟩
       ·replace c8 := Bool.eq_false_iff.mpr c8
        subst c8
        have H1 : (some false) = some r := by rw [if_neg (show ¬ (false = true) by decide)] at H; exact H
        clear H
        have H := H1
        clear H1
        obtain rfl := Option.some.inj H
        have p216 : 0 ≤ (x5_1 : Int) := odt
        have q216 : x5_1 < (l0.length : Int) := odt
        obtain ⟨ad216, A216_0, c216_0, A216_1, c216_1, e216, hx216_0, hx216_1, hl216_0, hi216_0, hl216_1, hi216_1⟩ := at_T36 HR0.out x5_1 p216 q216
        cases e216
        have HR216_0 := Aside0.mk hi216_0
        have HC216_0 := Aside0.mk hl216_0
        clear hi216_0 hl216_0
        have HR216_1 := Aside0.mk hi216_1
        have HC216_1 := Aside0.mk hl216_1
        clear hi216_1 hl216_1
        replace p216 := eq_true p216
        replace q216 := eq_true q216
        have p217 : 0 ≤ (x5_1 : Int) := odt
        have q217 : x5_1 < (l1.length : Int) := odt
        obtain ⟨ad217, A217_0, c217_0, A217_1, c217_1, e217, hx217_0, hx217_1, hl217_0, hi217_0, hl217_1, hi217_1⟩ := at_T36 HR1.out x5_1 p217 q217
        cases e217
        have HR217_0 := Aside0.mk hi217_0
        have HC217_0 := Aside0.mk hl217_0
        clear hi217_0 hl217_0
        have HR217_1 := Aside0.mk hi217_1
        have HC217_1 := Aside0.mk hl217_1
        clear hi217_1 hl217_1
        replace p217 := eq_true p217
        replace q217 := eq_true q217
        go_wp2_with (first | (go_at_call 19; (with_reducible refine (compositorref04_Same.calls k1 _ _ ((rd_T36 l0 x5_1).f0) _ _ ((rd_T36 l1 x5_1).f0) false _ ?side1 ?side2 ?side3 ?side4 A7.out).mono ?_); (case side1 => repeat (first | exact HR216_0.out | (with_reducible apply Kd.C_alloc) | (with_reducible apply Kd.C_drewN) | (with_reducible apply Kd.C_drew))); (case side2 => exact HC216_0.out); (case side3 => repeat (first | exact HR217_0.out | (with_reducible apply Kd.C_alloc) | (with_reducible apply Kd.C_drewN) | (with_reducible apply Kd.C_drew))); (case side4 => exact HC217_0.out); rintro e w' ⟨rfl, ⟨nd, rfl⟩⟩; (try first | exact ⟨rfl, _, World.drewN_drewN _ _ _⟩ | exact ⟨rfl, _, Eq.trans (World.drewN_drewN _ _ _) (congrArg (World.drewN _) (Nat.add_assoc _ _ _))⟩)))
        repeat (go_quiet (first | (go_at_call 19; (with_reducible refine (compositorref04_Same.calls k1 _ _ ((rd_T36 l0 x5_1).f0) _ _ ((rd_T36 l1 x5_1).f0) false _ ?side1 ?side2 ?side3 ?side4 A7.out).mono ?_); (case side1 => repeat (first | exact HR216_0.out | (with_reducible apply Kd.C_alloc) | (with_reducible apply Kd.C_drewN) | (with_reducible apply Kd.C_drew))); (case side2 => exact HC216_0.out); (case side3 => repeat (first | exact HR217_0.out | (with_reducible apply Kd.C_alloc) | (with_reducible apply Kd.C_drewN) | (with_reducible apply Kd.C_drew))); (case side4 => exact HC217_0.out); rintro e w' ⟨rfl, ⟨nd, rfl⟩⟩; (try first | exact ⟨rfl, _, World.drewN_drewN _ _ _⟩ | exact ⟨rfl, _, Eq.trans (World.drewN_drewN _ _ _) (congrArg (World.drewN _) (Nat.add_assoc _ _ _))⟩))); try go_wp2_with (first | (go_at_call 19; (with_reducible refine (compositorref04_Same.calls k1 _ _ ((rd_T36 l0 x5_1).f0) _ _ ((rd_T36 l1 x5_1).f0) false _ ?side1 ?side2 ?side3 ?side4 A7.out).mono ?_); (case side1 => repeat (first | exact HR216_0.out | (with_reducible apply Kd.C_alloc) | (with_reducible apply Kd.C_drewN) | (with_reducible apply Kd.C_drew))); (case side2 => exact HC216_0.out); (case side3 => repeat (first | exact HR217_0.out | (with_reducible apply Kd.C_alloc) | (with_reducible apply Kd.C_drewN) | (with_reducible apply Kd.C_drew))); (case side4 => exact HC217_0.out); rintro e w' ⟨rfl, ⟨nd, rfl⟩⟩; (try first | exact ⟨rfl, _, World.drewN_drewN _ _ _⟩ | exact ⟨rfl, _, Eq.trans (World.drewN_drewN _ _ _) (congrArg (World.drewN _) (Nat.add_assoc _ _ _))⟩))))
        go_ret
        exact ⟨by first | rfl | (simp; done) | (simp [*]; done), by repeat (first | exact Drawn0.refl _ | apply Drawn0.step)⟩
      ·rw [if_neg c6] at H
       exact absurd H (by simp)
     ·rw [if_neg c5] at H
      exact absurd H (by simp)
    ·rw [if_neg c4] at H
     have c4b0 : decide (x5_1 < (l0.length : Int)) = false := decide_eq_false c4
     clear c4
     obtain rfl := Option.some.inj H
     go_wp2
     repeat (go_quiet (fail); try go_wp2)
     go_ret
     exact ⟨by first | rfl | (simp; done) | (simp [*]; done), by repeat (first | exact Drawn0.refl _ | apply Drawn0.step)⟩
 ·rw [if_neg c3] at H
  have c3b0 : ((l0.length : Int) == (l1.length : Int)) = false := beq_eq_false_iff_ne.mpr c3
  have c3b1 : ((l0.length : Int) != (l1.length : Int)) = true := bne_iff_ne.mpr c3
  have c3b2 : (l0.length == l1.length) = false := by first | simpa using c3 | (simp at c3 ⊢; omega)
  obtain rfl := Option.some.inj H
  go_enter Try.func13, Try.ntmps13
  go_wp2
  repeat (go_quiet (fail); try go_wp2)
  go_ret
  exact ⟨by first | rfl | (simp; done) | (simp [*]; done), by repeat (first | exact Drawn0.refl _ | apply Drawn0.step)⟩

end Go.Proofs.Ytanhafkoohnjhaa.G
