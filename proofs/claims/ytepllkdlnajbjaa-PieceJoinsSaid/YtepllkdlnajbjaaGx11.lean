/- Contracts of the functions of this seat: what each call computes, as a plain Lean function. Made by this session's own generator. -/
import Derived.Test.YtepllkdlnajbjaaGx0
namespace Go.Proofs.Ytepllkdlnajbjaa.G
open Go.RowKit Go.Proofs.YtepllkdlnajbjaaMy Go.Proofs.YtepllkdlnajbjaaW.PrintWords Go.Proofs.YtepllkdlnajbjaaW.PrintLast Go.Proofs.YtepllkdlnajbjaaW.PrintMore
attribute [local go_sem] max2_int min2_int max_two min_two max_three min_three max_four min_four   -- for this text's walks alone
set_option linter.unusedVariables false
set_option linter.unusedSimpArgs false

/-! ### compositorref13_Few: function 7 -/
def compositorref13_Few.l0 : Nat → List (S41) → Int → Option (Bool)
 | 0, _, _ => none
 | k + 1, x0, x3 => if x3 < (x0.length : Int) then (if 0 ≤ x3 then (if (((rd_T41 x0 x3).f0).length : Int) > 100 then (some false) else (if (((rd_T41 x0 x3).f1).length : Int) > 100 then (some false) else (compositorref13_Few.l0 k x0 (wrap64 (x3 + 1))))) else (none)) else (some true)
def compositorref13_Few.f (k : Nat) (l0 : List (S41)) : Option (Bool) := if (l0.length : Int) > 110 then (some false) else (compositorref13_Few.l0 k l0 0)
theorem compositorref13_Few.mono_l : ∀ k, (∀ y0 y1, LeO (compositorref13_Few.l0 k y0 y1) (compositorref13_Few.l0 (k + 1) y0 y1))
 | 0 => fun _ _ r h => by simp [compositorref13_Few.l0] at h
 | k + 1 => by
  have ih0 := compositorref13_Few.mono_l k
  ·intro y0 y1
   unfold compositorref13_Few.l0
   repeat' first
   | (with_reducible exact ih0 _ _)
   | (with_reducible exact LeO.refl _)
   | (with_reducible exact LeO.none _)
   | (with_reducible refine LeO.ite ?_ ?_)
   | (with_reducible refine LeO.bind ?_ (fun _ => ?_))
   | exact ih0 _ _
   | exact LeO.none _
   | refine LeO.ite ?_ ?_
   | refine LeO.bind ?_ (fun _ => ?_)
theorem compositorref13_Few.mono : ∀ a0 k, LeO (compositorref13_Few.f k a0) (compositorref13_Few.f (k + 1) a0) := by
 intro a0 k
 have ih0 := compositorref13_Few.mono_l k
 unfold compositorref13_Few.f
 repeat' first
   | (with_reducible exact ih0 _ _)
   | (with_reducible exact LeO.refl _)
   | (with_reducible exact LeO.none _)
   | (with_reducible refine LeO.ite ?_ ?_)
   | (with_reducible refine LeO.bind ?_ (fun _ => ?_))
   | exact ih0 _ _
   | exact LeO.none _
   | refine LeO.ite ?_ ?_
   | refine LeO.bind ?_ (fun _ => ?_)
set_option maxHeartbeats 8000000 in
set_option maxRecDepth 100000 in
theorem compositorref13_Few.calls (k : Nat) (A0 : Option Addr) (c0 : Nat) (l0 : List (S41)) (r : Bool) (w : World) (hr0 : Kd.C k41 w A0 l0.length l0) (hc0 : l0.length ≤ c0) (h : compositorref13_Few.f k l0 = some r) :
  Calls Try.prog 7 #[.slice A0 l0.length c0] w fun e w' => e = .returned (.bool r) ∧ Drawn0 w w' := by
 have HR0 := Aside0.mk hr0
 have HC0 := Aside0.mk hc0
 clear hr0 hc0
 have H : (if (l0.length : Int) > 110 then (some false) else (compositorref13_Few.l0 k l0 0)) = some r := h
 clear h
 by_cases c2 : (l0.length : Int) > 110
 ·rw [if_pos c2] at H
  have c2b0 : decide (110 < (l0.length : Int)) = true := decide_eq_true c2
  have c2b1 : decide (110 < l0.length) = true := decide_eq_true (by omega)
  clear c2
  obtain rfl := Option.some.inj H
  go_enter Try.func7, Try.ntmps7
  go_wp2
  go_ret
  exact ⟨by first | rfl | (simp; done) | (simp [*]; done), by repeat (first | exact Drawn0.refl _ | apply Drawn0.step)⟩
 ·rw [if_neg c2] at H
  have c2b0 : decide (110 < (l0.length : Int)) = false := decide_eq_false c2
  have c2b1 : decide (110 < l0.length) = false := decide_eq_false (by omega)
  clear c2
  have H' := Aside0.mk H
  clear H
  go_enter Try.func7, Try.ntmps7
  go_wp2
  go_loopg [3] k (fun kq v3 w' => ∃ (x3_1 : Int), v3 = .int .i64 x3_1 ∧ Aside0 (compositorref13_Few.l0 kq l0 x3_1 = some r) ∧ Aside0 (kq ≤ k) ∧ Drawn0 w w')
  case atStart => exact ⟨(0), (by first | rfl | (simp; done) | (simp [*]; done)), H', ⟨Nat.le_refl _⟩, by repeat (first | exact Drawn0.refl _ | apply Drawn0.step)⟩
  case round =>
   clear H'
   try clear c2
   try clear c2b0
   try clear c2b1
   try clear p2
   obtain ⟨x3_1, rfl, HA, HK1, ⟨m1, rfl⟩⟩ := hrel
   cases gk with
   | zero => exact absurd HA.out (by simp [compositorref13_Few.l0])
   | succ k1 =>
    have H := HA.out
    clear HA
    simp only [compositorref13_Few.l0] at H
    by_cases c3 : x3_1 < (l0.length : Int)
    ·rw [if_pos c3] at H
     have c3b0 : decide (x3_1 < (l0.length : Int)) = true := decide_eq_true c3
     clear c3
     by_cases c4 : 0 ≤ x3_1
     ·rw [if_pos c4] at H
      have c4b0 : decide (0 ≤ x3_1) = true := decide_eq_true c4
      clear c4
      by_cases c5 : (((rd_T41 l0 x3_1).f0).length : Int) > 100
      ·rw [if_pos c5] at H
       have c5b0 : decide (100 < (((rd_T41 l0 x3_1).f0).length : Int)) = true := decide_eq_true c5
       have c5b1 : decide (100 < ((rd_T41 l0 x3_1).f0).length) = true := decide_eq_true (by omega)
       clear c5
       obtain rfl := Option.some.inj H
       have p340 : 0 ≤ (x3_1 : Int) := odt
       have q340 : x3_1 < (l0.length : Int) := odt
       obtain ⟨ad340, A340_0, c340_0, A340_1, c340_1, e340, hx340_0, hx340_1, hl340_0, hi340_0, hl340_1, hi340_1⟩ := at_T41 HR0.out x3_1 p340 q340
       cases e340
       have HR340_0 := Aside0.mk hi340_0
       have HC340_0 := Aside0.mk hl340_0
       clear hi340_0 hl340_0
       have HR340_1 := Aside0.mk hi340_1
       have HC340_1 := Aside0.mk hl340_1
       clear hi340_1 hl340_1
       replace p340 := eq_true p340
       replace q340 := eq_true q340
       go_wp2
       go_ret
       exact ⟨by first | rfl | (simp; done) | (simp [*]; done), by repeat (first | exact Drawn0.refl _ | apply Drawn0.step)⟩
      ·rw [if_neg c5] at H
       have c5b0 : decide (100 < (((rd_T41 l0 x3_1).f0).length : Int)) = false := decide_eq_false c5
       have c5b1 : decide (100 < ((rd_T41 l0 x3_1).f0).length) = false := decide_eq_false (by omega)
       clear c5
       by_cases c6 : (((rd_T41 l0 x3_1).f1).length : Int) > 100
       ·rw [if_pos c6] at H
        have c6b0 : decide (100 < (((rd_T41 l0 x3_1).f1).length : Int)) = true := decide_eq_true c6
        have c6b1 : decide (100 < ((rd_T41 l0 x3_1).f1).length) = true := decide_eq_true (by omega)
        clear c6
        obtain rfl := Option.some.inj H
        have p340 : 0 ≤ (x3_1 : Int) := odt
        have q340 : x3_1 < (l0.length : Int) := odt
        obtain ⟨ad340, A340_0, c340_0, A340_1, c340_1, e340, hx340_0, hx340_1, hl340_0, hi340_0, hl340_1, hi340_1⟩ := at_T41 HR0.out x3_1 p340 q340
        cases e340
        have HR340_0 := Aside0.mk hi340_0
        have HC340_0 := Aside0.mk hl340_0
        clear hi340_0 hl340_0
        have HR340_1 := Aside0.mk hi340_1
        have HC340_1 := Aside0.mk hl340_1
        clear hi340_1 hl340_1
        replace p340 := eq_true p340
        replace q340 := eq_true q340
        have p341 : 0 ≤ (x3_1 : Int) := odt
        have q341 : x3_1 < (l0.length : Int) := odt
        obtain ⟨ad341, A341_0, c341_0, A341_1, c341_1, e341, hx341_0, hx341_1, hl341_0, hi341_0, hl341_1, hi341_1⟩ := at_T41 HR0.out x3_1 p341 q341
        obtain rfl : ad340 = ad341 := (by injection e341)
        have HR341_0 := Aside0.mk hi341_0
        have HC341_0 := Aside0.mk hl341_0
        clear hi341_0 hl341_0
        have HR341_1 := Aside0.mk hi341_1
        have HC341_1 := Aside0.mk hl341_1
        clear hi341_1 hl341_1
        replace p341 := eq_true p341
        replace q341 := eq_true q341
        have ea_ := Option.some.inj (hx340_0.symm.trans hx341_0)
        injection ea_ with ea_ en_ ec_
        subst ea_
        subst ec_
        clear en_
        have ea_ := Option.some.inj (hx340_1.symm.trans hx341_1)
        injection ea_ with ea_ en_ ec_
        subst ea_
        subst ec_
        clear en_
        go_wp2
        go_ret
        exact ⟨by first | rfl | (simp; done) | (simp [*]; done), by repeat (first | exact Drawn0.refl _ | apply Drawn0.step)⟩
       ·rw [if_neg c6] at H
        have c6b0 : decide (100 < (((rd_T41 l0 x3_1).f1).length : Int)) = false := decide_eq_false c6
        have c6b1 : decide (100 < ((rd_T41 l0 x3_1).f1).length) = false := decide_eq_false (by omega)
        clear c6
        have H' := Aside0.mk H
        clear H
        have p340 : 0 ≤ (x3_1 : Int) := odt
        have q340 : x3_1 < (l0.length : Int) := odt
        obtain ⟨ad340, A340_0, c340_0, A340_1, c340_1, e340, hx340_0, hx340_1, hl340_0, hi340_0, hl340_1, hi340_1⟩ := at_T41 HR0.out x3_1 p340 q340
        cases e340
        have HR340_0 := Aside0.mk hi340_0
        have HC340_0 := Aside0.mk hl340_0
        clear hi340_0 hl340_0
        have HR340_1 := Aside0.mk hi340_1
        have HC340_1 := Aside0.mk hl340_1
        clear hi340_1 hl340_1
        replace p340 := eq_true p340
        replace q340 := eq_true q340
        have p341 : 0 ≤ (x3_1 : Int) := odt
        have q341 : x3_1 < (l0.length : Int) := odt
        obtain ⟨ad341, A341_0, c341_0, A341_1, c341_1, e341, hx341_0, hx341_1, hl341_0, hi341_0, hl341_1, hi341_1⟩ := at_T41 HR0.out x3_1 p341 q341
        obtain rfl : ad340 = ad341 := (by injection e341)
        have HR341_0 := Aside0.mk hi341_0
        have HC341_0 := Aside0.mk hl341_0
        clear hi341_0 hl341_0
        have HR341_1 := Aside0.mk hi341_1
        have HC341_1 := Aside0.mk hl341_1
        clear hi341_1 hl341_1
        replace p341 := eq_true p341
        replace q341 := eq_true q341
        have ea_ := Option.some.inj (hx340_0.symm.trans hx341_0)
        injection ea_ with ea_ en_ ec_
        subst ea_
        subst ec_
        clear en_
        have ea_ := Option.some.inj (hx340_1.symm.trans hx341_1)
        injection ea_ with ea_ en_ ec_
        subst ea_
        subst ec_
        clear en_
        go_wp2
        go_roundg k1
        case measure => have := HK1.out; omega
        case rel => exact ⟨(wrap64 (x3_1 + 1)), (by first | rfl | (simp; done) | (simp [*]; done)), H', ⟨by have := HK1.out; omega⟩, by repeat (first | exact Drawn0.refl _ | apply Drawn0.step)⟩
     ·rw [if_neg c4] at H
      exact absurd H (by simp)
    ·rw [if_neg c3] at H
     have c3b0 : decide (x3_1 < (l0.length : Int)) = false := decide_eq_false c3
     clear c3
     obtain rfl := Option.some.inj H
     go_wp2
     go_ret
     exact ⟨by first | rfl | (simp; done) | (simp [*]; done), by repeat (first | exact Drawn0.refl _ | apply Drawn0.step)⟩

end Go.Proofs.Ytepllkdlnajbjaa.G
