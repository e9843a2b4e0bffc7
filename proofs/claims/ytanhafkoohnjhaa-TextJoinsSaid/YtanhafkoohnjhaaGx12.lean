/- Contracts of the functions of this seat: what each call computes, as a plain Lean function. Made by this session's own generator. -/
import Derived.Test.YtanhafkoohnjhaaGx0
import Derived.Test.YtanhafkoohnjhaaGx3
import Derived.Test.YtanhafkoohnjhaaGx6
import Derived.Test.YtanhafkoohnjhaaGx10
import Derived.Test.YtanhafkoohnjhaaGx11
namespace Go.Proofs.Ytanhafkoohnjhaa.G
open Go.RowKit Go.Proofs.YtanhafkoohnjhaaMy Go.Proofs.YtanhafkoohnjhaaW.PrintWords Go.Proofs.YtanhafkoohnjhaaW.PrintLast Go.Proofs.YtanhafkoohnjhaaW.PrintMore
attribute [local go_sem] max2_int min2_int max_two min_two max_three min_three max_four min_four   -- for this text's walks alone
set_option linter.unusedVariables false
set_option linter.unusedSimpArgs false

/-! ### compositorlaw13_TextReads: function 3 -/
def compositorlaw13_TextReads.f (k : Nat) (l0 : List Int) : Option (Bool) := (compositorlaw13_awake.f k).bind fun t222 => (if (l0.length : Int) > 2000 then (some t222) else ((text_Read.f k l0).bind fun bt223 => ((compositorref13_Read.f k l0).bind fun bt227 => ((compositorref13_Same.f k bt223.1 bt227.1).bind fun t231 => (if t222 = true then (if t231 = true then (some (bt223.2 == bt227.2)) else (none)) else (none))))))
theorem compositorlaw13_TextReads.mono : ∀ a0 k, LeO (compositorlaw13_TextReads.f k a0) (compositorlaw13_TextReads.f (k + 1) a0) := by
 intro a0 k
 unfold compositorlaw13_TextReads.f
 repeat' first
   | (with_reducible exact compositorlaw13_awake.mono _)
   | (with_reducible exact compositorref13_Read.mono _ _)
   | (with_reducible exact compositorref13_Same.mono _ _ _)
   | (with_reducible exact text_Read.mono _ _)
   | (with_reducible exact LeO.refl _)
   | (with_reducible exact LeO.none _)
   | (with_reducible refine LeO.ite ?_ ?_)
   | (with_reducible refine LeO.bind ?_ (fun _ => ?_))
   | exact compositorlaw13_awake.mono _
   | exact compositorref13_Read.mono _ _
   | exact compositorref13_Same.mono _ _ _
   | exact text_Read.mono _ _
   | exact LeO.none _
   | refine LeO.ite ?_ ?_
   | refine LeO.bind ?_ (fun _ => ?_)
set_option maxHeartbeats 8000000 in
set_option maxRecDepth 100000 in
theorem compositorlaw13_TextReads.calls (k : Nat) (A0 : Option Addr) (c0 : Nat) (l0 : List Int) (r : Bool) (w : World) (hr0 : Kd.C (Kd.int .u8) w A0 l0.length l0) (hc0 : l0.length ≤ c0) (h : compositorlaw13_TextReads.f k l0 = some r) :
  Calls Try.prog 3 #[.slice A0 l0.length c0] w fun e w' => e = .returned (.bool r) ∧ Below w.heap.size w w' := by
 have HR0 := Aside0.mk hr0
 have HC0 := Aside0.mk hc0
 clear hr0 hc0
 have HB := Aside0.mk (Below.refl w.heap.size w)
 have H : ((compositorlaw13_awake.f k).bind fun t222 => (if (l0.length : Int) > 2000 then (some t222) else ((text_Read.f k l0).bind fun bt223 => ((compositorref13_Read.f k l0).bind fun bt227 => ((compositorref13_Same.f k bt223.1 bt227.1).bind fun t231 => (if t222 = true then (if t231 = true then (some (bt223.2 == bt227.2)) else (none)) else (none))))))) = some r := h
 clear h
 replace H := Option.bind_eq_some_iff.mp H
 obtain ⟨t222, A20, H⟩ := H
 replace H : (if (l0.length : Int) > 2000 then (some t222) else ((text_Read.f k l0).bind fun bt223 => ((compositorref13_Read.f k l0).bind fun bt227 => ((compositorref13_Same.f k bt223.1 bt227.1).bind fun t231 => (if t222 = true then (if t231 = true then (some (bt223.2 == bt227.2)) else (none)) else (none)))))) = some r := H
 have A2 := Aside0.mk A20
 clear A20
 by_cases c3 : (l0.length : Int) > 2000
 ·rw [if_pos c3] at H
  have c3b0 : decide (2000 < (l0.length : Int)) = true := decide_eq_true c3
  have c3b1 : decide (2000 < l0.length) = true := decide_eq_true (by omega)
  clear c3
  obtain rfl := Option.some.inj H
  go_enter Try.func3, Try.ntmps3
  go_wp2_with (first | ((with_reducible refine gate_callee (f := 10) rfl ?_); refine goesL_ (some 9) rfl rfl Try.func10 (by kernel_rfl) rfl #[] rfl (by (try simp only [List.map_toArray, List.map_cons, List.map_nil]); first | done | rfl | (simp only [List.length_drop, List.length_take]; rfl)) ?_; (with_reducible refine (compositorlaw13_awake.calls k  t222 _ A2.out).mono ?_); rintro e w4 ⟨rfl, hb⟩; refine ⟨_, rfl, ?_⟩; have n0_ := Aside0.mk (below_step (by repeat (first | (with_reducible first | exact HB.out | apply below_alloc | apply pw_below_drewN | apply below_drew1) | exact HB.out)) hb); clear HB; have HB := n0_; clear n0_; (try clear hb); (try clear hb2); (try clear hk); (try clear hi)))
  go_ret
  exact ⟨by first | rfl | (simp [errW_none, errW_some] <;> rfl) | (simp [*, errW_none, errW_some] <;> rfl), by repeat (first | (with_reducible first | exact HB.out | apply below_alloc | apply pw_below_drewN | apply below_drew1) | exact HB.out)⟩
 ·rw [if_neg c3] at H
  have c3b0 : decide (2000 < (l0.length : Int)) = false := decide_eq_false c3
  have c3b1 : decide (2000 < l0.length) = false := decide_eq_false (by omega)
  clear c3
  replace H := Option.bind_eq_some_iff.mp H
  obtain ⟨⟨t223, t224⟩, A50, H⟩ := H
  replace H : ((compositorref13_Read.f k l0).bind fun bt227 => ((compositorref13_Same.f k t223 bt227.1).bind fun t231 => (if t222 = true then (if t231 = true then (some (t224 == bt227.2)) else (none)) else (none)))) = some r := H
  have A5 := Aside0.mk A50
  clear A50
  replace H := Option.bind_eq_some_iff.mp H
  obtain ⟨⟨t227, t228⟩, A60, H⟩ := H
  replace H : ((compositorref13_Same.f k t223 t227).bind fun t231 => (if t222 = true then (if t231 = true then (some (t224 == t228)) else (none)) else (none))) = some r := H
  have A6 := Aside0.mk A60
  clear A60
  replace H := Option.bind_eq_some_iff.mp H
  obtain ⟨t231, A70, H⟩ := H
  replace H : (if t222 = true then (if t231 = true then (some (t224 == t228)) else (none)) else (none)) = some r := H
  have A7 := Aside0.mk A70
  clear A70
  by_cases c8 : t222 = true
  ·subst c8
   have H1 : (if t231 = true then (some (t224 == t228)) else (none)) = some r := by rw [if_pos rfl] at H; exact H
   clear H
   have H := H1
   clear H1
   by_cases c9 : t231 = true
   ·subst c9
    have H1 : (some (t224 == t228)) = some r := by rw [if_pos rfl] at H; exact H
    clear H
    have H := H1
    clear H1
    obtain rfl := Option.some.inj H
    go_enter Try.func3, Try.ntmps3
    have tk_ : True := trivial
    go_wp2_with (first | (go_at_call 10; clear tk_; (with_reducible refine (compositorlaw13_awake.calls k  true _ A2.out).mono ?_); rintro e w10 ⟨rfl, hb⟩; have n0_ := Aside0.mk (below_step (by repeat (first | (with_reducible first | exact HB.out | apply below_alloc | apply pw_below_drewN | apply below_drew1) | exact HB.out)) hb); clear HB; have HB := n0_; clear n0_; (try clear hb); (try clear hb2); (try clear hk); (try clear hi)))
    as_aux_lemma =>
    have tk_ : True := trivial
    go_wp2_with (first | (go_at_call 11; clear tk_; (with_reducible refine (text_Read.calls k _ _ l0 t223 t224 _ ?side1 ?side2 A5.out).mono ?_); (case side1 => repeat (first | exact (Kd.C_below HR0.out HB.out) | (with_reducible apply Kd.C_alloc) | (with_reducible apply Kd.C_drewN) | (with_reducible apply Kd.C_drew))); (case side2 => exact HC0.out); rintro e w11 ⟨v225, rfl, ho0, hb⟩; have n0_ := Aside0.mk (Kd.S_lower ho0 (below_size (by repeat (first | (with_reducible first | exact HB.out | apply below_alloc | apply pw_below_drewN | apply below_drew1) | exact HB.out)))); have n1_ := Aside0.mk (below_step (by repeat (first | (with_reducible first | exact HB.out | apply below_alloc | apply pw_below_drewN | apply below_drew1) | exact HB.out)) hb); clear HB; have HO226 := n0_; have HB := n1_; clear n0_ n1_; (try clear hb); (try clear hb2); (try clear hk); (try clear hi); (try clear ho0)))
    as_aux_lemma =>
    have tk_ : True := trivial
    go_wp2_with (first | (go_at_call 12; clear tk_; (with_reducible refine (compositorref13_Read.calls k _ _ l0 t227 t228 _ ?side1 ?side2 A6.out).mono ?_); (case side1 => repeat (first | exact (Kd.C_below HR0.out HB.out) | (with_reducible apply Kd.C_alloc) | (with_reducible apply Kd.C_drewN) | (with_reducible apply Kd.C_drew))); (case side2 => exact HC0.out); rintro e w12 ⟨v229, rfl, ho0, hb⟩; have n0_ := Aside0.mk (Kd.S_elder' (by (with_reducible repeat (first | apply Kd.S_alloc | apply Kd.S_drewN | apply Kd.S_drew)); exact HO226.out) (Kd.S_base ho0) hb); have n1_ := Aside0.mk (Kd.S_lower (Kd.S_new' ho0 (Kd.S_lt (by (with_reducible repeat (first | apply Kd.S_alloc | apply Kd.S_drewN | apply Kd.S_drew)); exact HO226.out))) (below_size (by repeat (first | (with_reducible first | exact HB.out | apply below_alloc | apply pw_below_drewN | apply below_drew1) | exact HB.out)))); have n2_ := Aside0.mk (below_step (by repeat (first | (with_reducible first | exact HB.out | apply below_alloc | apply pw_below_drewN | apply below_drew1) | exact HB.out)) hb); clear HO226; clear HB; have HO226 := n0_; have HO230 := n1_; have HB := n2_; clear n0_ n1_ n2_; (try clear hb); (try clear hb2); (try clear hk); (try clear hi); (try clear ho0); obtain ⟨Ao13, co13, eo13⟩ := Kd.S_slice HO226.out; subst eo13; obtain ⟨Ao14, co14, eo14⟩ := Kd.S_slice HO230.out; subst eo14))
    as_aux_lemma =>
    have tk_ : True := trivial
    go_wp2_with (first | (go_at_call 13; clear tk_; (with_reducible refine (compositorref13_Same.calls k _ _ t223 _ _ t227 true _ ?side1 ?side2 ?side3 ?side4 A7.out).mono ?_); (case side1 => repeat (first | exact (Kd.S_reads' HO226.out).2.2 | (with_reducible apply Kd.C_alloc) | (with_reducible apply Kd.C_drewN) | (with_reducible apply Kd.C_drew))); (case side2 => exact (Kd.S_reads' HO226.out).2.1); (case side3 => repeat (first | exact (Kd.S_reads' HO230.out).2.2 | (with_reducible apply Kd.C_alloc) | (with_reducible apply Kd.C_drewN) | (with_reducible apply Kd.C_drew))); (case side4 => exact (Kd.S_reads' HO230.out).2.1); rintro e w' ⟨rfl, ⟨nd, rfl⟩⟩))
    go_ret
    exact ⟨by first | rfl | (simp [errW_none, errW_some] <;> rfl) | (simp [*, errW_none, errW_some] <;> rfl), by repeat (first | (with_reducible first | exact HB.out | apply below_alloc | apply pw_below_drewN | apply below_drew1) | exact HB.out)⟩
   ·replace c9 := Bool.eq_false_iff.mpr c9
    subst c9
    have H1 : (none) = some r := by rw [if_neg (show ¬ (false = true) by decide)] at H; exact H
    clear H
    have H := H1
    clear H1
    exact absurd H (by simp)
  ·replace c8 := Bool.eq_false_iff.mpr c8
   subst c8
   have H1 : (none) = some r := by rw [if_neg (show ¬ (false = true) by decide)] at H; exact H
   clear H
   have H := H1
   clear H1
   exact absurd H (by simp)

/-- THE ONE PURE STATEMENT of compositorlaw13_TextReads: yours. -/
def compositorlaw13_TextReads.PureP : Prop := ∀ (l0 : List Int), l0.length ≤ maxLen → l0.length * 1 ≤ 140737488351232 → (∀ x ∈ l0, (Lit.int .u8 x).wf = true) → ∃ k, compositorlaw13_TextReads.f k l0 = some true
theorem compositorlaw13_TextReads.walk (P : compositorlaw13_TextReads.PureP) (a0 : Option Addr) (len0 cap0 : Nat) (z0 : List Int) (w : World) (w0 : (a0 = none ∧ len0 = 0 ∧ cap0 = 0 ∧ z0 = []) ∨ ∃ x, a0 = some x ∧ len0 ≤ cap0 ∧ cap0 ≤ maxLen ∧ z0.length = cap0 ∧ (∀ i, i < z0.length → w.cell? (x.add i) = some (.int .u8 (z0.getD i 0))) ∧ ∀ n ∈ z0, (Lit.int .u8 n).wf = true) (y0 : len0 * 1 ≤ 140737488351232) :
  Calls Try.prog 3 #[.slice a0 len0 cap0] w fun e w' => e = .returned (.bool true) ∧ Below w.heap.size w w' := by
 obtain ⟨l0, rfl, hr0, hm0, hw0, hc0⟩ := ReadsInt.ofRowC w0
 obtain ⟨k, h⟩ := P l0 hm0 y0 hw0
 refine (compositorlaw13_TextReads.calls k _ _ l0 true w (Kd.C_of_reads (d := (0 : Int)) (h1 := fun _ => rfl) hr0) hc0 h).mono ?_
 rintro e w' ⟨rfl, hd⟩
 exact ⟨rfl, hd⟩

/-! ### compositorref13_Few: function 14 -/
def compositorref13_Few.l0 : Nat → List (S36) → Int → Option (Bool)
 | 0, _, _ => none
 | k + 1, x0, x3 => if x3 < (x0.length : Int) then (if 0 ≤ x3 then (if (((rd_T36 x0 x3).f0).length : Int) > 100 then (some false) else (if (((rd_T36 x0 x3).f1).length : Int) > 100 then (some false) else (compositorref13_Few.l0 k x0 (wrap64 (x3 + 1))))) else (none)) else (some true)
def compositorref13_Few.f (k : Nat) (l0 : List (S36)) : Option (Bool) := if (l0.length : Int) > 110 then (some false) else (compositorref13_Few.l0 k l0 0)
theorem compositorref13_Few.mono_l : ∀ k, (∀ y0 y1, LeO (compositorref13_Few.l0 k y0 y1) (compositorref13_Few.l0 (k + 1) y0 y1))
 | 0 => fun _ _ r h => by simp [compositorref13_Few.l0] at h
 | k + 1 => by
  have ih0 := compositorref13_Few.mono_l k
  ·intro y0 y1
   unfold compositorref13_Few.l0
   repeat' first
   | (with_reducible exact ih0 _ _)
   | (with_reducible exact LeO.refl _)
   | (with_reducible exact LeO.none _)
   | (with_reducible refine LeO.ite ?_ ?_)
   | (with_reducible refine LeO.bind ?_ (fun _ => ?_))
   | exact ih0 _ _
   | exact LeO.none _
   | refine LeO.ite ?_ ?_
   | refine LeO.bind ?_ (fun _ => ?_)
theorem compositorref13_Few.mono : ∀ a0 k, LeO (compositorref13_Few.f k a0) (compositorref13_Few.f (k + 1) a0) := by
 intro a0 k
 have ih0 := compositorref13_Few.mono_l k
 unfold compositorref13_Few.f
 repeat' first
   | (with_reducible exact ih0 _ _)
   | (with_reducible exact LeO.refl _)
   | (with_reducible exact LeO.none _)
   | (with_reducible refine LeO.ite ?_ ?_)
   | (with_reducible refine LeO.bind ?_ (fun _ => ?_))
   | exact ih0 _ _
   | exact LeO.none _
   | refine LeO.ite ?_ ?_
   | refine LeO.bind ?_ (fun _ => ?_)
set_option maxHeartbeats 8000000 in
set_option maxRecDepth 100000 in
theorem compositorref13_Few.calls (k : Nat) (A0 : Option Addr) (c0 : Nat) (l0 : List (S36)) (r : Bool) (w : World) (hr0 : Kd.C k36 w A0 l0.length l0) (hc0 : l0.length ≤ c0) (h : compositorref13_Few.f k l0 = some r) :
  Calls Try.prog 14 #[.slice A0 l0.length c0] w fun e w' => e = .returned (.bool r) ∧ Drawn0 w w' := by
 have HR0 := Aside0.mk hr0
 have HC0 := Aside0.mk hc0
 clear hr0 hc0
 have H : (if (l0.length : Int) > 110 then (some false) else (compositorref13_Few.l0 k l0 0)) = some r := h
 clear h
 by_cases c2 : (l0.length : Int) > 110
 ·rw [if_pos c2] at H
  have c2b0 : decide (110 < (l0.length : Int)) = true := decide_eq_true c2
  have c2b1 : decide (110 < l0.length) = true := decide_eq_true (by omega)
  clear c2
  obtain rfl := Option.some.inj H
  go_enter Try.func14, Try.ntmps14
  go_wp2
  go_ret
  exact ⟨by first | rfl | (simp; done) | (simp [*]; done), by repeat (first | exact Drawn0.refl _ | apply Drawn0.step)⟩
 ·rw [if_neg c2] at H
  have c2b0 : decide (110 < (l0.length : Int)) = false := decide_eq_false c2
  have c2b1 : decide (110 < l0.length) = false := decide_eq_false (by omega)
  clear c2
  have H' := Aside0.mk H
  clear H
  go_enter Try.func14, Try.ntmps14
  go_wp2
  go_loopg [3] k (fun kq v3 w' => ∃ (x3_1 : Int), v3 = .int .i64 x3_1 ∧ Aside0 (compositorref13_Few.l0 kq l0 x3_1 = some r) ∧ Aside0 (kq ≤ k) ∧ Drawn0 w w')
  case atStart => exact ⟨(0), (by first | rfl | (simp; done) | (simp [*]; done)), H', ⟨Nat.le_refl _⟩, by repeat (first | exact Drawn0.refl _ | apply Drawn0.step)⟩
  case round =>
   clear H'
   try clear c1
   try clear c2
   try clear c2b0
   try clear c2b1
   try clear p2
   obtain ⟨x3_1, rfl, HA, HK1, ⟨m1, rfl⟩⟩ := hrel
   cases gk with
   | zero => exact absurd HA.out (by simp [compositorref13_Few.l0])
   | succ k1 =>
    have H := HA.out
    clear HA
    simp only [compositorref13_Few.l0] at H
    by_cases c3 : x3_1 < (l0.length : Int)
    ·rw [if_pos c3] at H
     have c3b0 : decide (x3_1 < (l0.length : Int)) = true := decide_eq_true c3
     clear c3
     by_cases c4 : 0 ≤ x3_1
     ·rw [if_pos c4] at H
      have c4b0 : decide (0 ≤ x3_1) = true := decide_eq_true c4
      clear c4
      by_cases c5 : (((rd_T36 l0 x3_1).f0).length : Int) > 100
      ·rw [if_pos c5] at H
       have c5b0 : decide (100 < (((rd_T36 l0 x3_1).f0).length : Int)) = true := decide_eq_true c5
       have c5b1 : decide (100 < ((rd_T36 l0 x3_1).f0).length) = true := decide_eq_true (by omega)
       clear c5
       obtain rfl := Option.some.inj H
       have p232 : 0 ≤ (x3_1 : Int) := odt
       have q232 : x3_1 < (l0.length : Int) := odt
       obtain ⟨ad232, A232_0, c232_0, A232_1, c232_1, e232, hx232_0, hx232_1, hl232_0, hi232_0, hl232_1, hi232_1⟩ := at_T36 HR0.out x3_1 p232 q232
       cases e232
       have HR232_0 := Aside0.mk hi232_0
       have HC232_0 := Aside0.mk hl232_0
       clear hi232_0 hl232_0
       have HR232_1 := Aside0.mk hi232_1
       have HC232_1 := Aside0.mk hl232_1
       clear hi232_1 hl232_1
       replace p232 := eq_true p232
       replace q232 := eq_true q232
       go_wp2
       go_ret
       exact ⟨by first | rfl | (simp; done) | (simp [*]; done), by repeat (first | exact Drawn0.refl _ | apply Drawn0.step)⟩
      ·rw [if_neg c5] at H
       have c5b0 : decide (100 < (((rd_T36 l0 x3_1).f0).length : Int)) = false := decide_eq_false c5
       have c5b1 : decide (100 < ((rd_T36 l0 x3_1).f0).length) = false := decide_eq_false (by omega)
       clear c5
       by_cases c6 : (((rd_T36 l0 x3_1).f1).length : Int) > 100
       ·rw [if_pos c6] at H
        have c6b0 : decide (100 < (((rd_T36 l0 x3_1).f1).length : Int)) = true := decide_eq_true c6
        have c6b1 : decide (100 < ((rd_T36 l0 x3_1).f1).length) = true := decide_eq_true (by omega)
        clear c6
        obtain rfl := Option.some.inj H
        have p232 : 0 ≤ (x3_1 : Int) := odt
        have q232 : x3_1 < (l0.length : Int) := odt
        obtain ⟨ad232, A232_0, c232_0, A232_1, c232_1, e232, hx232_0, hx232_1, hl232_0, hi232_0, hl232_1, hi232_1⟩ := at_T36 HR0.out x3_1 p232 q232
        cases e232
        have HR232_0 := Aside0.mk hi232_0
        have HC232_0 := Aside0.mk hl232_0
        clear hi232_0 hl232_0
        have HR232_1 := Aside0.mk hi232_1
        have HC232_1 := Aside0.mk hl232_1
        clear hi232_1 hl232_1
        replace p232 := eq_true p232
        replace q232 := eq_true q232
        have p233 : 0 ≤ (x3_1 : Int) := odt
        have q233 : x3_1 < (l0.length : Int) := odt
        obtain ⟨ad233, A233_0, c233_0, A233_1, c233_1, e233, hx233_0, hx233_1, hl233_0, hi233_0, hl233_1, hi233_1⟩ := at_T36 HR0.out x3_1 p233 q233
        obtain rfl : ad232 = ad233 := (by injection e233)
        have HR233_0 := Aside0.mk hi233_0
        have HC233_0 := Aside0.mk hl233_0
        clear hi233_0 hl233_0
        have HR233_1 := Aside0.mk hi233_1
        have HC233_1 := Aside0.mk hl233_1
        clear hi233_1 hl233_1
        replace p233 := eq_true p233
        replace q233 := eq_true q233
        have ea_ := Option.some.inj (hx232_0.symm.trans hx233_0)
        injection ea_ with ea_ en_ ec_
        subst ea_
        subst ec_
        clear en_
        have ea_ := Option.some.inj (hx232_1.symm.trans hx233_1)
        injection ea_ with ea_ en_ ec_
        subst ea_
        subst ec_
        clear en_
        go_wp2
        go_ret
        exact ⟨by first | rfl | (simp; done) | (simp [*]; done), by repeat (first | exact Drawn0.refl _ | apply Drawn0.step)⟩
       ·rw [if_neg c6] at H
        have c6b0 : decide (100 < (((rd_T36 l0 x3_1).f1).length : Int)) = false := decide_eq_false c6
        have c6b1 : decide (100 < ((rd_T36 l0 x3_1).f1).length) = false := decide_eq_false (by omega)
        clear c6
        have H' := Aside0.mk H
        clear H
        have p232 : 0 ≤ (x3_1 : Int) := odt
        have q232 : x3_1 < (l0.length : Int) := odt
        obtain ⟨ad232, A232_0, c232_0, A232_1, c232_1, e232, hx232_0, hx232_1, hl232_0, hi232_0, hl232_1, hi232_1⟩ := at_T36 HR0.out x3_1 p232 q232
        cases e232
        have HR232_0 := Aside0.mk hi232_0
        have HC232_0 := Aside0.mk hl232_0
        clear hi232_0 hl232_0
        have HR232_1 := Aside0.mk hi232_1
        have HC232_1 := Aside0.mk hl232_1
        clear hi232_1 hl232_1
        replace p232 := eq_true p232
        replace q232 := eq_true q232
        have p233 : 0 ≤ (x3_1 : Int) := odt
        have q233 : x3_1 < (l0.length : Int) := odt
        obtain ⟨ad233, A233_0, c233_0, A233_1, c233_1, e233, hx233_0, hx233_1, hl233_0, hi233_0, hl233_1, hi233_1⟩ := at_T36 HR0.out x3_1 p233 q233
        obtain rfl : ad232 = ad233 := (by injection e233)
        have HR233_0 := Aside0.mk hi233_0
        have HC233_0 := Aside0.mk hl233_0
        clear hi233_0 hl233_0
        have HR233_1 := Aside0.mk hi233_1
        have HC233_1 := Aside0.mk hl233_1
        clear hi233_1 hl233_1
        replace p233 := eq_true p233
        replace q233 := eq_true q233
        have ea_ := Option.some.inj (hx232_0.symm.trans hx233_0)
        injection ea_ with ea_ en_ ec_
        subst ea_
        subst ec_
        clear en_
        have ea_ := Option.some.inj (hx232_1.symm.trans hx233_1)
        injection ea_ with ea_ en_ ec_
        subst ea_
        subst ec_
        clear en_
        go_wp2
        go_roundg k1
        case measure => have := HK1.out; omega
        case rel => exact ⟨(wrap64 (x3_1 + 1)), (by first | rfl | (simp; done) | (simp [*]; done)), H', ⟨by have := HK1.out; omega⟩, by repeat (first | exact Drawn0.refl _ | apply Drawn0.step)⟩
     ·rw [if_neg c4] at H
      exact absurd H (by simp)
    ·rw [if_neg c3] at H
     have c3b0 : decide (x3_1 < (l0.length : Int)) = false := decide_eq_false c3
     clear c3
     obtain rfl := Option.some.inj H
     go_wp2
     go_ret
     exact ⟨by first | rfl | (simp; done) | (simp [*]; done), by repeat (first | exact Drawn0.refl _ | apply Drawn0.step)⟩

end Go.Proofs.Ytanhafkoohnjhaa.G
