/- Contracts of the functions of this seat: what each call computes, as a plain Lean function. Made by this session's own generator. -/
import Derived.Test.YtihiiidbhhlfnaaGx0
import Derived.Test.YtihiiidbhhlfnaaGx9
import Derived.Test.YtihiiidbhhlfnaaGx11
import Derived.Test.YtihiiidbhhlfnaaGx12
import Derived.Test.YtihiiidbhhlfnaaGx20
namespace Go.Proofs.Ytihiiidbhhlfnaa.G
open Go.RowKit Go.Proofs.YtihiiidbhhlfnaaMy Go.Proofs.YtihiiidbhhlfnaaW.PrintWords Go.Proofs.YtihiiidbhhlfnaaW.PrintLast Go.Proofs.YtihiiidbhhlfnaaW.PrintMore
attribute [local go_sem] max2_int min2_int max_two min_two max_three min_three max_four min_four   -- for this text's walks alone
set_option linter.unusedVariables false
set_option linter.unusedSimpArgs false

/-! ### compositorlaw23_ShipReads: function 4 -/
def compositorlaw23_ShipReads.f (k : Nat) (l0 : List Int) : Option (Bool) := (compositorlaw23_awake.f k).bind fun t334 => (if (l0.length : Int) > 5000 then (some t334) else ((ship_Read.f k l0).bind fun bt335 => ((compositorref23_Read.f k l0).bind fun bt339 => ((compositorref19_All.f k bt335.1 bt339.1).bind fun t343 => (if t334 = true then (if t343 = true then (some (bt335.2 == bt339.2)) else (none)) else (none))))))
theorem compositorlaw23_ShipReads.mono : ∀ a0 k, LeO (compositorlaw23_ShipReads.f k a0) (compositorlaw23_ShipReads.f (k + 1) a0) := by
 intro a0 k
 unfold compositorlaw23_ShipReads.f
 repeat' first
   | (with_reducible exact compositorlaw23_awake.mono _)
   | (with_reducible exact compositorref19_All.mono _ _ _)
   | (with_reducible exact compositorref23_Read.mono _ _)
   | (with_reducible exact ship_Read.mono _ _)
   | (with_reducible exact LeO.refl _)
   | (with_reducible exact LeO.none _)
   | (with_reducible refine LeO.ite ?_ ?_)
   | (with_reducible refine LeO.bind ?_ (fun _ => ?_))
   | exact compositorlaw23_awake.mono _
   | exact compositorref19_All.mono _ _ _
   | exact compositorref23_Read.mono _ _
   | exact ship_Read.mono _ _
   | exact LeO.none _
   | refine LeO.ite ?_ ?_
   | refine LeO.bind ?_ (fun _ => ?_)
set_option maxHeartbeats 8000000 in
set_option maxRecDepth 100000 in
theorem compositorlaw23_ShipReads.calls (k : Nat) (A0 : Option Addr) (c0 : Nat) (l0 : List Int) (r : Bool) (w : World) (hr0 : Kd.C (Kd.int .u8) w A0 l0.length l0) (hc0 : l0.length ≤ c0) (h : compositorlaw23_ShipReads.f k l0 = some r) :
  Calls Try.prog 4 #[.slice A0 l0.length c0] w fun e w' => e = .returned (.bool r) ∧ Below w.heap.size w w' := by
 have HR0 := Aside0.mk hr0
 have HC0 := Aside0.mk hc0
 clear hr0 hc0
 have HB := Aside0.mk (Below.refl w.heap.size w)
 have H : ((compositorlaw23_awake.f k).bind fun t334 => (if (l0.length : Int) > 5000 then (some t334) else ((ship_Read.f k l0).bind fun bt335 => ((compositorref23_Read.f k l0).bind fun bt339 => ((compositorref19_All.f k bt335.1 bt339.1).bind fun t343 => (if t334 = true then (if t343 = true then (some (bt335.2 == bt339.2)) else (none)) else (none))))))) = some r := h
 clear h
 replace H := Option.bind_eq_some_iff.mp H
 obtain ⟨t334, A20, H⟩ := H
 replace H : (if (l0.length : Int) > 5000 then (some t334) else ((ship_Read.f k l0).bind fun bt335 => ((compositorref23_Read.f k l0).bind fun bt339 => ((compositorref19_All.f k bt335.1 bt339.1).bind fun t343 => (if t334 = true then (if t343 = true then (some (bt335.2 == bt339.2)) else (none)) else (none)))))) = some r := H
 have A2 := Aside0.mk A20
 clear A20
 by_cases c3 : (l0.length : Int) > 5000
 ·rw [if_pos c3] at H
  have c3b0 : decide (5000 < (l0.length : Int)) = true := decide_eq_true c3
  have c3b1 : decide (5000 < l0.length) = true := decide_eq_true (by omega)
  clear c3
  obtain rfl := Option.some.inj H
  go_enter Try.func4, Try.ntmps4
  go_wp2_with (first | ((with_reducible refine gate_callee (f := 7) rfl ?_); refine goesL_ (some 9) rfl rfl Try.func7 (by kernel_rfl) rfl #[] rfl (by (try simp only [List.map_toArray, List.map_cons, List.map_nil]); first | done | rfl | (simp only [List.length_drop, List.length_take]; rfl)) ?_; (with_reducible refine (compositorlaw23_awake.calls k  t334 _ A2.out).mono ?_); rintro e w4 ⟨rfl, hb⟩; refine ⟨_, rfl, ?_⟩; have n0_ := Aside0.mk (below_step (by repeat (first | (with_reducible first | exact HB.out | apply below_alloc | apply pw_below_drewN | apply below_drew1) | exact HB.out)) hb); clear HB; have HB := n0_; clear n0_; (try clear hb); (try clear hb2); (try clear hk); (try clear hi)))
  go_ret
  exact ⟨by first | rfl | (simp [errW_none, errW_some] <;> rfl) | (simp [*, errW_none, errW_some] <;> rfl), by repeat (first | (with_reducible first | exact HB.out | apply below_alloc | apply pw_below_drewN | apply below_drew1) | exact HB.out)⟩
 ·rw [if_neg c3] at H
  have c3b0 : decide (5000 < (l0.length : Int)) = false := decide_eq_false c3
  have c3b1 : decide (5000 < l0.length) = false := decide_eq_false (by omega)
  clear c3
  replace H := Option.bind_eq_some_iff.mp H
  obtain ⟨⟨t335, t336⟩, A50, H⟩ := H
  replace H : ((compositorref23_Read.f k l0).bind fun bt339 => ((compositorref19_All.f k t335 bt339.1).bind fun t343 => (if t334 = true then (if t343 = true then (some (t336 == bt339.2)) else (none)) else (none)))) = some r := H
  have A5 := Aside0.mk A50
  clear A50
  replace H := Option.bind_eq_some_iff.mp H
  obtain ⟨⟨t339, t340⟩, A60, H⟩ := H
  replace H : ((compositorref19_All.f k t335 t339).bind fun t343 => (if t334 = true then (if t343 = true then (some (t336 == t340)) else (none)) else (none))) = some r := H
  have A6 := Aside0.mk A60
  clear A60
  replace H := Option.bind_eq_some_iff.mp H
  obtain ⟨t343, A70, H⟩ := H
  replace H : (if t334 = true then (if t343 = true then (some (t336 == t340)) else (none)) else (none)) = some r := H
  have A7 := Aside0.mk A70
  clear A70
  by_cases c8 : t334 = true
  ·subst c8
   have H1 : (if t343 = true then (some (t336 == t340)) else (none)) = some r := by rw [if_pos rfl] at H; exact H
   clear H
   have H := H1
   clear H1
   by_cases c9 : t343 = true
   ·subst c9
    have H1 : (some (t336 == t340)) = some r := by rw [if_pos rfl] at H; exact H
    clear H
    have H := H1
    clear H1
    obtain rfl := Option.some.inj H
    go_enter Try.func4, Try.ntmps4
    have tk_ : True := trivial
    go_wp2_with (first | (go_at_call 7; clear tk_; (with_reducible refine (compositorlaw23_awake.calls k  true _ A2.out).mono ?_); rintro e w10 ⟨rfl, hb⟩; have n0_ := Aside0.mk (below_step (by repeat (first | (with_reducible first | exact HB.out | apply below_alloc | apply pw_below_drewN | apply below_drew1) | exact HB.out)) hb); clear HB; have HB := n0_; clear n0_; (try clear hb); (try clear hb2); (try clear hk); (try clear hi)))
    as_aux_lemma =>
    have tk_ : True := trivial
    go_wp2_with (first | (go_at_call 16; clear tk_; (with_reducible refine (ship_Read.calls k _ _ l0 t335 t336 _ ?side1 ?side2 A5.out).mono ?_); (case side1 => repeat (first | exact (Kd.C_below HR0.out HB.out) | (with_reducible apply Kd.C_alloc) | (with_reducible apply Kd.C_drewN) | (with_reducible apply Kd.C_drew))); (case side2 => exact HC0.out); rintro e w11 ⟨v337, rfl, ho0, hb⟩; have n0_ := Aside0.mk (Kd.S_lower ho0 (below_size (by repeat (first | (with_reducible first | exact HB.out | apply below_alloc | apply pw_below_drewN | apply below_drew1) | exact HB.out)))); have n1_ := Aside0.mk (below_step (by repeat (first | (with_reducible first | exact HB.out | apply below_alloc | apply pw_below_drewN | apply below_drew1) | exact HB.out)) hb); clear HB; have HO338 := n0_; have HB := n1_; clear n0_ n1_; (try clear hb); (try clear hb2); (try clear hk); (try clear hi); (try clear ho0)))
    as_aux_lemma =>
    have tk_ : True := trivial
    go_wp2_with (first | (go_at_call 17; clear tk_; (with_reducible refine (compositorref23_Read.calls k _ _ l0 t339 t340 _ ?side1 ?side2 A6.out).mono ?_); (case side1 => repeat (first | exact (Kd.C_below HR0.out HB.out) | (with_reducible apply Kd.C_alloc) | (with_reducible apply Kd.C_drewN) | (with_reducible apply Kd.C_drew))); (case side2 => exact HC0.out); rintro e w12 ⟨v341, rfl, ho0, hb⟩; have n0_ := Aside0.mk (Kd.S_elder' (by (with_reducible repeat (first | apply Kd.S_alloc | apply Kd.S_drewN | apply Kd.S_drew)); exact HO338.out) (Kd.S_base ho0) hb); have n1_ := Aside0.mk (Kd.S_lower (Kd.S_new' ho0 (Kd.S_lt (by (with_reducible repeat (first | apply Kd.S_alloc | apply Kd.S_drewN | apply Kd.S_drew)); exact HO338.out))) (below_size (by repeat (first | (with_reducible first | exact HB.out | apply below_alloc | apply pw_below_drewN | apply below_drew1) | exact HB.out)))); have n2_ := Aside0.mk (below_step (by repeat (first | (with_reducible first | exact HB.out | apply below_alloc | apply pw_below_drewN | apply below_drew1) | exact HB.out)) hb); clear HO338; clear HB; have HO338 := n0_; have HO342 := n1_; have HB := n2_; clear n0_ n1_ n2_; (try clear hb); (try clear hb2); (try clear hk); (try clear hi); (try clear ho0); obtain ⟨Ao13, co13, eo13⟩ := Kd.S_slice HO338.out; subst eo13; obtain ⟨Ao14, co14, eo14⟩ := Kd.S_slice HO342.out; subst eo14))
    as_aux_lemma =>
    have tk_ : True := trivial
    go_wp2_with (first | (go_at_call 18; clear tk_; (with_reducible refine (compositorref19_All.calls k _ _ t335 _ _ t339 true _ ?side1 ?side2 ?side3 ?side4 A7.out).mono ?_); (case side1 => repeat (first | exact (Kd.S_reads' HO338.out).2.2 | (with_reducible apply Kd.C_alloc) | (with_reducible apply Kd.C_drewN) | (with_reducible apply Kd.C_drew))); (case side2 => exact (Kd.S_reads' HO338.out).2.1); (case side3 => repeat (first | exact (Kd.S_reads' HO342.out).2.2 | (with_reducible apply Kd.C_alloc) | (with_reducible apply Kd.C_drewN) | (with_reducible apply Kd.C_drew))); (case side4 => exact (Kd.S_reads' HO342.out).2.1); rintro e w15 ⟨rfl, hb⟩; have n0_ := Aside0.mk (Kd.S_below (by (with_reducible repeat (first | apply Kd.S_alloc | apply Kd.S_drewN | apply Kd.S_drew)); exact HO338.out) hb); have n1_ := Aside0.mk (Kd.S_below (by (with_reducible repeat (first | apply Kd.S_alloc | apply Kd.S_drewN | apply Kd.S_drew)); exact HO342.out) hb); have n2_ := Aside0.mk (below_step (by repeat (first | (with_reducible first | exact HB.out | apply below_alloc | apply pw_below_drewN | apply below_drew1) | exact HB.out)) hb); clear HO338; clear HO342; clear HB; have HO338 := n0_; have HO342 := n1_; have HB := n2_; clear n0_ n1_ n2_; (try clear hb); (try clear hb2); (try clear hk); (try clear hi)))
    go_ret
    exact ⟨by first | rfl | (simp [errW_none, errW_some] <;> rfl) | (simp [*, errW_none, errW_some] <;> rfl), by repeat (first | (with_reducible first | exact HB.out | apply below_alloc | apply pw_below_drewN | apply below_drew1) | exact HB.out)⟩
   ·replace c9 := Bool.eq_false_iff.mpr c9
    subst c9
    have H1 : (none) = some r := by rw [if_neg (show ¬ (false = true) by decide)] at H; exact H
    clear H
    have H := H1
    clear H1
    exact absurd H (by simp)
  ·replace c8 := Bool.eq_false_iff.mpr c8
   subst c8
   have H1 : (none) = some r := by rw [if_neg (show ¬ (false = true) by decide)] at H; exact H
   clear H
   have H := H1
   clear H1
   exact absurd H (by simp)

/-- THE ONE PURE STATEMENT of compositorlaw23_ShipReads: yours. -/
def compositorlaw23_ShipReads.PureP : Prop := ∀ (l0 : List Int), l0.length ≤ maxLen → l0.length * 1 ≤ 140737488351232 → (∀ x ∈ l0, (Lit.int .u8 x).wf = true) → ∃ k, compositorlaw23_ShipReads.f k l0 = some true
theorem compositorlaw23_ShipReads.walk (P : compositorlaw23_ShipReads.PureP) (a0 : Option Addr) (len0 cap0 : Nat) (z0 : List Int) (w : World) (w0 : (a0 = none ∧ len0 = 0 ∧ cap0 = 0 ∧ z0 = []) ∨ ∃ x, a0 = some x ∧ len0 ≤ cap0 ∧ cap0 ≤ maxLen ∧ z0.length = cap0 ∧ (∀ i, i < z0.length → w.cell? (x.add i) = some (.int .u8 (z0.getD i 0))) ∧ ∀ n ∈ z0, (Lit.int .u8 n).wf = true) (y0 : len0 * 1 ≤ 140737488351232) :
  Calls Try.prog 4 #[.slice a0 len0 cap0] w fun e w' => e = .returned (.bool true) ∧ Below w.heap.size w w' := by
 obtain ⟨l0, rfl, hr0, hm0, hw0, hc0⟩ := ReadsInt.ofRowC w0
 obtain ⟨k, h⟩ := P l0 hm0 y0 hw0
 refine (compositorlaw23_ShipReads.calls k _ _ l0 true w (Kd.C_of_reads (d := (0 : Int)) (h1 := fun _ => rfl) hr0) hc0 h).mono ?_
 rintro e w' ⟨rfl, hd⟩
 exact ⟨rfl, hd⟩

end Go.Proofs.Ytihiiidbhhlfnaa.G
