/- Contracts of the functions of this seat: what each call computes, as a plain Lean function. Made by this session's own generator. -/
import Derived.Test.YtihiiidbhhlfnaaGx0
import Derived.Test.YtihiiidbhhlfnaaGx3
import Derived.Test.YtihiiidbhhlfnaaGx5
import Derived.Test.YtihiiidbhhlfnaaGx6
import Derived.Test.YtihiiidbhhlfnaaGx12
import Derived.Test.YtihiiidbhhlfnaaGx13
import Derived.Test.YtihiiidbhhlfnaaGx14
import Derived.Test.YtihiiidbhhlfnaaGx16
import Derived.Test.YtihiiidbhhlfnaaGx17
namespace Go.Proofs.Ytihiiidbhhlfnaa.G
open Go.RowKit Go.Proofs.YtihiiidbhhlfnaaMy Go.Proofs.YtihiiidbhhlfnaaW.PrintWords Go.Proofs.YtihiiidbhhlfnaaW.PrintLast Go.Proofs.YtihiiidbhhlfnaaW.PrintMore
attribute [local go_sem] max2_int min2_int max_two min_two max_three min_three max_four min_four   -- for this text's walks alone
set_option linter.unusedVariables false
set_option linter.unusedSimpArgs false

/-! ### compositorlaw23_ShipWrites: function 3 -/
def compositorlaw23_ShipWrites.f (k : Nat) (l0 : List (S41)) : Option (Bool) := (compositorlaw23_awake.f k).bind fun t269 => ((compositorref23_Few.f k l0).bind fun t270 => (if t270 = true then ((ship_Write.f k l0).bind fun bt271 => ((compositorref23_Write.f k l0).bind fun bt275 => ((ship_Report.f k l0).bind fun bt279 => ((compositorref23_Report.f k l0).bind fun bt285 => (if t269 = true then ((ship_Check.f l0).bind fun t291 => ((compositorref23_Check.f k l0).bind fun t292 => (if (t291 == t292) = true then (if (strOfNums bt271.1).toList = (strOfNums bt275.1).toList then (if bt271.2 = bt275.2 then ((compositorref04_Same.f k bt279.1 bt285.1).bind fun t293 => (if t293 = true then ((compositorref04_Same.f k bt279.2 bt285.2).bind fun t294 => (some t294)) else (none))) else (none)) else (none)) else (none)))) else (none)))))) else (some t269)))
theorem compositorlaw23_ShipWrites.mono : ∀ a0 k, LeO (compositorlaw23_ShipWrites.f k a0) (compositorlaw23_ShipWrites.f (k + 1) a0) := by
 intro a0 k
 unfold compositorlaw23_ShipWrites.f
 repeat' first
   | (with_reducible exact compositorlaw23_awake.mono _)
   | (with_reducible exact compositorref04_Same.mono _ _ _)
   | (with_reducible exact compositorref23_Check.mono _ _)
   | (with_reducible exact compositorref23_Few.mono _ _)
   | (with_reducible exact compositorref23_Report.mono _ _)
   | (with_reducible exact compositorref23_Write.mono _ _)
   | (with_reducible exact ship_Report.mono _ _)
   | (with_reducible exact ship_Write.mono _ _)
   | (with_reducible exact LeO.refl _)
   | (with_reducible exact LeO.none _)
   | (with_reducible refine LeO.ite ?_ ?_)
   | (with_reducible refine LeO.bind ?_ (fun _ => ?_))
   | exact compositorlaw23_awake.mono _
   | exact compositorref04_Same.mono _ _ _
   | exact compositorref23_Check.mono _ _
   | exact compositorref23_Few.mono _ _
   | exact compositorref23_Report.mono _ _
   | exact compositorref23_Write.mono _ _
   | exact ship_Report.mono _ _
   | exact ship_Write.mono _ _
   | exact LeO.none _
   | refine LeO.ite ?_ ?_
   | refine LeO.bind ?_ (fun _ => ?_)
set_option maxHeartbeats 8000000 in
set_option maxRecDepth 100000 in
theorem compositorlaw23_ShipWrites.calls (k : Nat) (A0 : Option Addr) (c0 : Nat) (l0 : List (S41)) (r : Bool) (w : World) (hr0 : Kd.C k41 w A0 l0.length l0) (hc0 : l0.length ≤ c0) (h : compositorlaw23_ShipWrites.f k l0 = some r) :
  Calls Try.prog 3 #[.slice A0 l0.length c0] w fun e w' => e = .returned (.bool r) ∧ Below w.heap.size w w' := by
 have HR0 := Aside0.mk hr0
 have HC0 := Aside0.mk hc0
 clear hr0 hc0
 have HB := Aside0.mk (Below.refl w.heap.size w)
 have H : ((compositorlaw23_awake.f k).bind fun t269 => ((compositorref23_Few.f k l0).bind fun t270 => (if t270 = true then ((ship_Write.f k l0).bind fun bt271 => ((compositorref23_Write.f k l0).bind fun bt275 => ((ship_Report.f k l0).bind fun bt279 => ((compositorref23_Report.f k l0).bind fun bt285 => (if t269 = true then ((ship_Check.f l0).bind fun t291 => ((compositorref23_Check.f k l0).bind fun t292 => (if (t291 == t292) = true then (if (strOfNums bt271.1).toList = (strOfNums bt275.1).toList then (if bt271.2 = bt275.2 then ((compositorref04_Same.f k bt279.1 bt285.1).bind fun t293 => (if t293 = true then ((compositorref04_Same.f k bt279.2 bt285.2).bind fun t294 => (some t294)) else (none))) else (none)) else (none)) else (none)))) else (none)))))) else (some t269)))) = some r := h
 clear h
 replace H := Option.bind_eq_some_iff.mp H
 obtain ⟨t269, A20, H⟩ := H
 replace H : ((compositorref23_Few.f k l0).bind fun t270 => (if t270 = true then ((ship_Write.f k l0).bind fun bt271 => ((compositorref23_Write.f k l0).bind fun bt275 => ((ship_Report.f k l0).bind fun bt279 => ((compositorref23_Report.f k l0).bind fun bt285 => (if t269 = true then ((ship_Check.f l0).bind fun t291 => ((compositorref23_Check.f k l0).bind fun t292 => (if (t291 == t292) = true then (if (strOfNums bt271.1).toList = (strOfNums bt275.1).toList then (if bt271.2 = bt275.2 then ((compositorref04_Same.f k bt279.1 bt285.1).bind fun t293 => (if t293 = true then ((compositorref04_Same.f k bt279.2 bt285.2).bind fun t294 => (some t294)) else (none))) else (none)) else (none)) else (none)))) else (none)))))) else (some t269))) = some r := H
 have A2 := Aside0.mk A20
 clear A20
 replace H := Option.bind_eq_some_iff.mp H
 obtain ⟨t270, A30, H⟩ := H
 replace H : (if t270 = true then ((ship_Write.f k l0).bind fun bt271 => ((compositorref23_Write.f k l0).bind fun bt275 => ((ship_Report.f k l0).bind fun bt279 => ((compositorref23_Report.f k l0).bind fun bt285 => (if t269 = true then ((ship_Check.f l0).bind fun t291 => ((compositorref23_Check.f k l0).bind fun t292 => (if (t291 == t292) = true then (if (strOfNums bt271.1).toList = (strOfNums bt275.1).toList then (if bt271.2 = bt275.2 then ((compositorref04_Same.f k bt279.1 bt285.1).bind fun t293 => (if t293 = true then ((compositorref04_Same.f k bt279.2 bt285.2).bind fun t294 => (some t294)) else (none))) else (none)) else (none)) else (none)))) else (none)))))) else (some t269)) = some r := H
 have A3 := Aside0.mk A30
 clear A30
 by_cases c4 : t270 = true
 ·subst c4
  have H1 : ((ship_Write.f k l0).bind fun bt271 => ((compositorref23_Write.f k l0).bind fun bt275 => ((ship_Report.f k l0).bind fun bt279 => ((compositorref23_Report.f k l0).bind fun bt285 => (if t269 = true then ((ship_Check.f l0).bind fun t291 => ((compositorref23_Check.f k l0).bind fun t292 => (if (t291 == t292) = true then (if (strOfNums bt271.1).toList = (strOfNums bt275.1).toList then (if bt271.2 = bt275.2 then ((compositorref04_Same.f k bt279.1 bt285.1).bind fun t293 => (if t293 = true then ((compositorref04_Same.f k bt279.2 bt285.2).bind fun t294 => (some t294)) else (none))) else (none)) else (none)) else (none)))) else (none)))))) = some r := by rw [if_pos rfl] at H; exact H
  clear H
  have H := H1
  clear H1
  replace H := Option.bind_eq_some_iff.mp H
  obtain ⟨⟨t271, t272⟩, A50, H⟩ := H
  replace H : ((compositorref23_Write.f k l0).bind fun bt275 => ((ship_Report.f k l0).bind fun bt279 => ((compositorref23_Report.f k l0).bind fun bt285 => (if t269 = true then ((ship_Check.f l0).bind fun t291 => ((compositorref23_Check.f k l0).bind fun t292 => (if (t291 == t292) = true then (if (strOfNums t271).toList = (strOfNums bt275.1).toList then (if t272 = bt275.2 then ((compositorref04_Same.f k bt279.1 bt285.1).bind fun t293 => (if t293 = true then ((compositorref04_Same.f k bt279.2 bt285.2).bind fun t294 => (some t294)) else (none))) else (none)) else (none)) else (none)))) else (none))))) = some r := H
  have A5 := Aside0.mk A50
  clear A50
  replace H := Option.bind_eq_some_iff.mp H
  obtain ⟨⟨t275, t276⟩, A60, H⟩ := H
  replace H : ((ship_Report.f k l0).bind fun bt279 => ((compositorref23_Report.f k l0).bind fun bt285 => (if t269 = true then ((ship_Check.f l0).bind fun t291 => ((compositorref23_Check.f k l0).bind fun t292 => (if (t291 == t292) = true then (if (strOfNums t271).toList = (strOfNums t275).toList then (if t272 = t276 then ((compositorref04_Same.f k bt279.1 bt285.1).bind fun t293 => (if t293 = true then ((compositorref04_Same.f k bt279.2 bt285.2).bind fun t294 => (some t294)) else (none))) else (none)) else (none)) else (none)))) else (none)))) = some r := H
  have A6 := Aside0.mk A60
  clear A60
  replace H := Option.bind_eq_some_iff.mp H
  obtain ⟨⟨t279, t280⟩, A70, H⟩ := H
  replace H : ((compositorref23_Report.f k l0).bind fun bt285 => (if t269 = true then ((ship_Check.f l0).bind fun t291 => ((compositorref23_Check.f k l0).bind fun t292 => (if (t291 == t292) = true then (if (strOfNums t271).toList = (strOfNums t275).toList then (if t272 = t276 then ((compositorref04_Same.f k t279 bt285.1).bind fun t293 => (if t293 = true then ((compositorref04_Same.f k t280 bt285.2).bind fun t294 => (some t294)) else (none))) else (none)) else (none)) else (none)))) else (none))) = some r := H
  have A7 := Aside0.mk A70
  clear A70
  replace H := Option.bind_eq_some_iff.mp H
  obtain ⟨⟨t285, t286⟩, A80, H⟩ := H
  replace H : (if t269 = true then ((ship_Check.f l0).bind fun t291 => ((compositorref23_Check.f k l0).bind fun t292 => (if (t291 == t292) = true then (if (strOfNums t271).toList = (strOfNums t275).toList then (if t272 = t276 then ((compositorref04_Same.f k t279 t285).bind fun t293 => (if t293 = true then ((compositorref04_Same.f k t280 t286).bind fun t294 => (some t294)) else (none))) else (none)) else (none)) else (none)))) else (none)) = some r := H
  have A8 := Aside0.mk A80
  clear A80
  by_cases c9 : t269 = true
  ·subst c9
   have H1 : ((ship_Check.f l0).bind fun t291 => ((compositorref23_Check.f k l0).bind fun t292 => (if (t291 == t292) = true then (if (strOfNums t271).toList = (strOfNums t275).toList then (if t272 = t276 then ((compositorref04_Same.f k t279 t285).bind fun t293 => (if t293 = true then ((compositorref04_Same.f k t280 t286).bind fun t294 => (some t294)) else (none))) else (none)) else (none)) else (none)))) = some r := by rw [if_pos rfl] at H; exact H
   clear H
   have H := H1
   clear H1
   replace H := Option.bind_eq_some_iff.mp H
   obtain ⟨t291, A100, H⟩ := H
   replace H : ((compositorref23_Check.f k l0).bind fun t292 => (if (t291 == t292) = true then (if (strOfNums t271).toList = (strOfNums t275).toList then (if t272 = t276 then ((compositorref04_Same.f k t279 t285).bind fun t293 => (if t293 = true then ((compositorref04_Same.f k t280 t286).bind fun t294 => (some t294)) else (none))) else (none)) else (none)) else (none))) = some r := H
   have A10 := Aside0.mk A100
   clear A100
   replace H := Option.bind_eq_some_iff.mp H
   obtain ⟨t292, A110, H⟩ := H
   replace H : (if (t291 == t292) = true then (if (strOfNums t271).toList = (strOfNums t275).toList then (if t272 = t276 then ((compositorref04_Same.f k t279 t285).bind fun t293 => (if t293 = true then ((compositorref04_Same.f k t280 t286).bind fun t294 => (some t294)) else (none))) else (none)) else (none)) else (none)) = some r := H
   have A11 := Aside0.mk A110
   clear A110
   by_cases c12 : (t291 == t292) = true
   ·rw [if_pos c12] at H
    have c12b0 : (t291 == t292) = true := c12
    (try (have c12b1 : decide (t291 = t292) = true := by simpa using c12))
    (try (have c12b2 : (t291 == t292) = true := by simpa using c12))
    clear c12
    by_cases c13 : (strOfNums t271).toList = (strOfNums t275).toList
    ·rw [if_pos c13] at H
     have c13b0 : ((strOfNums t271).toList == (strOfNums t275).toList) = true := beq_iff_eq.mpr c13
     have c13b1 : ((strOfNums t271).toList != (strOfNums t275).toList) = false := bne_eq_false_iff_eq.mpr c13
     clear c13
     by_cases c14 : t272 = t276
     ·rw [if_pos c14] at H
      have c14b0 : (t272 == t276) = true := beq_iff_eq.mpr c14
      have c14b1 : (t272 != t276) = false := bne_eq_false_iff_eq.mpr c14
      clear c14
      replace H := Option.bind_eq_some_iff.mp H
      obtain ⟨t293, A150, H⟩ := H
      replace H : (if t293 = true then ((compositorref04_Same.f k t280 t286).bind fun t294 => (some t294)) else (none)) = some r := H
      have A15 := Aside0.mk A150
      clear A150
      by_cases c16 : t293 = true
      ·subst c16
       have H1 : ((compositorref04_Same.f k t280 t286).bind fun t294 => (some t294)) = some r := by rw [if_pos rfl] at H; exact H
       clear H
       have H := H1
       clear H1
       replace H := Option.bind_eq_some_iff.mp H
       obtain ⟨t294, A170, H⟩ := H
       replace H : (some t294) = some r := H
       have A17 := Aside0.mk A170
       clear A170
       obtain rfl := Option.some.inj H
       go_enter Try.func3, Try.ntmps3
       have tk_ : True := trivial
       go_wp2_with (first | (go_at_call 7; clear tk_; (with_reducible refine (compositorlaw23_awake.calls k  true _ A2.out).mono ?_); rintro e w18 ⟨rfl, hb⟩; have n0_ := Aside0.mk (below_step (by repeat (first | (with_reducible first | exact HB.out | apply below_alloc | apply pw_below_drewN | apply below_drew1) | exact HB.out)) hb); clear HB; have HB := n0_; clear n0_; (try clear hb); (try clear hb2); (try clear hk); (try clear hi)))
       as_aux_lemma =>
       have tk_ : True := trivial
       go_wp2_with (first | (go_at_call 8; clear tk_; (with_reducible refine (compositorref23_Few.calls k _ _ l0 true _ ?side1 ?side2 A3.out).mono ?_); (case side1 => repeat (first | exact (Kd.C_below HR0.out HB.out) | (with_reducible apply Kd.C_alloc) | (with_reducible apply Kd.C_drewN) | (with_reducible apply Kd.C_drew))); (case side2 => exact HC0.out); rintro e w' ⟨rfl, ⟨nd, rfl⟩⟩))
       as_aux_lemma =>
       have tk_ : True := trivial
       go_wp2_with (first | (go_at_call 9; clear tk_; (with_reducible refine (ship_Write.calls k _ _ l0 t271 t272 _ ?side1 ?side2 A5.out).mono ?_); (case side1 => repeat (first | exact (Kd.C_below HR0.out (by repeat (first | (with_reducible first | exact HB.out | apply below_alloc | apply pw_below_drewN | apply below_drew1) | exact HB.out))) | (with_reducible apply Kd.C_alloc) | (with_reducible apply Kd.C_drewN) | (with_reducible apply Kd.C_drew))); (case side2 => exact HC0.out); rintro e w19 ⟨v273, rfl, ho0, hb⟩; have n0_ := Aside0.mk (Kd.R_lower ho0 (below_size (by repeat (first | (with_reducible first | exact HB.out | apply below_alloc | apply pw_below_drewN | apply below_drew1) | exact HB.out)))); have n1_ := Aside0.mk (below_step (by repeat (first | (with_reducible first | exact HB.out | apply below_alloc | apply pw_below_drewN | apply below_drew1) | exact HB.out)) hb); clear HB; have HO274 := n0_; have HB := n1_; clear n0_ n1_; (try clear hb); (try clear hb2); (try clear hk); (try clear hi); (try clear ho0)))
       as_aux_lemma =>
       have tk_ : True := trivial
       go_wp2_with (first | (go_at_call 10; clear tk_; (with_reducible refine (compositorref23_Write.calls k _ _ l0 t275 t276 _ ?side1 ?side2 A6.out).mono ?_); (case side1 => repeat (first | exact (Kd.C_below HR0.out HB.out) | (with_reducible apply Kd.C_alloc) | (with_reducible apply Kd.C_drewN) | (with_reducible apply Kd.C_drew))); (case side2 => exact HC0.out); rintro e w20 ⟨v277, rfl, ho0, hb⟩; have n0_ := Aside0.mk (Kd.R_elder' (by (with_reducible repeat (first | apply Kd.R_alloc | apply Kd.R_drewN | apply Kd.R_drew)); exact HO274.out) (Kd.R_base ho0) hb); have n1_ := Aside0.mk (Kd.R_lower (Kd.R_new' ho0 (Kd.R_lt (by (with_reducible repeat (first | apply Kd.R_alloc | apply Kd.R_drewN | apply Kd.R_drew)); exact HO274.out))) (below_size (by repeat (first | (with_reducible first | exact HB.out | apply below_alloc | apply pw_below_drewN | apply below_drew1) | exact HB.out)))); have n2_ := Aside0.mk (below_step (by repeat (first | (with_reducible first | exact HB.out | apply below_alloc | apply pw_below_drewN | apply below_drew1) | exact HB.out)) hb); clear HO274; clear HB; have HO274 := n0_; have HO278 := n1_; have HB := n2_; clear n0_ n1_ n2_; (try clear hb); (try clear hb2); (try clear hk); (try clear hi); (try clear ho0)))
       as_aux_lemma =>
       have tk_ : True := trivial
       go_wp2_with (first | (go_at_call 11; clear tk_; (with_reducible refine (ship_Report.calls k _ _ l0 t279 t280 _ ?side1 ?side2 A7.out).mono ?_); (case side1 => repeat (first | exact (Kd.C_below HR0.out HB.out) | (with_reducible apply Kd.C_alloc) | (with_reducible apply Kd.C_drewN) | (with_reducible apply Kd.C_drew))); (case side2 => exact HC0.out); rintro e w21 ⟨v281, v283, rfl, ho0, ho1, hb⟩; have n0_ := Aside0.mk (Kd.R_below (by (with_reducible repeat (first | apply Kd.R_alloc | apply Kd.R_drewN | apply Kd.R_drew)); exact HO274.out) hb); have n1_ := Aside0.mk (Kd.R_below (by (with_reducible repeat (first | apply Kd.R_alloc | apply Kd.R_drewN | apply Kd.R_drew)); exact HO278.out) hb); have n2_ := Aside0.mk (Kd.R_lower ho0 (below_size (by repeat (first | (with_reducible first | exact HB.out | apply below_alloc | apply pw_below_drewN | apply below_drew1) | exact HB.out)))); have n3_ := Aside0.mk (Kd.R_lower ho1 (below_size (by repeat (first | (with_reducible first | exact HB.out | apply below_alloc | apply pw_below_drewN | apply below_drew1) | exact HB.out)))); have n4_ := Aside0.mk (below_step (by repeat (first | (with_reducible first | exact HB.out | apply below_alloc | apply pw_below_drewN | apply below_drew1) | exact HB.out)) hb); clear HO274; clear HO278; clear HB; have HO274 := n0_; have HO278 := n1_; have HO282 := n2_; have HO284 := n3_; have HB := n4_; clear n0_ n1_ n2_ n3_ n4_; (try clear hb); (try clear hb2); (try clear hk); (try clear hi); (try clear ho0); (try clear ho1)))
       as_aux_lemma =>
       have tk_ : True := trivial
       go_wp2_with (first | (go_at_call 12; clear tk_; (with_reducible refine (compositorref23_Report.calls k _ _ l0 t285 t286 _ ?side1 ?side2 A8.out).mono ?_); (case side1 => repeat (first | exact (Kd.C_below HR0.out HB.out) | (with_reducible apply Kd.C_alloc) | (with_reducible apply Kd.C_drewN) | (with_reducible apply Kd.C_drew))); (case side2 => exact HC0.out); rintro e w22 ⟨v287, v289, rfl, ho0, ho1, hb⟩; have n0_ := Aside0.mk (Kd.R_below (by (with_reducible repeat (first | apply Kd.R_alloc | apply Kd.R_drewN | apply Kd.R_drew)); exact HO274.out) hb); have n1_ := Aside0.mk (Kd.R_below (by (with_reducible repeat (first | apply Kd.R_alloc | apply Kd.R_drewN | apply Kd.R_drew)); exact HO278.out) hb); have n2_ := Aside0.mk (Kd.R_mono (Kd.R_told (Kd.R_told (Kd.R_old (by (with_reducible repeat (first | apply Kd.R_alloc | apply Kd.R_drewN | apply Kd.R_drew)); exact HO282.out) hb) (Kd.R_base ho0)) (Kd.R_base ho1)) (fun _ h_ => h_.1)); have n3_ := Aside0.mk (Kd.R_mono (Kd.R_told (Kd.R_told (Kd.R_old (by (with_reducible repeat (first | apply Kd.R_alloc | apply Kd.R_drewN | apply Kd.R_drew)); exact HO284.out) hb) (Kd.R_base ho0)) (Kd.R_base ho1)) (fun _ h_ => h_.1)); have n4_ := Aside0.mk (Kd.R_lower (Kd.R_new' (Kd.R_new' ho0 (Kd.R_lt (by (with_reducible repeat (first | apply Kd.R_alloc | apply Kd.R_drewN | apply Kd.R_drew)); exact HO282.out))) (Kd.R_lt (by (with_reducible repeat (first | apply Kd.R_alloc | apply Kd.R_drewN | apply Kd.R_drew)); exact HO284.out))) (below_size (by repeat (first | (with_reducible first | exact HB.out | apply below_alloc | apply pw_below_drewN | apply below_drew1) | exact HB.out)))); have n5_ := Aside0.mk (Kd.R_lower (Kd.R_new' (Kd.R_new' ho1 (Kd.R_lt (by (with_reducible repeat (first | apply Kd.R_alloc | apply Kd.R_drewN | apply Kd.R_drew)); exact HO282.out))) (Kd.R_lt (by (with_reducible repeat (first | apply Kd.R_alloc | apply Kd.R_drewN | apply Kd.R_drew)); exact HO284.out))) (below_size (by repeat (first | (with_reducible first | exact HB.out | apply below_alloc | apply pw_below_drewN | apply below_drew1) | exact HB.out)))); have n6_ := Aside0.mk (below_step (by repeat (first | (with_reducible first | exact HB.out | apply below_alloc | apply pw_below_drewN | apply below_drew1) | exact HB.out)) hb); clear HO274; clear HO278; clear HO282; clear HO284; clear HB; have HO274 := n0_; have HO278 := n1_; have HO282 := n2_; have HO284 := n3_; have HO288 := n4_; have HO290 := n5_; have HB := n6_; clear n0_ n1_ n2_ n3_ n4_ n5_ n6_; (try clear hb); (try clear hb2); (try clear hk); (try clear hi); (try clear ho0); (try clear ho1)))
       as_aux_lemma =>
       have tk_ : True := trivial
       go_wp2_with (first | (go_at_call 13; clear tk_; (with_reducible refine (ship_Check.calls _ _ l0 t291 _ ?side1 ?side2 A10.out).mono ?_); (case side1 => repeat (first | exact (Kd.C_below HR0.out HB.out) | (with_reducible apply Kd.C_alloc) | (with_reducible apply Kd.C_drewN) | (with_reducible apply Kd.C_drew))); (case side2 => exact HC0.out); rintro e w23 ⟨rfl, hb⟩; have n0_ := Aside0.mk (Kd.R_below (by (with_reducible repeat (first | apply Kd.R_alloc | apply Kd.R_drewN | apply Kd.R_drew)); exact HO274.out) hb); have n1_ := Aside0.mk (Kd.R_below (by (with_reducible repeat (first | apply Kd.R_alloc | apply Kd.R_drewN | apply Kd.R_drew)); exact HO278.out) hb); have n2_ := Aside0.mk (Kd.R_below (by (with_reducible repeat (first | apply Kd.R_alloc | apply Kd.R_drewN | apply Kd.R_drew)); exact HO282.out) hb); have n3_ := Aside0.mk (Kd.R_below (by (with_reducible repeat (first | apply Kd.R_alloc | apply Kd.R_drewN | apply Kd.R_drew)); exact HO284.out) hb); have n4_ := Aside0.mk (Kd.R_below (by (with_reducible repeat (first | apply Kd.R_alloc | apply Kd.R_drewN | apply Kd.R_drew)); exact HO288.out) hb); have n5_ := Aside0.mk (Kd.R_below (by (with_reducible repeat (first | apply Kd.R_alloc | apply Kd.R_drewN | apply Kd.R_drew)); exact HO290.out) hb); have n6_ := Aside0.mk (below_step (by repeat (first | (with_reducible first | exact HB.out | apply below_alloc | apply pw_below_drewN | apply below_drew1) | exact HB.out)) hb); clear HO274; clear HO278; clear HO282; clear HO284; clear HO288; clear HO290; clear HB; have HO274 := n0_; have HO278 := n1_; have HO282 := n2_; have HO284 := n3_; have HO288 := n4_; have HO290 := n5_; have HB := n6_; clear n0_ n1_ n2_ n3_ n4_ n5_ n6_; (try clear hb); (try clear hb2); (try clear hk); (try clear hi)))
       as_aux_lemma =>
       have tk_ : True := trivial
       go_wp2_with (first | (go_at_call 14; clear tk_; (with_reducible refine (compositorref23_Check.calls k _ _ l0 t292 _ ?side1 ?side2 A11.out).mono ?_); (case side1 => repeat (first | exact (Kd.C_below HR0.out HB.out) | (with_reducible apply Kd.C_alloc) | (with_reducible apply Kd.C_drewN) | (with_reducible apply Kd.C_drew))); (case side2 => exact HC0.out); rintro e w24 ⟨rfl, hb⟩; have n0_ := Aside0.mk (Kd.R_below (by (with_reducible repeat (first | apply Kd.R_alloc | apply Kd.R_drewN | apply Kd.R_drew)); exact HO274.out) hb); have n1_ := Aside0.mk (Kd.R_below (by (with_reducible repeat (first | apply Kd.R_alloc | apply Kd.R_drewN | apply Kd.R_drew)); exact HO278.out) hb); have n2_ := Aside0.mk (Kd.R_below (by (with_reducible repeat (first | apply Kd.R_alloc | apply Kd.R_drewN | apply Kd.R_drew)); exact HO282.out) hb); have n3_ := Aside0.mk (Kd.R_below (by (with_reducible repeat (first | apply Kd.R_alloc | apply Kd.R_drewN | apply Kd.R_drew)); exact HO284.out) hb); have n4_ := Aside0.mk (Kd.R_below (by (with_reducible repeat (first | apply Kd.R_alloc | apply Kd.R_drewN | apply Kd.R_drew)); exact HO288.out) hb); have n5_ := Aside0.mk (Kd.R_below (by (with_reducible repeat (first | apply Kd.R_alloc | apply Kd.R_drewN | apply Kd.R_drew)); exact HO290.out) hb); have n6_ := Aside0.mk (below_step (by repeat (first | (with_reducible first | exact HB.out | apply below_alloc | apply pw_below_drewN | apply below_drew1) | exact HB.out)) hb); clear HO274; clear HO278; clear HO282; clear HO284; clear HO288; clear HO290; clear HB; have HO274 := n0_; have HO278 := n1_; have HO282 := n2_; have HO284 := n3_; have HO288 := n4_; have HO290 := n5_; have HB := n6_; clear n0_ n1_ n2_ n3_ n4_ n5_ n6_; (try clear hb); (try clear hb2); (try clear hk); (try clear hi); have hcv25 := own_string (P := Try.prog) Try.underlying25 Try.underlying5 Try.underlying9 (Kd.own_of_R HO274.out); have hcvq25 := fun n_ : Nat => own_string (P := Try.prog) Try.underlying25 Try.underlying5 Try.underlying9 (Kd.own_of_R (Kd.R_drewN HO274.out n_)); have hcv26 := own_string (P := Try.prog) Try.underlying25 Try.underlying5 Try.underlying9 (Kd.own_of_R HO278.out); have hcvq26 := fun n_ : Nat => own_string (P := Try.prog) Try.underlying25 Try.underlying5 Try.underlying9 (Kd.own_of_R (Kd.R_drewN HO278.out n_)); obtain ⟨Ao27, co27, eo27⟩ := Kd.R_slice HO282.out; subst eo27; obtain ⟨Ao28, co28, eo28⟩ := Kd.R_slice HO288.out; subst eo28))
       as_aux_lemma =>
       have tk_ : True := trivial
       go_wp2_with (first | (go_at_call 15; clear tk_; (with_reducible refine (compositorref04_Same.calls k _ _ t279 _ _ t285 true _ ?side1 ?side2 ?side3 ?side4 A15.out).mono ?_); (case side1 => repeat (first | exact (Kd.R_reads' HO282.out).2.2 | (with_reducible apply Kd.C_alloc) | (with_reducible apply Kd.C_drewN) | (with_reducible apply Kd.C_drew))); (case side2 => exact (Kd.R_reads' HO282.out).2.1); (case side3 => repeat (first | exact (Kd.R_reads' HO288.out).2.2 | (with_reducible apply Kd.C_alloc) | (with_reducible apply Kd.C_drewN) | (with_reducible apply Kd.C_drew))); (case side4 => exact (Kd.R_reads' HO288.out).2.1); rintro e w' ⟨rfl, ⟨nd, rfl⟩⟩; obtain ⟨Ao29, co29, eo29⟩ := Kd.R_slice HO284.out; subst eo29; obtain ⟨Ao30, co30, eo30⟩ := Kd.R_slice HO290.out; subst eo30))
       as_aux_lemma =>
       have tk_ : True := trivial
       go_wp2_with (first | (go_at_call 15; clear tk_; (with_reducible refine (compositorref04_Same.calls k _ _ t280 _ _ t286 t294 _ ?side1 ?side2 ?side3 ?side4 A17.out).mono ?_); (case side1 => repeat (first | exact (Kd.R_reads' HO284.out).2.2 | (with_reducible apply Kd.C_alloc) | (with_reducible apply Kd.C_drewN) | (with_reducible apply Kd.C_drew))); (case side2 => exact (Kd.R_reads' HO284.out).2.1); (case side3 => repeat (first | exact (Kd.R_reads' HO290.out).2.2 | (with_reducible apply Kd.C_alloc) | (with_reducible apply Kd.C_drewN) | (with_reducible apply Kd.C_drew))); (case side4 => exact (Kd.R_reads' HO290.out).2.1); rintro e w' ⟨rfl, ⟨nd, rfl⟩⟩))
       go_ret
       exact ⟨by first | rfl | (simp [errW_none, errW_some] <;> rfl) | (simp [*, errW_none, errW_some] <;> rfl), by repeat (first | (with_reducible first | exact HB.out | apply below_alloc | apply pw_below_drewN | apply below_drew1) | exact HB.out)⟩
      ·replace c16 := Bool.eq_false_iff.mpr c16
       subst c16
       have H1 : (none) = some r := by rw [if_neg (show ¬ (false = true) by decide)] at H; exact H
       clear H
       have H := H1
       clear H1
       exact absurd H (by simp)
     ·rw [if_neg c14] at H
      exact absurd H (by simp)
    ·rw [if_neg c13] at H
     exact absurd H (by simp)
   ·rw [if_neg c12] at H
    exact absurd H (by simp)
  ·replace c9 := Bool.eq_false_iff.mpr c9
   subst c9
   have H1 : (none) = some r := by rw [if_neg (show ¬ (false = true) by decide)] at H; exact H
   clear H
   have H := H1
   clear H1
   exact absurd H (by simp)
 ·replace c4 := Bool.eq_false_iff.mpr c4
  subst c4
  have H1 : (some t269) = some r := by rw [if_neg (show ¬ (false = true) by decide)] at H; exact H
  clear H
  have H := H1
  clear H1
  obtain rfl := Option.some.inj H
  go_enter Try.func3, Try.ntmps3
  have tk_ : True := trivial
  go_wp2_with (first | (go_at_call 7; clear tk_; (with_reducible refine (compositorlaw23_awake.calls k  t269 _ A2.out).mono ?_); rintro e w31 ⟨rfl, hb⟩; have n0_ := Aside0.mk (below_step (by repeat (first | (with_reducible first | exact HB.out | apply below_alloc | apply pw_below_drewN | apply below_drew1) | exact HB.out)) hb); clear HB; have HB := n0_; clear n0_; (try clear hb); (try clear hb2); (try clear hk); (try clear hi)))
  as_aux_lemma =>
  have tk_ : True := trivial
  go_wp2_with (first | (go_at_call 8; clear tk_; (with_reducible refine (compositorref23_Few.calls k _ _ l0 false _ ?side1 ?side2 A3.out).mono ?_); (case side1 => repeat (first | exact (Kd.C_below HR0.out HB.out) | (with_reducible apply Kd.C_alloc) | (with_reducible apply Kd.C_drewN) | (with_reducible apply Kd.C_drew))); (case side2 => exact HC0.out); rintro e w' ⟨rfl, ⟨nd, rfl⟩⟩))
  go_ret
  exact ⟨by first | rfl | (simp [errW_none, errW_some] <;> rfl) | (simp [*, errW_none, errW_some] <;> rfl), by repeat (first | (with_reducible first | exact HB.out | apply below_alloc | apply pw_below_drewN | apply below_drew1) | exact HB.out)⟩

end Go.Proofs.Ytihiiidbhhlfnaa.G
