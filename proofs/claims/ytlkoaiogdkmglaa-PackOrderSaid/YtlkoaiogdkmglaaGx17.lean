/- Contracts of the functions of this seat: what each call computes, as a plain Lean function. Made by this session's own generator. -/
import Derived.Test.YtlkoaiogdkmglaaGx0
import Derived.Test.YtlkoaiogdkmglaaGx3
import Derived.Test.YtlkoaiogdkmglaaGx8
namespace Go.Proofs.Ytlkoaiogdkmglaa.G
open Go.RowKit Go.Proofs.YtlkoaiogdkmglaaW.PrintWords Go.Proofs.YtlkoaiogdkmglaaW.PrintLast Go.Proofs.YtlkoaiogdkmglaaW.PrintMore
attribute [local go_sem] max2_int min2_int max_two min_two max_three min_three max_four min_four   -- for this text's walks alone
set_option linter.unusedVariables false
set_option linter.unusedSimpArgs false

/-! ### compositorlaw06_PackOrder: function 6 -/
def compositorlaw06_PackOrder.f (k : Nat) (a0 : Int) (a1 : Int) (a2 : Int) : Option (Bool) := (compositorlaw06_awake.f k).bind fun t278 => ((pack_Put.f k ([] : List Int) (wrap64 (a0)) (wrap64 (1 + (wrap64 (Int.tmod a2 4))))).bind fun bt279 => ((pack_Put.f k ([] : List Int) (wrap64 (a1)) (wrap64 (1 + (wrap64 (Int.tmod a2 4))))).bind fun bt283 => (if bt279.2 = 0 then (if bt283.2 = 0 then (if t278 = true then (if ((Op.bytesLess ((strOfNums bt279.1).toList) ((strOfNums bt283.1).toList)) == (decide (a0 < a1))) = true then (some (((strOfNums bt279.1).toList == (strOfNums bt283.1).toList) == (a0 == a1))) else (none)) else (none)) else (some t278)) else (some t278))))
theorem compositorlaw06_PackOrder.mono : ∀ a0 a1 a2 k, LeO (compositorlaw06_PackOrder.f k a0 a1 a2) (compositorlaw06_PackOrder.f (k + 1) a0 a1 a2) := by
  intro a0 a1 a2 k
  unfold compositorlaw06_PackOrder.f
  repeat' first
      | (with_reducible exact compositorlaw06_awake.mono _)
      | (with_reducible exact pack_Put.mono _ _ _ _)
      | (with_reducible exact LeO.refl _)
      | (with_reducible exact LeO.none _)
      | (with_reducible refine LeO.ite ?_ ?_)
      | (with_reducible refine LeO.bind ?_ (fun _ => ?_))
      | exact compositorlaw06_awake.mono _
      | exact pack_Put.mono _ _ _ _
      | exact LeO.none _
      | refine LeO.ite ?_ ?_
      | refine LeO.bind ?_ (fun _ => ?_)
set_option maxHeartbeats 8000000 in
set_option maxRecDepth 100000 in
theorem compositorlaw06_PackOrder.calls (k : Nat) (a0 : Int) (a1 : Int) (a2 : Int) (r : Bool) (w : World) (h : compositorlaw06_PackOrder.f k a0 a1 a2 = some r) :
    Calls Try.prog 6 #[.int .u32 a0, .int .u32 a1, .int .u8 a2] w fun e w' => e = .returned (.bool r) ∧ Below w.heap.size w w' := by
  have HB := Aside0.mk (Below.refl w.heap.size w)
  have H : ((compositorlaw06_awake.f k).bind fun t278 => ((pack_Put.f k ([] : List Int) (wrap64 (a0)) (wrap64 (1 + (wrap64 (Int.tmod a2 4))))).bind fun bt279 => ((pack_Put.f k ([] : List Int) (wrap64 (a1)) (wrap64 (1 + (wrap64 (Int.tmod a2 4))))).bind fun bt283 => (if bt279.2 = 0 then (if bt283.2 = 0 then (if t278 = true then (if ((Op.bytesLess ((strOfNums bt279.1).toList) ((strOfNums bt283.1).toList)) == (decide (a0 < a1))) = true then (some (((strOfNums bt279.1).toList == (strOfNums bt283.1).toList) == (a0 == a1))) else (none)) else (none)) else (some t278)) else (some t278))))) = some r := h
  clear h
  replace H := Option.bind_eq_some_iff.mp H
  obtain ⟨t278, A40, H⟩ := H
  replace H : ((pack_Put.f k ([] : List Int) (wrap64 (a0)) (wrap64 (1 + (wrap64 (Int.tmod a2 4))))).bind fun bt279 => ((pack_Put.f k ([] : List Int) (wrap64 (a1)) (wrap64 (1 + (wrap64 (Int.tmod a2 4))))).bind fun bt283 => (if bt279.2 = 0 then (if bt283.2 = 0 then (if t278 = true then (if ((Op.bytesLess ((strOfNums bt279.1).toList) ((strOfNums bt283.1).toList)) == (decide (a0 < a1))) = true then (some (((strOfNums bt279.1).toList == (strOfNums bt283.1).toList) == (a0 == a1))) else (none)) else (none)) else (some t278)) else (some t278)))) = some r := H
  have A4 := Aside0.mk A40
  clear A40
  replace H := Option.bind_eq_some_iff.mp H
  obtain ⟨⟨t279, t280⟩, A50, H⟩ := H
  replace H : ((pack_Put.f k ([] : List Int) (wrap64 (a1)) (wrap64 (1 + (wrap64 (Int.tmod a2 4))))).bind fun bt283 => (if t280 = 0 then (if bt283.2 = 0 then (if t278 = true then (if ((Op.bytesLess ((strOfNums t279).toList) ((strOfNums bt283.1).toList)) == (decide (a0 < a1))) = true then (some (((strOfNums t279).toList == (strOfNums bt283.1).toList) == (a0 == a1))) else (none)) else (none)) else (some t278)) else (some t278))) = some r := H
  have A5 := Aside0.mk A50
  clear A50
  replace H := Option.bind_eq_some_iff.mp H
  obtain ⟨⟨t283, t284⟩, A60, H⟩ := H
  replace H : (if t280 = 0 then (if t284 = 0 then (if t278 = true then (if ((Op.bytesLess ((strOfNums t279).toList) ((strOfNums t283).toList)) == (decide (a0 < a1))) = true then (some (((strOfNums t279).toList == (strOfNums t283).toList) == (a0 == a1))) else (none)) else (none)) else (some t278)) else (some t278)) = some r := H
  have A6 := Aside0.mk A60
  clear A60
  by_cases c7 : t280 = 0
  · rw [if_pos c7] at H
    have c7b0 : (t280 == 0) = true := beq_iff_eq.mpr c7
    have c7b1 : (t280 != 0) = false := bne_eq_false_iff_eq.mpr c7
    clear c7
    by_cases c8 : t284 = 0
    · rw [if_pos c8] at H
      have c8b0 : (t284 == 0) = true := beq_iff_eq.mpr c8
      have c8b1 : (t284 != 0) = false := bne_eq_false_iff_eq.mpr c8
      clear c8
      by_cases c9 : t278 = true
      · subst c9
        have H1 : (if ((Op.bytesLess ((strOfNums t279).toList) ((strOfNums t283).toList)) == (decide (a0 < a1))) = true then (some (((strOfNums t279).toList == (strOfNums t283).toList) == (a0 == a1))) else (none)) = some r := by rw [if_pos rfl] at H; exact H
        clear H
        have H := H1
        clear H1
        by_cases c10 : ((Op.bytesLess ((strOfNums t279).toList) ((strOfNums t283).toList)) == (decide (a0 < a1))) = true
        · rw [if_pos c10] at H
          have c10b0 : ((Op.bytesLess ((strOfNums t279).toList) ((strOfNums t283).toList)) == (decide (a0 < a1))) = true := c10
          (try (have c10b1 : decide ((Op.bytesLess ((strOfNums t279).toList) ((strOfNums t283).toList)) = (decide (a0 < a1))) = true := by simpa using c10))
          (try (have c10b2 : ((Op.bytesLess ((strOfNums t279).toList) ((strOfNums t283).toList)) == (decide (a0 < a1))) = true := by simpa using c10))
          clear c10
          obtain rfl := Option.some.inj H
          go_enter Try.func6, Try.ntmps6
          go_wp2_with (first | ((with_reducible refine gate_callee (f := 9) rfl ?_); refine goesL_ (some 13) rfl rfl Try.func9 (by kernel_rfl) rfl #[] rfl (by (try simp only [List.map_toArray, List.map_cons, List.map_nil]); first | done | rfl | (simp only [List.length_drop, List.length_take]; rfl)) ?_; (with_reducible refine (compositorlaw06_awake.calls k  true _ A4.out).mono ?_); rintro e w11 ⟨rfl, hb⟩; refine ⟨_, rfl, ?_⟩; have n0_ := Aside0.mk (below_step (by repeat (first | (with_reducible first | exact HB.out | apply below_alloc | apply pw_below_drewN | apply below_drew1) | exact HB.out)) hb); clear HB; have HB := n0_; clear n0_; (try clear hb); (try clear hb2); (try clear hk); (try clear hi)) | ((with_reducible refine gate_callee (f := 10) rfl ?_); refine goesL_ (some 22) rfl rfl Try.func10 (by kernel_rfl) rfl #[.slice none 0 0, .int .i64 (wrap64 (a0)), .int .i64 (wrap64 (1 + (wrap64 (Int.tmod a2 4))))] rfl (by (try simp only [List.map_toArray, List.map_cons, List.map_nil]); first | done | rfl | (simp only [List.length_drop, List.length_take]; rfl)) ?_; (refine (pack_Put.calls k _ _ ([] : List Int) (wrap64 (a0)) (wrap64 (1 + (wrap64 (Int.tmod a2 4)))) t279 t280 _ ?side1 ?side2 A5.out).mono ?_); (case side1 => exact Kd.C_nil _ _); (case side2 => exact Nat.le_refl _); rintro e w12 ⟨v281, rfl, ho0, hb⟩; refine ⟨_, rfl, ?_⟩; have n0_ := Aside0.mk (Kd.R_lower ho0 (below_size (by repeat (first | (with_reducible first | exact HB.out | apply below_alloc | apply pw_below_drewN | apply below_drew1) | exact HB.out)))); have n1_ := Aside0.mk (below_step (by repeat (first | (with_reducible first | exact HB.out | apply below_alloc | apply pw_below_drewN | apply below_drew1) | exact HB.out)) hb); clear HB; have HO282 := n0_; have HB := n1_; clear n0_ n1_; (try clear hb); (try clear hb2); (try clear hk); (try clear hi); (try clear ho0)) | ((with_reducible refine gate_callee (f := 10) rfl ?_); refine goesL_ (some 29) rfl rfl Try.func10 (by kernel_rfl) rfl #[.slice none 0 0, .int .i64 (wrap64 (a1)), .int .i64 (wrap64 (1 + (wrap64 (Int.tmod a2 4))))] rfl (by (try simp only [List.map_toArray, List.map_cons, List.map_nil]); first | done | rfl | (simp only [List.length_drop, List.length_take]; rfl)) ?_; (refine (pack_Put.calls k _ _ ([] : List Int) (wrap64 (a1)) (wrap64 (1 + (wrap64 (Int.tmod a2 4)))) t283 t284 _ ?side1 ?side2 A6.out).mono ?_); (case side1 => exact Kd.C_nil _ _); (case side2 => exact Nat.le_refl _); rintro e w13 ⟨v285, rfl, ho0, hb⟩; refine ⟨_, rfl, ?_⟩; have n0_ := Aside0.mk (Kd.R_elder' (by (with_reducible repeat (first | apply Kd.R_alloc | apply Kd.R_drewN | apply Kd.R_drew)); exact HO282.out) (Kd.R_base ho0) hb); have n1_ := Aside0.mk (Kd.R_lower (Kd.R_new' ho0 (Kd.R_lt (by (with_reducible repeat (first | apply Kd.R_alloc | apply Kd.R_drewN | apply Kd.R_drew)); exact HO282.out))) (below_size (by repeat (first | (with_reducible first | exact HB.out | apply below_alloc | apply pw_below_drewN | apply below_drew1) | exact HB.out)))); have n2_ := Aside0.mk (below_step (by repeat (first | (with_reducible first | exact HB.out | apply below_alloc | apply pw_below_drewN | apply below_drew1) | exact HB.out)) hb); clear HO282; clear HB; have HO282 := n0_; have HO286 := n1_; have HB := n2_; clear n0_ n1_ n2_; (try clear hb); (try clear hb2); (try clear hk); (try clear hi); (try clear ho0); have hcv14 := own_string (P := Try.prog) Try.underlying22 Try.underlying5 Try.underlying9 (Kd.own_of_R HO282.out); have hcvq14 := fun n_ : Nat => own_string (P := Try.prog) Try.underlying22 Try.underlying5 Try.underlying9 (Kd.own_of_R (Kd.R_drewN HO282.out n_)); have hcv15 := own_string (P := Try.prog) Try.underlying22 Try.underlying5 Try.underlying9 (Kd.own_of_R HO286.out); have hcvq15 := fun n_ : Nat => own_string (P := Try.prog) Try.underlying22 Try.underlying5 Try.underlying9 (Kd.own_of_R (Kd.R_drewN HO286.out n_)); have hcv16 := own_string (P := Try.prog) Try.underlying22 Try.underlying5 Try.underlying9 (Kd.own_of_R HO282.out); have hcvq16 := fun n_ : Nat => own_string (P := Try.prog) Try.underlying22 Try.underlying5 Try.underlying9 (Kd.own_of_R (Kd.R_drewN HO282.out n_)); have hcv17 := own_string (P := Try.prog) Try.underlying22 Try.underlying5 Try.underlying9 (Kd.own_of_R HO286.out); have hcvq17 := fun n_ : Nat => own_string (P := Try.prog) Try.underlying22 Try.underlying5 Try.underlying9 (Kd.own_of_R (Kd.R_drewN HO286.out n_))))
          go_ret
          exact ⟨by first | rfl | (simp [errW_none, errW_some] <;> rfl) | (simp [*, errW_none, errW_some] <;> rfl), by repeat (first | (with_reducible first | exact HB.out | apply below_alloc | apply pw_below_drewN | apply below_drew1) | exact HB.out)⟩
        · rw [if_neg c10] at H
          exact absurd H (by simp)
      · replace c9 := Bool.eq_false_iff.mpr c9
        subst c9
        have H1 : (none) = some r := by rw [if_neg (show ¬ (false = true) by decide)] at H; exact H
        clear H
        have H := H1
        clear H1
        exact absurd H (by simp)
    · rw [if_neg c8] at H
      have c8b0 : (t284 == 0) = false := beq_eq_false_iff_ne.mpr c8
      have c8b1 : (t284 != 0) = true := bne_iff_ne.mpr c8
      obtain rfl := Option.some.inj H
      go_enter Try.func6, Try.ntmps6
      go_wp2_with (first | ((with_reducible refine gate_callee (f := 9) rfl ?_); refine goesL_ (some 13) rfl rfl Try.func9 (by kernel_rfl) rfl #[] rfl (by (try simp only [List.map_toArray, List.map_cons, List.map_nil]); first | done | rfl | (simp only [List.length_drop, List.length_take]; rfl)) ?_; (with_reducible refine (compositorlaw06_awake.calls k  t278 _ A4.out).mono ?_); rintro e w18 ⟨rfl, hb⟩; refine ⟨_, rfl, ?_⟩; have n0_ := Aside0.mk (below_step (by repeat (first | (with_reducible first | exact HB.out | apply below_alloc | apply pw_below_drewN | apply below_drew1) | exact HB.out)) hb); clear HB; have HB := n0_; clear n0_; (try clear hb); (try clear hb2); (try clear hk); (try clear hi)) | ((with_reducible refine gate_callee (f := 10) rfl ?_); refine goesL_ (some 22) rfl rfl Try.func10 (by kernel_rfl) rfl #[.slice none 0 0, .int .i64 (wrap64 (a0)), .int .i64 (wrap64 (1 + (wrap64 (Int.tmod a2 4))))] rfl (by (try simp only [List.map_toArray, List.map_cons, List.map_nil]); first | done | rfl | (simp only [List.length_drop, List.length_take]; rfl)) ?_; (refine (pack_Put.calls k _ _ ([] : List Int) (wrap64 (a0)) (wrap64 (1 + (wrap64 (Int.tmod a2 4)))) t279 t280 _ ?side1 ?side2 A5.out).mono ?_); (case side1 => exact Kd.C_nil _ _); (case side2 => exact Nat.le_refl _); rintro e w19 ⟨v281, rfl, ho0, hb⟩; refine ⟨_, rfl, ?_⟩; have n0_ := Aside0.mk (Kd.R_lower ho0 (below_size (by repeat (first | (with_reducible first | exact HB.out | apply below_alloc | apply pw_below_drewN | apply below_drew1) | exact HB.out)))); have n1_ := Aside0.mk (below_step (by repeat (first | (with_reducible first | exact HB.out | apply below_alloc | apply pw_below_drewN | apply below_drew1) | exact HB.out)) hb); clear HB; have HO282 := n0_; have HB := n1_; clear n0_ n1_; (try clear hb); (try clear hb2); (try clear hk); (try clear hi); (try clear ho0)) | ((with_reducible refine gate_callee (f := 10) rfl ?_); refine goesL_ (some 29) rfl rfl Try.func10 (by kernel_rfl) rfl #[.slice none 0 0, .int .i64 (wrap64 (a1)), .int .i64 (wrap64 (1 + (wrap64 (Int.tmod a2 4))))] rfl (by (try simp only [List.map_toArray, List.map_cons, List.map_nil]); first | done | rfl | (simp only [List.length_drop, List.length_take]; rfl)) ?_; (refine (pack_Put.calls k _ _ ([] : List Int) (wrap64 (a1)) (wrap64 (1 + (wrap64 (Int.tmod a2 4)))) t283 t284 _ ?side1 ?side2 A6.out).mono ?_); (case side1 => exact Kd.C_nil _ _); (case side2 => exact Nat.le_refl _); rintro e w20 ⟨v285, rfl, ho0, hb⟩; refine ⟨_, rfl, ?_⟩; have n0_ := Aside0.mk (Kd.R_elder' (by (with_reducible repeat (first | apply Kd.R_alloc | apply Kd.R_drewN | apply Kd.R_drew)); exact HO282.out) (Kd.R_base ho0) hb); have n1_ := Aside0.mk (Kd.R_lower (Kd.R_new' ho0 (Kd.R_lt (by (with_reducible repeat (first | apply Kd.R_alloc | apply Kd.R_drewN | apply Kd.R_drew)); exact HO282.out))) (below_size (by repeat (first | (with_reducible first | exact HB.out | apply below_alloc | apply pw_below_drewN | apply below_drew1) | exact HB.out)))); have n2_ := Aside0.mk (below_step (by repeat (first | (with_reducible first | exact HB.out | apply below_alloc | apply pw_below_drewN | apply below_drew1) | exact HB.out)) hb); clear HO282; clear HB; have HO282 := n0_; have HO286 := n1_; have HB := n2_; clear n0_ n1_ n2_; (try clear hb); (try clear hb2); (try clear hk); (try clear hi); (try clear ho0)))
      go_ret
      exact ⟨by first | rfl | (simp [errW_none, errW_some] <;> rfl) | (simp [*, errW_none, errW_some] <;> rfl), by repeat (first | (with_reducible first | exact HB.out | apply below_alloc | apply pw_below_drewN | apply below_drew1) | exact HB.out)⟩
  · rw [if_neg c7] at H
    have c7b0 : (t280 == 0) = false := beq_eq_false_iff_ne.mpr c7
    have c7b1 : (t280 != 0) = true := bne_iff_ne.mpr c7
    obtain rfl := Option.some.inj H
    go_enter Try.func6, Try.ntmps6
    go_wp2_with (first | ((with_reducible refine gate_callee (f := 9) rfl ?_); refine goesL_ (some 13) rfl rfl Try.func9 (by kernel_rfl) rfl #[] rfl (by (try simp only [List.map_toArray, List.map_cons, List.map_nil]); first | done | rfl | (simp only [List.length_drop, List.length_take]; rfl)) ?_; (with_reducible refine (compositorlaw06_awake.calls k  t278 _ A4.out).mono ?_); rintro e w21 ⟨rfl, hb⟩; refine ⟨_, rfl, ?_⟩; have n0_ := Aside0.mk (below_step (by repeat (first | (with_reducible first | exact HB.out | apply below_alloc | apply pw_below_drewN | apply below_drew1) | exact HB.out)) hb); clear HB; have HB := n0_; clear n0_; (try clear hb); (try clear hb2); (try clear hk); (try clear hi)) | ((with_reducible refine gate_callee (f := 10) rfl ?_); refine goesL_ (some 22) rfl rfl Try.func10 (by kernel_rfl) rfl #[.slice none 0 0, .int .i64 (wrap64 (a0)), .int .i64 (wrap64 (1 + (wrap64 (Int.tmod a2 4))))] rfl (by (try simp only [List.map_toArray, List.map_cons, List.map_nil]); first | done | rfl | (simp only [List.length_drop, List.length_take]; rfl)) ?_; (refine (pack_Put.calls k _ _ ([] : List Int) (wrap64 (a0)) (wrap64 (1 + (wrap64 (Int.tmod a2 4)))) t279 t280 _ ?side1 ?side2 A5.out).mono ?_); (case side1 => exact Kd.C_nil _ _); (case side2 => exact Nat.le_refl _); rintro e w22 ⟨v281, rfl, ho0, hb⟩; refine ⟨_, rfl, ?_⟩; have n0_ := Aside0.mk (Kd.R_lower ho0 (below_size (by repeat (first | (with_reducible first | exact HB.out | apply below_alloc | apply pw_below_drewN | apply below_drew1) | exact HB.out)))); have n1_ := Aside0.mk (below_step (by repeat (first | (with_reducible first | exact HB.out | apply below_alloc | apply pw_below_drewN | apply below_drew1) | exact HB.out)) hb); clear HB; have HO282 := n0_; have HB := n1_; clear n0_ n1_; (try clear hb); (try clear hb2); (try clear hk); (try clear hi); (try clear ho0)) | ((with_reducible refine gate_callee (f := 10) rfl ?_); refine goesL_ (some 29) rfl rfl Try.func10 (by kernel_rfl) rfl #[.slice none 0 0, .int .i64 (wrap64 (a1)), .int .i64 (wrap64 (1 + (wrap64 (Int.tmod a2 4))))] rfl (by (try simp only [List.map_toArray, List.map_cons, List.map_nil]); first | done | rfl | (simp only [List.length_drop, List.length_take]; rfl)) ?_; (refine (pack_Put.calls k _ _ ([] : List Int) (wrap64 (a1)) (wrap64 (1 + (wrap64 (Int.tmod a2 4)))) t283 t284 _ ?side1 ?side2 A6.out).mono ?_); (case side1 => exact Kd.C_nil _ _); (case side2 => exact Nat.le_refl _); rintro e w23 ⟨v285, rfl, ho0, hb⟩; refine ⟨_, rfl, ?_⟩; have n0_ := Aside0.mk (Kd.R_elder' (by (with_reducible repeat (first | apply Kd.R_alloc | apply Kd.R_drewN | apply Kd.R_drew)); exact HO282.out) (Kd.R_base ho0) hb); have n1_ := Aside0.mk (Kd.R_lower (Kd.R_new' ho0 (Kd.R_lt (by (with_reducible repeat (first | apply Kd.R_alloc | apply Kd.R_drewN | apply Kd.R_drew)); exact HO282.out))) (below_size (by repeat (first | (with_reducible first | exact HB.out | apply below_alloc | apply pw_below_drewN | apply below_drew1) | exact HB.out)))); have n2_ := Aside0.mk (below_step (by repeat (first | (with_reducible first | exact HB.out | apply below_alloc | apply pw_below_drewN | apply below_drew1) | exact HB.out)) hb); clear HO282; clear HB; have HO282 := n0_; have HO286 := n1_; have HB := n2_; clear n0_ n1_ n2_; (try clear hb); (try clear hb2); (try clear hk); (try clear hi); (try clear ho0)))
    go_ret
    exact ⟨by first | rfl | (simp [errW_none, errW_some] <;> rfl) | (simp [*, errW_none, errW_some] <;> rfl), by repeat (first | (with_reducible first | exact HB.out | apply below_alloc | apply pw_below_drewN | apply below_drew1) | exact HB.out)⟩

/-- THE ONE PURE STATEMENT of compositorlaw06_PackOrder: yours. -/
def compositorlaw06_PackOrder.Pure : Prop := ∀ (a0 : Int) (a1 : Int) (a2 : Int), (Lit.int .u32 a0).wf = true → (Lit.int .u32 a1).wf = true → (Lit.int .u8 a2).wf = true → ∃ k, compositorlaw06_PackOrder.f k a0 a1 a2 = some true
theorem compositorlaw06_PackOrder.walk (P : compositorlaw06_PackOrder.Pure) (a0 : Int) (a1 : Int) (a2 : Int) (w : World) (w0 : (Lit.int .u32 a0).wf = true) (w1 : (Lit.int .u32 a1).wf = true) (w2 : (Lit.int .u8 a2).wf = true) :
    Calls Try.prog 6 #[.int .u32 a0, .int .u32 a1, .int .u8 a2] w fun e w' => e = .returned (.bool true) ∧ Below w.heap.size w w' := by
  obtain ⟨k, h⟩ := P a0 a1 a2 w0 w1 w2
  refine (compositorlaw06_PackOrder.calls k a0 a1 a2 true w h).mono ?_
  rintro e w' ⟨rfl, hd⟩
  exact ⟨rfl, hd⟩

end Go.Proofs.Ytlkoaiogdkmglaa.G
