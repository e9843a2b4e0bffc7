/- Contracts of the functions of this seat: what each call computes, as a plain Lean function. Made by this session's own generator. -/
import Derived.Test.YtlkoaiogdkmglaaGx0
import Derived.Test.YtlkoaiogdkmglaaGx6
import Derived.Test.YtlkoaiogdkmglaaGx7
import Derived.Test.YtlkoaiogdkmglaaGx8
import Derived.Test.YtlkoaiogdkmglaaGx13
import Derived.Test.YtlkoaiogdkmglaaGx14
namespace Go.Proofs.Ytlkoaiogdkmglaa.G
open Go.RowKit Go.Proofs.YtlkoaiogdkmglaaW.PrintWords Go.Proofs.YtlkoaiogdkmglaaW.PrintLast Go.Proofs.YtlkoaiogdkmglaaW.PrintMore
attribute [local go_sem] max2_int min2_int max_two min_two max_three min_three max_four min_four   -- for this text's walks alone
set_option linter.unusedVariables false
set_option linter.unusedSimpArgs false

/-! ### compositorlaw06_PackTakes: function 4 -/
def compositorlaw06_PackTakes.f (k : Nat) (l0 : List Int) (a1 : Int) : Option (Bool) := (compositorlaw06_awake.f k).bind fun t202 => (if (l0.length : Int) > 1000 then (some t202) else ((pack_Take.f k l0 a1).bind fun bt203 => ((compositorref06_Take.f k l0 a1).bind fun bt208 => ((pack_TakeFix.f k l0).bind fun bt213 => ((compositorref06_TakeFix.f k l0).bind fun bt218 => (if t202 = true then (if bt203.1 = bt208.1 then (if (strOfNums bt203.2.1).toList = (strOfNums bt208.2.1).toList then (if bt203.2.2 = bt208.2.2 then (if bt213.1 = bt218.1 then (if (strOfNums bt213.2.1).toList = (strOfNums bt218.2.1).toList then (some (bt213.2.2 == bt218.2.2)) else (none)) else (none)) else (none)) else (none)) else (none)) else (none)))))))
theorem compositorlaw06_PackTakes.mono : ∀ a0 a1 k, LeO (compositorlaw06_PackTakes.f k a0 a1) (compositorlaw06_PackTakes.f (k + 1) a0 a1) := by
  intro a0 a1 k
  unfold compositorlaw06_PackTakes.f
  repeat' first
      | (with_reducible exact compositorlaw06_awake.mono _)
      | (with_reducible exact compositorref06_Take.mono _ _ _)
      | (with_reducible exact compositorref06_TakeFix.mono _ _)
      | (with_reducible exact pack_Take.mono _ _ _)
      | (with_reducible exact pack_TakeFix.mono _ _)
      | (with_reducible exact LeO.refl _)
      | (with_reducible exact LeO.none _)
      | (with_reducible refine LeO.ite ?_ ?_)
      | (with_reducible refine LeO.bind ?_ (fun _ => ?_))
      | exact compositorlaw06_awake.mono _
      | exact compositorref06_Take.mono _ _ _
      | exact compositorref06_TakeFix.mono _ _
      | exact pack_Take.mono _ _ _
      | exact pack_TakeFix.mono _ _
      | exact LeO.none _
      | refine LeO.ite ?_ ?_
      | refine LeO.bind ?_ (fun _ => ?_)
set_option maxHeartbeats 8000000 in
set_option maxRecDepth 100000 in
theorem compositorlaw06_PackTakes.calls (k : Nat) (A0 : Option Addr) (c0 : Nat) (l0 : List Int) (a1 : Int) (r : Bool) (w : World) (hr0 : Kd.C (Kd.int .u8) w A0 l0.length l0) (hc0 : l0.length ≤ c0) (h : compositorlaw06_PackTakes.f k l0 a1 = some r) :
    Calls Try.prog 4 #[.slice A0 l0.length c0, .int .i64 a1] w fun e w' => e = .returned (.bool r) ∧ Below w.heap.size w w' := by
  have HR0 := Aside0.mk hr0
  have HC0 := Aside0.mk hc0
  clear hr0 hc0
  have HB := Aside0.mk (Below.refl w.heap.size w)
  have H : ((compositorlaw06_awake.f k).bind fun t202 => (if (l0.length : Int) > 1000 then (some t202) else ((pack_Take.f k l0 a1).bind fun bt203 => ((compositorref06_Take.f k l0 a1).bind fun bt208 => ((pack_TakeFix.f k l0).bind fun bt213 => ((compositorref06_TakeFix.f k l0).bind fun bt218 => (if t202 = true then (if bt203.1 = bt208.1 then (if (strOfNums bt203.2.1).toList = (strOfNums bt208.2.1).toList then (if bt203.2.2 = bt208.2.2 then (if bt213.1 = bt218.1 then (if (strOfNums bt213.2.1).toList = (strOfNums bt218.2.1).toList then (some (bt213.2.2 == bt218.2.2)) else (none)) else (none)) else (none)) else (none)) else (none)) else (none)))))))) = some r := h
  clear h
  replace H := Option.bind_eq_some_iff.mp H
  obtain ⟨t202, A30, H⟩ := H
  replace H : (if (l0.length : Int) > 1000 then (some t202) else ((pack_Take.f k l0 a1).bind fun bt203 => ((compositorref06_Take.f k l0 a1).bind fun bt208 => ((pack_TakeFix.f k l0).bind fun bt213 => ((compositorref06_TakeFix.f k l0).bind fun bt218 => (if t202 = true then (if bt203.1 = bt208.1 then (if (strOfNums bt203.2.1).toList = (strOfNums bt208.2.1).toList then (if bt203.2.2 = bt208.2.2 then (if bt213.1 = bt218.1 then (if (strOfNums bt213.2.1).toList = (strOfNums bt218.2.1).toList then (some (bt213.2.2 == bt218.2.2)) else (none)) else (none)) else (none)) else (none)) else (none)) else (none))))))) = some r := H
  have A3 := Aside0.mk A30
  clear A30
  by_cases c4 : (l0.length : Int) > 1000
  · rw [if_pos c4] at H
    have c4b0 : decide (1000 < (l0.length : Int)) = true := decide_eq_true c4
    have c4b1 : decide (1000 < l0.length) = true := decide_eq_true (by omega)
    clear c4
    obtain rfl := Option.some.inj H
    go_enter Try.func4, Try.ntmps4
    go_wp2_with (first | ((with_reducible refine gate_callee (f := 9) rfl ?_); refine goesL_ (some 18) rfl rfl Try.func9 (by kernel_rfl) rfl #[] rfl (by (try simp only [List.map_toArray, List.map_cons, List.map_nil]); first | done | rfl | (simp only [List.length_drop, List.length_take]; rfl)) ?_; (with_reducible refine (compositorlaw06_awake.calls k  t202 _ A3.out).mono ?_); rintro e w5 ⟨rfl, hb⟩; refine ⟨_, rfl, ?_⟩; have n0_ := Aside0.mk (below_step (by repeat (first | (with_reducible first | exact HB.out | apply below_alloc | apply pw_below_drewN | apply below_drew1) | exact HB.out)) hb); clear HB; have HB := n0_; clear n0_; (try clear hb); (try clear hb2); (try clear hk); (try clear hi)))
    go_ret
    exact ⟨by first | rfl | (simp [errW_none, errW_some] <;> rfl) | (simp [*, errW_none, errW_some] <;> rfl), by repeat (first | (with_reducible first | exact HB.out | apply below_alloc | apply pw_below_drewN | apply below_drew1) | exact HB.out)⟩
  · rw [if_neg c4] at H
    have c4b0 : decide (1000 < (l0.length : Int)) = false := decide_eq_false c4
    have c4b1 : decide (1000 < l0.length) = false := decide_eq_false (by omega)
    clear c4
    replace H := Option.bind_eq_some_iff.mp H
    obtain ⟨⟨t203, t204, t205⟩, A60, H⟩ := H
    replace H : ((compositorref06_Take.f k l0 a1).bind fun bt208 => ((pack_TakeFix.f k l0).bind fun bt213 => ((compositorref06_TakeFix.f k l0).bind fun bt218 => (if t202 = true then (if t203 = bt208.1 then (if (strOfNums t204).toList = (strOfNums bt208.2.1).toList then (if t205 = bt208.2.2 then (if bt213.1 = bt218.1 then (if (strOfNums bt213.2.1).toList = (strOfNums bt218.2.1).toList then (some (bt213.2.2 == bt218.2.2)) else (none)) else (none)) else (none)) else (none)) else (none)) else (none))))) = some r := H
    have A6 := Aside0.mk A60
    clear A60
    replace H := Option.bind_eq_some_iff.mp H
    obtain ⟨⟨t208, t209, t210⟩, A70, H⟩ := H
    replace H : ((pack_TakeFix.f k l0).bind fun bt213 => ((compositorref06_TakeFix.f k l0).bind fun bt218 => (if t202 = true then (if t203 = t208 then (if (strOfNums t204).toList = (strOfNums t209).toList then (if t205 = t210 then (if bt213.1 = bt218.1 then (if (strOfNums bt213.2.1).toList = (strOfNums bt218.2.1).toList then (some (bt213.2.2 == bt218.2.2)) else (none)) else (none)) else (none)) else (none)) else (none)) else (none)))) = some r := H
    have A7 := Aside0.mk A70
    clear A70
    replace H := Option.bind_eq_some_iff.mp H
    obtain ⟨⟨t213, t214, t215⟩, A80, H⟩ := H
    replace H : ((compositorref06_TakeFix.f k l0).bind fun bt218 => (if t202 = true then (if t203 = t208 then (if (strOfNums t204).toList = (strOfNums t209).toList then (if t205 = t210 then (if t213 = bt218.1 then (if (strOfNums t214).toList = (strOfNums bt218.2.1).toList then (some (t215 == bt218.2.2)) else (none)) else (none)) else (none)) else (none)) else (none)) else (none))) = some r := H
    have A8 := Aside0.mk A80
    clear A80
    replace H := Option.bind_eq_some_iff.mp H
    obtain ⟨⟨t218, t219, t220⟩, A90, H⟩ := H
    replace H : (if t202 = true then (if t203 = t208 then (if (strOfNums t204).toList = (strOfNums t209).toList then (if t205 = t210 then (if t213 = t218 then (if (strOfNums t214).toList = (strOfNums t219).toList then (some (t215 == t220)) else (none)) else (none)) else (none)) else (none)) else (none)) else (none)) = some r := H
    have A9 := Aside0.mk A90
    clear A90
    by_cases c10 : t202 = true
    · subst c10
      have H1 : (if t203 = t208 then (if (strOfNums t204).toList = (strOfNums t209).toList then (if t205 = t210 then (if t213 = t218 then (if (strOfNums t214).toList = (strOfNums t219).toList then (some (t215 == t220)) else (none)) else (none)) else (none)) else (none)) else (none)) = some r := by rw [if_pos rfl] at H; exact H
      clear H
      have H := H1
      clear H1
      by_cases c11 : t203 = t208
      · rw [if_pos c11] at H
        have c11b0 : (t203 == t208) = true := beq_iff_eq.mpr c11
        have c11b1 : (t203 != t208) = false := bne_eq_false_iff_eq.mpr c11
        clear c11
        by_cases c12 : (strOfNums t204).toList = (strOfNums t209).toList
        · rw [if_pos c12] at H
          have c12b0 : ((strOfNums t204).toList == (strOfNums t209).toList) = true := beq_iff_eq.mpr c12
          have c12b1 : ((strOfNums t204).toList != (strOfNums t209).toList) = false := bne_eq_false_iff_eq.mpr c12
          clear c12
          by_cases c13 : t205 = t210
          · rw [if_pos c13] at H
            have c13b0 : (t205 == t210) = true := beq_iff_eq.mpr c13
            have c13b1 : (t205 != t210) = false := bne_eq_false_iff_eq.mpr c13
            clear c13
            by_cases c14 : t213 = t218
            · rw [if_pos c14] at H
              have c14b0 : (t213 == t218) = true := beq_iff_eq.mpr c14
              have c14b1 : (t213 != t218) = false := bne_eq_false_iff_eq.mpr c14
              clear c14
              by_cases c15 : (strOfNums t214).toList = (strOfNums t219).toList
              · rw [if_pos c15] at H
                have c15b0 : ((strOfNums t214).toList == (strOfNums t219).toList) = true := beq_iff_eq.mpr c15
                have c15b1 : ((strOfNums t214).toList != (strOfNums t219).toList) = false := bne_eq_false_iff_eq.mpr c15
                clear c15
                obtain rfl := Option.some.inj H
                go_enter Try.func4, Try.ntmps4
                go_wp2_with (first | ((with_reducible refine gate_callee (f := 9) rfl ?_); refine goesL_ (some 18) rfl rfl Try.func9 (by kernel_rfl) rfl #[] rfl (by (try simp only [List.map_toArray, List.map_cons, List.map_nil]); first | done | rfl | (simp only [List.length_drop, List.length_take]; rfl)) ?_; (with_reducible refine (compositorlaw06_awake.calls k  true _ A3.out).mono ?_); rintro e w16 ⟨rfl, hb⟩; refine ⟨_, rfl, ?_⟩; have n0_ := Aside0.mk (below_step (by repeat (first | (with_reducible first | exact HB.out | apply below_alloc | apply pw_below_drewN | apply below_drew1) | exact HB.out)) hb); clear HB; have HB := n0_; clear n0_; (try clear hb); (try clear hb2); (try clear hk); (try clear hi)) | ((with_reducible refine gate_callee (f := 14) rfl ?_); refine goesL_ (some 26) rfl rfl Try.func14 (by kernel_rfl) rfl #[.slice A0 l0.length c0, .int .i64 a1] rfl (by (try simp only [List.map_toArray, List.map_cons, List.map_nil]); first | done | rfl | (simp only [List.length_drop, List.length_take]; rfl)) ?_; (with_reducible refine (pack_Take.calls k _ _ l0 a1 t203 t204 t205 _ ?side1 ?side2 A6.out).mono ?_); (case side1 => repeat (first | exact (Kd.C_below HR0.out HB.out) | (with_reducible refine Kd.C_alloc ?_ _) | (with_reducible refine Kd.C_drewN ?_ _) | (with_reducible refine Kd.C_drew ?_))); (case side2 => exact HC0.out); rintro e w17 ⟨v206, rfl, ho0, hb⟩; refine ⟨_, rfl, ?_⟩; have n0_ := Aside0.mk (Kd.R_lower ho0 (below_size (by repeat (first | (with_reducible first | exact HB.out | apply below_alloc | apply pw_below_drewN | apply below_drew1) | exact HB.out)))); have n1_ := Aside0.mk (below_step (by repeat (first | (with_reducible first | exact HB.out | apply below_alloc | apply pw_below_drewN | apply below_drew1) | exact HB.out)) hb); clear HB; have HO207 := n0_; have HB := n1_; clear n0_ n1_; (try clear hb); (try clear hb2); (try clear hk); (try clear hi); (try clear ho0)) | ((with_reducible refine gate_callee (f := 15) rfl ?_); refine goesL_ (some 33) rfl rfl Try.func15 (by kernel_rfl) rfl #[.slice A0 l0.length c0, .int .i64 a1] rfl (by (try simp only [List.map_toArray, List.map_cons, List.map_nil]); first | done | rfl | (simp only [List.length_drop, List.length_take]; rfl)) ?_; (with_reducible refine (compositorref06_Take.calls k _ _ l0 a1 t208 t209 t210 _ ?side1 ?side2 A7.out).mono ?_); (case side1 => repeat (first | exact (Kd.C_below HR0.out HB.out) | (with_reducible refine Kd.C_alloc ?_ _) | (with_reducible refine Kd.C_drewN ?_ _) | (with_reducible refine Kd.C_drew ?_))); (case side2 => exact HC0.out); rintro e w18 ⟨v211, rfl, ho0, hb⟩; refine ⟨_, rfl, ?_⟩; have n0_ := Aside0.mk (Kd.R_elder' (by (with_reducible repeat (first | apply Kd.R_alloc | apply Kd.R_drewN | apply Kd.R_drew)); exact HO207.out) (Kd.R_base ho0) hb); have n1_ := Aside0.mk (Kd.R_lower (Kd.R_new' ho0 (Kd.R_lt (by (with_reducible repeat (first | apply Kd.R_alloc | apply Kd.R_drewN | apply Kd.R_drew)); exact HO207.out))) (below_size (by repeat (first | (with_reducible first | exact HB.out | apply below_alloc | apply pw_below_drewN | apply below_drew1) | exact HB.out)))); have n2_ := Aside0.mk (below_step (by repeat (first | (with_reducible first | exact HB.out | apply below_alloc | apply pw_below_drewN | apply below_drew1) | exact HB.out)) hb); clear HO207; clear HB; have HO207 := n0_; have HO212 := n1_; have HB := n2_; clear n0_ n1_ n2_; (try clear hb); (try clear hb2); (try clear hk); (try clear hi); (try clear ho0)) | ((with_reducible refine gate_callee (f := 16) rfl ?_); refine goesL_ (some 39) rfl rfl Try.func16 (by kernel_rfl) rfl #[.slice A0 l0.length c0] rfl (by (try simp only [List.map_toArray, List.map_cons, List.map_nil]); first | done | rfl | (simp only [List.length_drop, List.length_take]; rfl)) ?_; (with_reducible refine (pack_TakeFix.calls k _ _ l0 t213 t214 t215 _ ?side1 ?side2 A8.out).mono ?_); (case side1 => repeat (first | exact (Kd.C_below HR0.out HB.out) | (with_reducible refine Kd.C_alloc ?_ _) | (with_reducible refine Kd.C_drewN ?_ _) | (with_reducible refine Kd.C_drew ?_))); (case side2 => exact HC0.out); rintro e w19 ⟨v216, rfl, ho0, hb⟩; refine ⟨_, rfl, ?_⟩; have n0_ := Aside0.mk (Kd.R_elder' (by (with_reducible repeat (first | apply Kd.R_alloc | apply Kd.R_drewN | apply Kd.R_drew)); exact HO207.out) (Kd.R_base ho0) hb); have n1_ := Aside0.mk (Kd.R_elder' (by (with_reducible repeat (first | apply Kd.R_alloc | apply Kd.R_drewN | apply Kd.R_drew)); exact HO212.out) (Kd.R_base ho0) hb); have n2_ := Aside0.mk (Kd.R_lower (Kd.R_new' (Kd.R_new' ho0 (Kd.R_lt (by (with_reducible repeat (first | apply Kd.R_alloc | apply Kd.R_drewN | apply Kd.R_drew)); exact HO207.out))) (Kd.R_lt (by (with_reducible repeat (first | apply Kd.R_alloc | apply Kd.R_drewN | apply Kd.R_drew)); exact HO212.out))) (below_size (by repeat (first | (with_reducible first | exact HB.out | apply below_alloc | apply pw_below_drewN | apply below_drew1) | exact HB.out)))); have n3_ := Aside0.mk (below_step (by repeat (first | (with_reducible first | exact HB.out | apply below_alloc | apply pw_below_drewN | apply below_drew1) | exact HB.out)) hb); clear HO207; clear HO212; clear HB; have HO207 := n0_; have HO212 := n1_; have HO217 := n2_; have HB := n3_; clear n0_ n1_ n2_ n3_; (try clear hb); (try clear hb2); (try clear hk); (try clear hi); (try clear ho0)) | ((with_reducible refine gate_callee (f := 17) rfl ?_); refine goesL_ (some 45) rfl rfl Try.func17 (by kernel_rfl) rfl #[.slice A0 l0.length c0] rfl (by (try simp only [List.map_toArray, List.map_cons, List.map_nil]); first | done | rfl | (simp only [List.length_drop, List.length_take]; rfl)) ?_; (with_reducible refine (compositorref06_TakeFix.calls k _ _ l0 t218 t219 t220 _ ?side1 ?side2 A9.out).mono ?_); (case side1 => repeat (first | exact (Kd.C_below HR0.out HB.out) | (with_reducible refine Kd.C_alloc ?_ _) | (with_reducible refine Kd.C_drewN ?_ _) | (with_reducible refine Kd.C_drew ?_))); (case side2 => exact HC0.out); rintro e w20 ⟨v221, rfl, ho0, hb⟩; refine ⟨_, rfl, ?_⟩; have n0_ := Aside0.mk (Kd.R_elder' (by (with_reducible repeat (first | apply Kd.R_alloc | apply Kd.R_drewN | apply Kd.R_drew)); exact HO207.out) (Kd.R_base ho0) hb); have n1_ := Aside0.mk (Kd.R_elder' (by (with_reducible repeat (first | apply Kd.R_alloc | apply Kd.R_drewN | apply Kd.R_drew)); exact HO212.out) (Kd.R_base ho0) hb); have n2_ := Aside0.mk (Kd.R_elder' (by (with_reducible repeat (first | apply Kd.R_alloc | apply Kd.R_drewN | apply Kd.R_drew)); exact HO217.out) (Kd.R_base ho0) hb); have n3_ := Aside0.mk (Kd.R_lower (Kd.R_new' (Kd.R_new' (Kd.R_new' ho0 (Kd.R_lt (by (with_reducible repeat (first | apply Kd.R_alloc | apply Kd.R_drewN | apply Kd.R_drew)); exact HO207.out))) (Kd.R_lt (by (with_reducible repeat (first | apply Kd.R_alloc | apply Kd.R_drewN | apply Kd.R_drew)); exact HO212.out))) (Kd.R_lt (by (with_reducible repeat (first | apply Kd.R_alloc | apply Kd.R_drewN | apply Kd.R_drew)); exact HO217.out))) (below_size (by repeat (first | (with_reducible first | exact HB.out | apply below_alloc | apply pw_below_drewN | apply below_drew1) | exact HB.out)))); have n4_ := Aside0.mk (below_step (by repeat (first | (with_reducible first | exact HB.out | apply below_alloc | apply pw_below_drewN | apply below_drew1) | exact HB.out)) hb); clear HO207; clear HO212; clear HO217; clear HB; have HO207 := n0_; have HO212 := n1_; have HO217 := n2_; have HO222 := n3_; have HB := n4_; clear n0_ n1_ n2_ n3_ n4_; (try clear hb); (try clear hb2); (try clear hk); (try clear hi); (try clear ho0); have hcv21 := own_string (P := Try.prog) Try.underlying22 Try.underlying5 Try.underlying9 (Kd.own_of_R HO207.out); have hcvq21 := fun n_ : Nat => own_string (P := Try.prog) Try.underlying22 Try.underlying5 Try.underlying9 (Kd.own_of_R (Kd.R_drewN HO207.out n_)); have hcv22 := own_string (P := Try.prog) Try.underlying22 Try.underlying5 Try.underlying9 (Kd.own_of_R HO212.out); have hcvq22 := fun n_ : Nat => own_string (P := Try.prog) Try.underlying22 Try.underlying5 Try.underlying9 (Kd.own_of_R (Kd.R_drewN HO212.out n_)); have hcv23 := own_string (P := Try.prog) Try.underlying22 Try.underlying5 Try.underlying9 (Kd.own_of_R HO217.out); have hcvq23 := fun n_ : Nat => own_string (P := Try.prog) Try.underlying22 Try.underlying5 Try.underlying9 (Kd.own_of_R (Kd.R_drewN HO217.out n_)); have hcv24 := own_string (P := Try.prog) Try.underlying22 Try.underlying5 Try.underlying9 (Kd.own_of_R HO222.out); have hcvq24 := fun n_ : Nat => own_string (P := Try.prog) Try.underlying22 Try.underlying5 Try.underlying9 (Kd.own_of_R (Kd.R_drewN HO222.out n_))))
                go_ret
                exact ⟨by first | rfl | (simp [errW_none, errW_some] <;> rfl) | (simp [*, errW_none, errW_some] <;> rfl), by repeat (first | (with_reducible first | exact HB.out | apply below_alloc | apply pw_below_drewN | apply below_drew1) | exact HB.out)⟩
              · rw [if_neg c15] at H
                exact absurd H (by simp)
            · rw [if_neg c14] at H
              exact absurd H (by simp)
          · rw [if_neg c13] at H
            exact absurd H (by simp)
        · rw [if_neg c12] at H
          exact absurd H (by simp)
      · rw [if_neg c11] at H
        exact absurd H (by simp)
    · replace c10 := Bool.eq_false_iff.mpr c10
      subst c10
      have H1 : (none) = some r := by rw [if_neg (show ¬ (false = true) by decide)] at H; exact H
      clear H
      have H := H1
      clear H1
      exact absurd H (by simp)

/-- THE ONE PURE STATEMENT of compositorlaw06_PackTakes: yours. -/
def compositorlaw06_PackTakes.Pure : Prop := ∀ (l0 : List Int) (a1 : Int), l0.length ≤ maxLen → l0.length * 1 ≤ 140737488351232 → (∀ x ∈ l0, (Lit.int .u8 x).wf = true) → (Lit.int .i64 a1).wf = true → ∃ k, compositorlaw06_PackTakes.f k l0 a1 = some true
theorem compositorlaw06_PackTakes.walk (P : compositorlaw06_PackTakes.Pure) (a0 : Option Addr) (len0 cap0 : Nat) (z0 : List Int) (a1 : Int) (w : World) (w0 : (a0 = none ∧ len0 = 0 ∧ cap0 = 0 ∧ z0 = []) ∨ ∃ x, a0 = some x ∧ len0 ≤ cap0 ∧ cap0 ≤ maxLen ∧ z0.length = cap0 ∧ (∀ i, i < z0.length → w.cell? (x.add i) = some (.int .u8 (z0.getD i 0))) ∧ ∀ n ∈ z0, (Lit.int .u8 n).wf = true) (y0 : len0 * 1 ≤ 140737488351232) (w1 : (Lit.int .i64 a1).wf = true) :
    Calls Try.prog 4 #[.slice a0 len0 cap0, .int .i64 a1] w fun e w' => e = .returned (.bool true) ∧ Below w.heap.size w w' := by
  obtain ⟨l0, rfl, hr0, hm0, hw0, hc0⟩ := ReadsInt.ofRowC w0
  obtain ⟨k, h⟩ := P l0 a1 hm0 y0 hw0 w1
  refine (compositorlaw06_PackTakes.calls k _ _ l0 a1 true w (Kd.C_of_reads (d := (0 : Int)) (h1 := fun _ => rfl) hr0) hc0 h).mono ?_
  rintro e w' ⟨rfl, hd⟩
  exact ⟨rfl, hd⟩

end Go.Proofs.Ytlkoaiogdkmglaa.G
