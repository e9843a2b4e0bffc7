/- Contracts of the functions of this seat: what each call computes, as a plain Lean function. Made by this session's own generator. -/
import Derived.Test.YtlkoaiogdkmglaaGx0
import Derived.Test.YtlkoaiogdkmglaaGx3
import Derived.Test.YtlkoaiogdkmglaaGx5
import Derived.Test.YtlkoaiogdkmglaaGx8
import Derived.Test.YtlkoaiogdkmglaaGx10
import Derived.Test.YtlkoaiogdkmglaaGx11
namespace Go.Proofs.Ytlkoaiogdkmglaa.G
open Go.RowKit Go.Proofs.YtlkoaiogdkmglaaW.PrintWords Go.Proofs.YtlkoaiogdkmglaaW.PrintLast Go.Proofs.YtlkoaiogdkmglaaW.PrintMore
attribute [local go_sem] max2_int min2_int max_two min_two max_three min_three max_four min_four   -- for this text's walks alone
set_option linter.unusedVariables false
set_option linter.unusedSimpArgs false

/-! ### compositorlaw06_PackPuts: function 3 -/
def compositorlaw06_PackPuts.f (k : Nat) (l0 : List Int) (a1 : Int) (a2 : Int) : Option (Bool) := (compositorlaw06_awake.f k).bind fun t172 => (if (l0.length : Int) > 1000 then (some t172) else ((pack_Put.f k l0 a1 a2).bind fun bt173 => ((compositorref06_Put.f k l0 a1 a2).bind fun bt177 => ((pack_PutFix.f k l0 a1).bind fun bt181 => ((compositorref06_PutFix.f k l0 a1).bind fun bt185 => (if t172 = true then (if (strOfNums bt173.1).toList = (strOfNums bt177.1).toList then (if bt173.2 = bt177.2 then (if (strOfNums bt181.1).toList = (strOfNums bt185.1).toList then (some (bt181.2 == bt185.2)) else (none)) else (none)) else (none)) else (none)))))))
theorem compositorlaw06_PackPuts.mono : ∀ a0 a1 a2 k, LeO (compositorlaw06_PackPuts.f k a0 a1 a2) (compositorlaw06_PackPuts.f (k + 1) a0 a1 a2) := by
  intro a0 a1 a2 k
  unfold compositorlaw06_PackPuts.f
  repeat' first
      | (with_reducible exact compositorlaw06_awake.mono _)
      | (with_reducible exact compositorref06_Put.mono _ _ _ _)
      | (with_reducible exact compositorref06_PutFix.mono _ _ _)
      | (with_reducible exact pack_Put.mono _ _ _ _)
      | (with_reducible exact pack_PutFix.mono _ _ _)
      | (with_reducible exact LeO.refl _)
      | (with_reducible exact LeO.none _)
      | (with_reducible refine LeO.ite ?_ ?_)
      | (with_reducible refine LeO.bind ?_ (fun _ => ?_))
      | exact compositorlaw06_awake.mono _
      | exact compositorref06_Put.mono _ _ _ _
      | exact compositorref06_PutFix.mono _ _ _
      | exact pack_Put.mono _ _ _ _
      | exact pack_PutFix.mono _ _ _
      | exact LeO.none _
      | refine LeO.ite ?_ ?_
      | refine LeO.bind ?_ (fun _ => ?_)
set_option maxHeartbeats 8000000 in
set_option maxRecDepth 100000 in
theorem compositorlaw06_PackPuts.calls (k : Nat) (A0 : Option Addr) (c0 : Nat) (l0 : List Int) (a1 : Int) (a2 : Int) (r : Bool) (w : World) (hr0 : Kd.C (Kd.int .u8) w A0 l0.length l0) (hc0 : l0.length ≤ c0) (h : compositorlaw06_PackPuts.f k l0 a1 a2 = some r) :
    Calls Try.prog 3 #[.slice A0 l0.length c0, .int .i64 a1, .int .i64 a2] w fun e w' => e = .returned (.bool r) ∧ Below w.heap.size w w' := by
  have HR0 := Aside0.mk hr0
  have HC0 := Aside0.mk hc0
  clear hr0 hc0
  have HB := Aside0.mk (Below.refl w.heap.size w)
  have H : ((compositorlaw06_awake.f k).bind fun t172 => (if (l0.length : Int) > 1000 then (some t172) else ((pack_Put.f k l0 a1 a2).bind fun bt173 => ((compositorref06_Put.f k l0 a1 a2).bind fun bt177 => ((pack_PutFix.f k l0 a1).bind fun bt181 => ((compositorref06_PutFix.f k l0 a1).bind fun bt185 => (if t172 = true then (if (strOfNums bt173.1).toList = (strOfNums bt177.1).toList then (if bt173.2 = bt177.2 then (if (strOfNums bt181.1).toList = (strOfNums bt185.1).toList then (some (bt181.2 == bt185.2)) else (none)) else (none)) else (none)) else (none)))))))) = some r := h
  clear h
  replace H := Option.bind_eq_some_iff.mp H
  obtain ⟨t172, A40, H⟩ := H
  replace H : (if (l0.length : Int) > 1000 then (some t172) else ((pack_Put.f k l0 a1 a2).bind fun bt173 => ((compositorref06_Put.f k l0 a1 a2).bind fun bt177 => ((pack_PutFix.f k l0 a1).bind fun bt181 => ((compositorref06_PutFix.f k l0 a1).bind fun bt185 => (if t172 = true then (if (strOfNums bt173.1).toList = (strOfNums bt177.1).toList then (if bt173.2 = bt177.2 then (if (strOfNums bt181.1).toList = (strOfNums bt185.1).toList then (some (bt181.2 == bt185.2)) else (none)) else (none)) else (none)) else (none))))))) = some r := H
  have A4 := Aside0.mk A40
  clear A40
  by_cases c5 : (l0.length : Int) > 1000
  · rw [if_pos c5] at H
    have c5b0 : decide (1000 < (l0.length : Int)) = true := decide_eq_true c5
    have c5b1 : decide (1000 < l0.length) = true := decide_eq_true (by omega)
    clear c5
    obtain rfl := Option.some.inj H
    go_enter Try.func3, Try.ntmps3
    go_wp2_with (first | ((with_reducible refine gate_callee (f := 9) rfl ?_); refine goesL_ (some 16) rfl rfl Try.func9 (by kernel_rfl) rfl #[] rfl (by (try simp only [List.map_toArray, List.map_cons, List.map_nil]); first | done | rfl | (simp only [List.length_drop, List.length_take]; rfl)) ?_; (with_reducible refine (compositorlaw06_awake.calls k  t172 _ A4.out).mono ?_); rintro e w6 ⟨rfl, hb⟩; refine ⟨_, rfl, ?_⟩; have n0_ := Aside0.mk (below_step (by repeat (first | (with_reducible first | exact HB.out | apply below_alloc | apply pw_below_drewN | apply below_drew1) | exact HB.out)) hb); clear HB; have HB := n0_; clear n0_; (try clear hb); (try clear hb2); (try clear hk); (try clear hi)))
    go_ret
    exact ⟨by first | rfl | (simp [errW_none, errW_some] <;> rfl) | (simp [*, errW_none, errW_some] <;> rfl), by repeat (first | (with_reducible first | exact HB.out | apply below_alloc | apply pw_below_drewN | apply below_drew1) | exact HB.out)⟩
  · rw [if_neg c5] at H
    have c5b0 : decide (1000 < (l0.length : Int)) = false := decide_eq_false c5
    have c5b1 : decide (1000 < l0.length) = false := decide_eq_false (by omega)
    clear c5
    replace H := Option.bind_eq_some_iff.mp H
    obtain ⟨⟨t173, t174⟩, A70, H⟩ := H
    replace H : ((compositorref06_Put.f k l0 a1 a2).bind fun bt177 => ((pack_PutFix.f k l0 a1).bind fun bt181 => ((compositorref06_PutFix.f k l0 a1).bind fun bt185 => (if t172 = true then (if (strOfNums t173).toList = (strOfNums bt177.1).toList then (if t174 = bt177.2 then (if (strOfNums bt181.1).toList = (strOfNums bt185.1).toList then (some (bt181.2 == bt185.2)) else (none)) else (none)) else (none)) else (none))))) = some r := H
    have A7 := Aside0.mk A70
    clear A70
    replace H := Option.bind_eq_some_iff.mp H
    obtain ⟨⟨t177, t178⟩, A80, H⟩ := H
    replace H : ((pack_PutFix.f k l0 a1).bind fun bt181 => ((compositorref06_PutFix.f k l0 a1).bind fun bt185 => (if t172 = true then (if (strOfNums t173).toList = (strOfNums t177).toList then (if t174 = t178 then (if (strOfNums bt181.1).toList = (strOfNums bt185.1).toList then (some (bt181.2 == bt185.2)) else (none)) else (none)) else (none)) else (none)))) = some r := H
    have A8 := Aside0.mk A80
    clear A80
    replace H := Option.bind_eq_some_iff.mp H
    obtain ⟨⟨t181, t182⟩, A90, H⟩ := H
    replace H : ((compositorref06_PutFix.f k l0 a1).bind fun bt185 => (if t172 = true then (if (strOfNums t173).toList = (strOfNums t177).toList then (if t174 = t178 then (if (strOfNums t181).toList = (strOfNums bt185.1).toList then (some (t182 == bt185.2)) else (none)) else (none)) else (none)) else (none))) = some r := H
    have A9 := Aside0.mk A90
    clear A90
    replace H := Option.bind_eq_some_iff.mp H
    obtain ⟨⟨t185, t186⟩, A100, H⟩ := H
    replace H : (if t172 = true then (if (strOfNums t173).toList = (strOfNums t177).toList then (if t174 = t178 then (if (strOfNums t181).toList = (strOfNums t185).toList then (some (t182 == t186)) else (none)) else (none)) else (none)) else (none)) = some r := H
    have A10 := Aside0.mk A100
    clear A100
    by_cases c11 : t172 = true
    · subst c11
      have H1 : (if (strOfNums t173).toList = (strOfNums t177).toList then (if t174 = t178 then (if (strOfNums t181).toList = (strOfNums t185).toList then (some (t182 == t186)) else (none)) else (none)) else (none)) = some r := by rw [if_pos rfl] at H; exact H
      clear H
      have H := H1
      clear H1
      by_cases c12 : (strOfNums t173).toList = (strOfNums t177).toList
      · rw [if_pos c12] at H
        have c12b0 : ((strOfNums t173).toList == (strOfNums t177).toList) = true := beq_iff_eq.mpr c12
        have c12b1 : ((strOfNums t173).toList != (strOfNums t177).toList) = false := bne_eq_false_iff_eq.mpr c12
        clear c12
        by_cases c13 : t174 = t178
        · rw [if_pos c13] at H
          have c13b0 : (t174 == t178) = true := beq_iff_eq.mpr c13
          have c13b1 : (t174 != t178) = false := bne_eq_false_iff_eq.mpr c13
          clear c13
          by_cases c14 : (strOfNums t181).toList = (strOfNums t185).toList
          · rw [if_pos c14] at H
            have c14b0 : ((strOfNums t181).toList == (strOfNums t185).toList) = true := beq_iff_eq.mpr c14
            have c14b1 : ((strOfNums t181).toList != (strOfNums t185).toList) = false := bne_eq_false_iff_eq.mpr c14
            clear c14
            obtain rfl := Option.some.inj H
            go_enter Try.func3, Try.ntmps3
            go_wp2_with (first | ((with_reducible refine gate_callee (f := 9) rfl ?_); refine goesL_ (some 16) rfl rfl Try.func9 (by kernel_rfl) rfl #[] rfl (by (try simp only [List.map_toArray, List.map_cons, List.map_nil]); first | done | rfl | (simp only [List.length_drop, List.length_take]; rfl)) ?_; (with_reducible refine (compositorlaw06_awake.calls k  true _ A4.out).mono ?_); rintro e w15 ⟨rfl, hb⟩; refine ⟨_, rfl, ?_⟩; have n0_ := Aside0.mk (below_step (by repeat (first | (with_reducible first | exact HB.out | apply below_alloc | apply pw_below_drewN | apply below_drew1) | exact HB.out)) hb); clear HB; have HB := n0_; clear n0_; (try clear hb); (try clear hb2); (try clear hk); (try clear hi)) | ((with_reducible refine gate_callee (f := 10) rfl ?_); refine goesL_ (some 25) rfl rfl Try.func10 (by kernel_rfl) rfl #[.slice A0 l0.length c0, .int .i64 a1, .int .i64 a2] rfl (by (try simp only [List.map_toArray, List.map_cons, List.map_nil]); first | done | rfl | (simp only [List.length_drop, List.length_take]; rfl)) ?_; (with_reducible refine (pack_Put.calls k _ _ l0 a1 a2 t173 t174 _ ?side1 ?side2 A7.out).mono ?_); (case side1 => repeat (first | exact (Kd.C_below HR0.out HB.out) | (with_reducible refine Kd.C_alloc ?_ _) | (with_reducible refine Kd.C_drewN ?_ _) | (with_reducible refine Kd.C_drew ?_))); (case side2 => exact HC0.out); rintro e w16 ⟨v175, rfl, ho0, hb⟩; refine ⟨_, rfl, ?_⟩; have n0_ := Aside0.mk (Kd.R_lower ho0 (below_size (by repeat (first | (with_reducible first | exact HB.out | apply below_alloc | apply pw_below_drewN | apply below_drew1) | exact HB.out)))); have n1_ := Aside0.mk (below_step (by repeat (first | (with_reducible first | exact HB.out | apply below_alloc | apply pw_below_drewN | apply below_drew1) | exact HB.out)) hb); clear HB; have HO176 := n0_; have HB := n1_; clear n0_ n1_; (try clear hb); (try clear hb2); (try clear hk); (try clear hi); (try clear ho0)) | ((with_reducible refine gate_callee (f := 11) rfl ?_); refine goesL_ (some 32) rfl rfl Try.func11 (by kernel_rfl) rfl #[.slice A0 l0.length c0, .int .i64 a1, .int .i64 a2] rfl (by (try simp only [List.map_toArray, List.map_cons, List.map_nil]); first | done | rfl | (simp only [List.length_drop, List.length_take]; rfl)) ?_; (with_reducible refine (compositorref06_Put.calls k _ _ l0 a1 a2 t177 t178 _ ?side1 ?side2 A8.out).mono ?_); (case side1 => repeat (first | exact (Kd.C_below HR0.out HB.out) | (with_reducible refine Kd.C_alloc ?_ _) | (with_reducible refine Kd.C_drewN ?_ _) | (with_reducible refine Kd.C_drew ?_))); (case side2 => exact HC0.out); rintro e w17 ⟨v179, rfl, ho0, hb⟩; refine ⟨_, rfl, ?_⟩; have n0_ := Aside0.mk (Kd.R_elder' (by (with_reducible repeat (first | apply Kd.R_alloc | apply Kd.R_drewN | apply Kd.R_drew)); exact HO176.out) (Kd.R_base ho0) hb); have n1_ := Aside0.mk (Kd.R_lower (Kd.R_new' ho0 (Kd.R_lt (by (with_reducible repeat (first | apply Kd.R_alloc | apply Kd.R_drewN | apply Kd.R_drew)); exact HO176.out))) (below_size (by repeat (first | (with_reducible first | exact HB.out | apply below_alloc | apply pw_below_drewN | apply below_drew1) | exact HB.out)))); have n2_ := Aside0.mk (below_step (by repeat (first | (with_reducible first | exact HB.out | apply below_alloc | apply pw_below_drewN | apply below_drew1) | exact HB.out)) hb); clear HO176; clear HB; have HO176 := n0_; have HO180 := n1_; have HB := n2_; clear n0_ n1_ n2_; (try clear hb); (try clear hb2); (try clear hk); (try clear hi); (try clear ho0)) | ((with_reducible refine gate_callee (f := 12) rfl ?_); refine goesL_ (some 38) rfl rfl Try.func12 (by kernel_rfl) rfl #[.slice A0 l0.length c0, .int .i64 a1] rfl (by (try simp only [List.map_toArray, List.map_cons, List.map_nil]); first | done | rfl | (simp only [List.length_drop, List.length_take]; rfl)) ?_; (with_reducible refine (pack_PutFix.calls k _ _ l0 a1 t181 t182 _ ?side1 ?side2 A9.out).mono ?_); (case side1 => repeat (first | exact (Kd.C_below HR0.out HB.out) | (with_reducible refine Kd.C_alloc ?_ _) | (with_reducible refine Kd.C_drewN ?_ _) | (with_reducible refine Kd.C_drew ?_))); (case side2 => exact HC0.out); rintro e w18 ⟨v183, rfl, ho0, hb⟩; refine ⟨_, rfl, ?_⟩; have n0_ := Aside0.mk (Kd.R_elder' (by (with_reducible repeat (first | apply Kd.R_alloc | apply Kd.R_drewN | apply Kd.R_drew)); exact HO176.out) (Kd.R_base ho0) hb); have n1_ := Aside0.mk (Kd.R_elder' (by (with_reducible repeat (first | apply Kd.R_alloc | apply Kd.R_drewN | apply Kd.R_drew)); exact HO180.out) (Kd.R_base ho0) hb); have n2_ := Aside0.mk (Kd.R_lower (Kd.R_new' (Kd.R_new' ho0 (Kd.R_lt (by (with_reducible repeat (first | apply Kd.R_alloc | apply Kd.R_drewN | apply Kd.R_drew)); exact HO176.out))) (Kd.R_lt (by (with_reducible repeat (first | apply Kd.R_alloc | apply Kd.R_drewN | apply Kd.R_drew)); exact HO180.out))) (below_size (by repeat (first | (with_reducible first | exact HB.out | apply below_alloc | apply pw_below_drewN | apply below_drew1) | exact HB.out)))); have n3_ := Aside0.mk (below_step (by repeat (first | (with_reducible first | exact HB.out | apply below_alloc | apply pw_below_drewN | apply below_drew1) | exact HB.out)) hb); clear HO176; clear HO180; clear HB; have HO176 := n0_; have HO180 := n1_; have HO184 := n2_; have HB := n3_; clear n0_ n1_ n2_ n3_; (try clear hb); (try clear hb2); (try clear hk); (try clear hi); (try clear ho0)) | ((with_reducible refine gate_callee (f := 13) rfl ?_); refine goesL_ (some 44) rfl rfl Try.func13 (by kernel_rfl) rfl #[.slice A0 l0.length c0, .int .i64 a1] rfl (by (try simp only [List.map_toArray, List.map_cons, List.map_nil]); first | done | rfl | (simp only [List.length_drop, List.length_take]; rfl)) ?_; (with_reducible refine (compositorref06_PutFix.calls k _ _ l0 a1 t185 t186 _ ?side1 ?side2 A10.out).mono ?_); (case side1 => repeat (first | exact (Kd.C_below HR0.out HB.out) | (with_reducible refine Kd.C_alloc ?_ _) | (with_reducible refine Kd.C_drewN ?_ _) | (with_reducible refine Kd.C_drew ?_))); (case side2 => exact HC0.out); rintro e w19 ⟨v187, rfl, ho0, hb⟩; refine ⟨_, rfl, ?_⟩; have n0_ := Aside0.mk (Kd.R_elder' (by (with_reducible repeat (first | apply Kd.R_alloc | apply Kd.R_drewN | apply Kd.R_drew)); exact HO176.out) (Kd.R_base ho0) hb); have n1_ := Aside0.mk (Kd.R_elder' (by (with_reducible repeat (first | apply Kd.R_alloc | apply Kd.R_drewN | apply Kd.R_drew)); exact HO180.out) (Kd.R_base ho0) hb); have n2_ := Aside0.mk (Kd.R_elder' (by (with_reducible repeat (first | apply Kd.R_alloc | apply Kd.R_drewN | apply Kd.R_drew)); exact HO184.out) (Kd.R_base ho0) hb); have n3_ := Aside0.mk (Kd.R_lower (Kd.R_new' (Kd.R_new' (Kd.R_new' ho0 (Kd.R_lt (by (with_reducible repeat (first | apply Kd.R_alloc | apply Kd.R_drewN | apply Kd.R_drew)); exact HO176.out))) (Kd.R_lt (by (with_reducible repeat (first | apply Kd.R_alloc | apply Kd.R_drewN | apply Kd.R_drew)); exact HO180.out))) (Kd.R_lt (by (with_reducible repeat (first | apply Kd.R_alloc | apply Kd.R_drewN | apply Kd.R_drew)); exact HO184.out))) (below_size (by repeat (first | (with_reducible first | exact HB.out | apply below_alloc | apply pw_below_drewN | apply below_drew1) | exact HB.out)))); have n4_ := Aside0.mk (below_step (by repeat (first | (with_reducible first | exact HB.out | apply below_alloc | apply pw_below_drewN | apply below_drew1) | exact HB.out)) hb); clear HO176; clear HO180; clear HO184; clear HB; have HO176 := n0_; have HO180 := n1_; have HO184 := n2_; have HO188 := n3_; have HB := n4_; clear n0_ n1_ n2_ n3_ n4_; (try clear hb); (try clear hb2); (try clear hk); (try clear hi); (try clear ho0); have hcv20 := own_string (P := Try.prog) Try.underlying22 Try.underlying5 Try.underlying9 (Kd.own_of_R HO176.out); have hcvq20 := fun n_ : Nat => own_string (P := Try.prog) Try.underlying22 Try.underlying5 Try.underlying9 (Kd.own_of_R (Kd.R_drewN HO176.out n_)); have hcv21 := own_string (P := Try.prog) Try.underlying22 Try.underlying5 Try.underlying9 (Kd.own_of_R HO180.out); have hcvq21 := fun n_ : Nat => own_string (P := Try.prog) Try.underlying22 Try.underlying5 Try.underlying9 (Kd.own_of_R (Kd.R_drewN HO180.out n_)); have hcv22 := own_string (P := Try.prog) Try.underlying22 Try.underlying5 Try.underlying9 (Kd.own_of_R HO184.out); have hcvq22 := fun n_ : Nat => own_string (P := Try.prog) Try.underlying22 Try.underlying5 Try.underlying9 (Kd.own_of_R (Kd.R_drewN HO184.out n_)); have hcv23 := own_string (P := Try.prog) Try.underlying22 Try.underlying5 Try.underlying9 (Kd.own_of_R HO188.out); have hcvq23 := fun n_ : Nat => own_string (P := Try.prog) Try.underlying22 Try.underlying5 Try.underlying9 (Kd.own_of_R (Kd.R_drewN HO188.out n_))))
            go_ret
            exact ⟨by first | rfl | (simp [errW_none, errW_some] <;> rfl) | (simp [*, errW_none, errW_some] <;> rfl), by repeat (first | (with_reducible first | exact HB.out | apply below_alloc | apply pw_below_drewN | apply below_drew1) | exact HB.out)⟩
          · rw [if_neg c14] at H
            exact absurd H (by simp)
        · rw [if_neg c13] at H
          exact absurd H (by simp)
      · rw [if_neg c12] at H
        exact absurd H (by simp)
    · replace c11 := Bool.eq_false_iff.mpr c11
      subst c11
      have H1 : (none) = some r := by rw [if_neg (show ¬ (false = true) by decide)] at H; exact H
      clear H
      have H := H1
      clear H1
      exact absurd H (by simp)

/-- THE ONE PURE STATEMENT of compositorlaw06_PackPuts: yours. -/
def compositorlaw06_PackPuts.Pure : Prop := ∀ (l0 : List Int) (a1 : Int) (a2 : Int), l0.length ≤ maxLen → l0.length * 1 ≤ 140737488351232 → (∀ x ∈ l0, (Lit.int .u8 x).wf = true) → (Lit.int .i64 a1).wf = true → (Lit.int .i64 a2).wf = true → ∃ k, compositorlaw06_PackPuts.f k l0 a1 a2 = some true
theorem compositorlaw06_PackPuts.walk (P : compositorlaw06_PackPuts.Pure) (a0 : Option Addr) (len0 cap0 : Nat) (z0 : List Int) (a1 : Int) (a2 : Int) (w : World) (w0 : (a0 = none ∧ len0 = 0 ∧ cap0 = 0 ∧ z0 = []) ∨ ∃ x, a0 = some x ∧ len0 ≤ cap0 ∧ cap0 ≤ maxLen ∧ z0.length = cap0 ∧ (∀ i, i < z0.length → w.cell? (x.add i) = some (.int .u8 (z0.getD i 0))) ∧ ∀ n ∈ z0, (Lit.int .u8 n).wf = true) (y0 : len0 * 1 ≤ 140737488351232) (w1 : (Lit.int .i64 a1).wf = true) (w2 : (Lit.int .i64 a2).wf = true) :
    Calls Try.prog 3 #[.slice a0 len0 cap0, .int .i64 a1, .int .i64 a2] w fun e w' => e = .returned (.bool true) ∧ Below w.heap.size w w' := by
  obtain ⟨l0, rfl, hr0, hm0, hw0, hc0⟩ := ReadsInt.ofRowC w0
  obtain ⟨k, h⟩ := P l0 a1 a2 hm0 y0 hw0 w1 w2
  refine (compositorlaw06_PackPuts.calls k _ _ l0 a1 a2 true w (Kd.C_of_reads (d := (0 : Int)) (h1 := fun _ => rfl) hr0) hc0 h).mono ?_
  rintro e w' ⟨rfl, hd⟩
  exact ⟨rfl, hd⟩

end Go.Proofs.Ytlkoaiogdkmglaa.G
