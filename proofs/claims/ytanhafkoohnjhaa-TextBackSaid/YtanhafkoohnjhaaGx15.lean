/- Contracts of the functions of this seat: what each call computes, as a plain Lean function. Made by this session's own generator. -/
import Derived.Test.YtanhafkoohnjhaaGx0
import Derived.Test.YtanhafkoohnjhaaGx1
import Derived.Test.YtanhafkoohnjhaaGx3
import Derived.Test.YtanhafkoohnjhaaGx4
import Derived.Test.YtanhafkoohnjhaaGx6
import Derived.Test.YtanhafkoohnjhaaGx11
import Derived.Test.YtanhafkoohnjhaaGx12
namespace Go.Proofs.Ytanhafkoohnjhaa.G
open Go.RowKit Go.Proofs.YtanhafkoohnjhaaMy Go.Proofs.YtanhafkoohnjhaaW.PrintWords Go.Proofs.YtanhafkoohnjhaaW.PrintLast Go.Proofs.YtanhafkoohnjhaaW.PrintMore
attribute [local go_sem] max2_int min2_int max_two min_two max_three min_three max_four min_four   -- for this text's walks alone
set_option linter.unusedVariables false
set_option linter.unusedSimpArgs false

/-! ### compositorlaw13_TextBack: function 5 -/
mutual
def compositorlaw13_TextBack.j0 : Nat → List (S36) → List Int → Bool → Bool → Option (Bool)
 | 0, _, _, _, _ => none
 | k + 1, x0, x1, x5, x26 => if x26 = true then (some x5) else ((text_Write.f k x0).bind fun bt278 => ((text_Read.f k bt278.1).bind fun bt282 => ((compositorref13_Same.f k x0 bt282.1).bind fun t286 => (if bt278.2 = 0 then (if bt282.2 = 0 then (if t286 = true then ((text_Check.f k x0).bind fun t287 => (compositorlaw13_TextBack.j1 k x1 x5 ((bt278.2 == 0) != t287))) else (compositorlaw13_TextBack.j1 k x1 x5 true)) else (compositorlaw13_TextBack.j1 k x1 x5 true)) else ((text_Check.f k x0).bind fun t288 => (compositorlaw13_TextBack.j1 k x1 x5 ((bt278.2 == 0) != t288)))))))
def compositorlaw13_TextBack.j1 : Nat → List Int → Bool → Bool → Option (Bool)
 | 0, _, _, _ => none
 | k + 1, x1, x5, x57 => if x57 = true then (none) else ((text_Read.f k x1).bind fun bt289 => ((text_Write.f k bt289.1).bind fun bt293 => ((text_Read.f k bt293.1).bind fun bt297 => ((compositorref13_Same.f k bt289.1 bt297.1).bind fun t301 => (if x5 = true then (if bt289.2 = 0 then (if bt293.2 = 0 then (if bt297.2 = 0 then (if t301 = true then (some (decide ((bt293.1.length : Int) ≤ (x1.length : Int)))) else (none)) else (none)) else (none)) else (some true)) else (none))))))
end
def compositorlaw13_TextBack.f (k : Nat) (l0 : List (S36)) (l1 : List Int) : Option (Bool) := (compositorlaw13_awake.f k).bind fun t276 => ((compositorref13_Few.f k l0).bind fun t277 => (if t277 = true then (compositorlaw13_TextBack.j0 k l0 l1 t276 (decide ((l1.length : Int) > 2000))) else (compositorlaw13_TextBack.j0 k l0 l1 t276 true)))
theorem compositorlaw13_TextBack.mono_l : ∀ k, (∀ y0 y1 y2 y3, LeO (compositorlaw13_TextBack.j0 k y0 y1 y2 y3) (compositorlaw13_TextBack.j0 (k + 1) y0 y1 y2 y3)) ∧ (∀ y0 y1 y2, LeO (compositorlaw13_TextBack.j1 k y0 y1 y2) (compositorlaw13_TextBack.j1 (k + 1) y0 y1 y2))
 | 0 => ⟨fun _ _ _ _ r h => by simp [compositorlaw13_TextBack.j0] at h, fun _ _ _ r h => by simp [compositorlaw13_TextBack.j1] at h⟩
 | k + 1 => by
  obtain ⟨ih0, ih1⟩ := compositorlaw13_TextBack.mono_l k
  refine ⟨?_, ?_⟩
  ·intro y0 y1 y2 y3
   unfold compositorlaw13_TextBack.j0
   repeat' first
   | (with_reducible exact ih0 _ _ _ _)
   | (with_reducible exact ih1 _ _ _)
   | (with_reducible exact compositorlaw13_awake.mono _)
   | (with_reducible exact compositorref13_Few.mono _ _)
   | (with_reducible exact compositorref13_Same.mono _ _ _)
   | (with_reducible exact text_Check.mono _ _)
   | (with_reducible exact text_Read.mono _ _)
   | (with_reducible exact text_Write.mono _ _)
   | (with_reducible exact LeO.refl _)
   | (with_reducible exact LeO.none _)
   | (with_reducible refine LeO.ite ?_ ?_)
   | (with_reducible refine LeO.bind ?_ (fun _ => ?_))
   | exact ih0 _ _ _ _
   | exact ih1 _ _ _
   | exact compositorlaw13_awake.mono _
   | exact compositorref13_Few.mono _ _
   | exact compositorref13_Same.mono _ _ _
   | exact text_Check.mono _ _
   | exact text_Read.mono _ _
   | exact text_Write.mono _ _
   | exact LeO.none _
   | refine LeO.ite ?_ ?_
   | refine LeO.bind ?_ (fun _ => ?_)
  ·intro y0 y1 y2
   unfold compositorlaw13_TextBack.j1
   repeat' first
   | (with_reducible exact ih0 _ _ _ _)
   | (with_reducible exact ih1 _ _ _)
   | (with_reducible exact compositorlaw13_awake.mono _)
   | (with_reducible exact compositorref13_Few.mono _ _)
   | (with_reducible exact compositorref13_Same.mono _ _ _)
   | (with_reducible exact text_Check.mono _ _)
   | (with_reducible exact text_Read.mono _ _)
   | (with_reducible exact text_Write.mono _ _)
   | (with_reducible exact LeO.refl _)
   | (with_reducible exact LeO.none _)
   | (with_reducible refine LeO.ite ?_ ?_)
   | (with_reducible refine LeO.bind ?_ (fun _ => ?_))
   | exact ih0 _ _ _ _
   | exact ih1 _ _ _
   | exact compositorlaw13_awake.mono _
   | exact compositorref13_Few.mono _ _
   | exact compositorref13_Same.mono _ _ _
   | exact text_Check.mono _ _
   | exact text_Read.mono _ _
   | exact text_Write.mono _ _
   | exact LeO.none _
   | refine LeO.ite ?_ ?_
   | refine LeO.bind ?_ (fun _ => ?_)
theorem compositorlaw13_TextBack.mono : ∀ a0 a1 k, LeO (compositorlaw13_TextBack.f k a0 a1) (compositorlaw13_TextBack.f (k + 1) a0 a1) := by
 intro a0 a1 k
 obtain ⟨ih0, ih1⟩ := compositorlaw13_TextBack.mono_l k
 unfold compositorlaw13_TextBack.f
 repeat' first
   | (with_reducible exact ih0 _ _ _ _)
   | (with_reducible exact ih1 _ _ _)
   | (with_reducible exact compositorlaw13_awake.mono _)
   | (with_reducible exact compositorref13_Few.mono _ _)
   | (with_reducible exact compositorref13_Same.mono _ _ _)
   | (with_reducible exact text_Check.mono _ _)
   | (with_reducible exact text_Read.mono _ _)
   | (with_reducible exact text_Write.mono _ _)
   | (with_reducible exact LeO.refl _)
   | (with_reducible exact LeO.none _)
   | (with_reducible refine LeO.ite ?_ ?_)
   | (with_reducible refine LeO.bind ?_ (fun _ => ?_))
   | exact ih0 _ _ _ _
   | exact ih1 _ _ _
   | exact compositorlaw13_awake.mono _
   | exact compositorref13_Few.mono _ _
   | exact compositorref13_Same.mono _ _ _
   | exact text_Check.mono _ _
   | exact text_Read.mono _ _
   | exact text_Write.mono _ _
   | exact LeO.none _
   | refine LeO.ite ?_ ?_
   | refine LeO.bind ?_ (fun _ => ?_)
set_option maxHeartbeats 8000000 in
set_option maxRecDepth 100000 in
theorem compositorlaw13_TextBack.calls (k : Nat) (A0 : Option Addr) (c0 : Nat) (l0 : List (S36)) (A1 : Option Addr) (c1 : Nat) (l1 : List Int) (r : Bool) (w : World) (hr0 : Kd.C k36 w A0 l0.length l0) (hc0 : l0.length ≤ c0) (hr1 : Kd.C (Kd.int .u8) w A1 l1.length l1) (hc1 : l1.length ≤ c1) (h : compositorlaw13_TextBack.f k l0 l1 = some r) :
  Calls Try.prog 5 #[.slice A0 l0.length c0, .slice A1 l1.length c1] w fun e w' => e = .returned (.bool r) ∧ Below w.heap.size w w' := by
 have HR0 := Aside0.mk hr0
 have HC0 := Aside0.mk hc0
 clear hr0 hc0
 have HR1 := Aside0.mk hr1
 have HC1 := Aside0.mk hc1
 clear hr1 hc1
 have HB := Aside0.mk (Below.refl w.heap.size w)
 have H : ((compositorlaw13_awake.f k).bind fun t276 => ((compositorref13_Few.f k l0).bind fun t277 => (if t277 = true then (compositorlaw13_TextBack.j0 k l0 l1 t276 (decide ((l1.length : Int) > 2000))) else (compositorlaw13_TextBack.j0 k l0 l1 t276 true)))) = some r := h
 clear h
 replace H := Option.bind_eq_some_iff.mp H
 obtain ⟨t276, A30, H⟩ := H
 replace H : ((compositorref13_Few.f k l0).bind fun t277 => (if t277 = true then (compositorlaw13_TextBack.j0 k l0 l1 t276 (decide ((l1.length : Int) > 2000))) else (compositorlaw13_TextBack.j0 k l0 l1 t276 true))) = some r := H
 have A3 := Aside0.mk A30
 clear A30
 have HC4 := Aside0.mk H
 clear H
 go_enter Try.func5, Try.ntmps5
 go_upto_region 2 with (first | ((with_reducible refine gate_callee (f := 10) rfl ?_); refine goesL_ (some 18) rfl rfl Try.func10 (by kernel_rfl) rfl #[] rfl (by (try simp only [List.map_toArray, List.map_cons, List.map_nil]); first | done | rfl | (simp only [List.length_drop, List.length_take]; rfl)) ?_; (with_reducible refine (compositorlaw13_awake.calls k  t276 _ A3.out).mono ?_); rintro e w5 ⟨rfl, hb⟩; refine ⟨_, rfl, ?_⟩; have n0_ := Aside0.mk (below_step (by repeat (first | (with_reducible first | exact HB.out | apply below_alloc | apply pw_below_drewN | apply below_drew1) | exact HB.out)) hb); clear HB; have HB := n0_; clear n0_; (try clear hb); (try clear hb2); (try clear hk); (try clear hi)))
 (try simp only [Act.put, List.setIfInBounds_toArray, List.set_cons_zero, List.set_cons_succ])
 go_cut [26] (fun v26 wc => ∃ (kq : Nat) (x26_3 : Bool), v26 = .bool x26_3 ∧ Aside0 (compositorlaw13_TextBack.j0 kq l0 l1 t276 x26_3 = some r) ∧ Aside0 (kq ≤ k) ∧ Aside0 (Below w.heap.size w wc))
 case first =>
  have H := HC4.out
  clear HC4
  replace H := Option.bind_eq_some_iff.mp H
  obtain ⟨t277, A60, H⟩ := H
  replace H : (if t277 = true then (compositorlaw13_TextBack.j0 k l0 l1 t276 (decide ((l1.length : Int) > 2000))) else (compositorlaw13_TextBack.j0 k l0 l1 t276 true)) = some r := H
  have A6 := Aside0.mk A60
  clear A60
  by_cases c7 : t277 = true
  ·subst c7
   have H1 : (compositorlaw13_TextBack.j0 k l0 l1 t276 (decide ((l1.length : Int) > 2000))) = some r := by rw [if_pos rfl] at H; exact H
   clear H
   have H := H1
   clear H1
   have H' := Aside0.mk H
   clear H
   go_wp2_with (first | ((with_reducible refine gate_callee (f := 14) rfl ?_); refine goesL_ (some 20) rfl rfl Try.func14 (by kernel_rfl) rfl #[.slice A0 l0.length c0] rfl (by (try simp only [List.map_toArray, List.map_cons, List.map_nil]); first | done | rfl | (simp only [List.length_drop, List.length_take]; rfl)) ?_; (with_reducible refine (compositorref13_Few.calls k _ _ l0 true _ ?side1 ?side2 A6.out).mono ?_); (case side1 => repeat (first | exact (Kd.C_below HR0.out HB.out) | (with_reducible apply Kd.C_alloc) | (with_reducible apply Kd.C_drewN) | (with_reducible apply Kd.C_drew))); (case side2 => exact HC0.out); rintro e w' ⟨rfl, ⟨nd, rfl⟩⟩; refine ⟨_, rfl, ?_⟩))
   go_meet
   case rel => exact ⟨_, (decide ((l1.length : Int) > 2000)), (by first | rfl | (simp; done) | (simp [*]; done)), H', ⟨by first | omega | exact Nat.le_refl _⟩, ⟨by repeat (first | (with_reducible first | exact HB.out | apply below_alloc | apply pw_below_drewN | apply below_drew1) | exact HB.out)⟩⟩
  ·replace c7 := Bool.eq_false_iff.mpr c7
   subst c7
   have H1 : (compositorlaw13_TextBack.j0 k l0 l1 t276 true) = some r := by rw [if_neg (show ¬ (false = true) by decide)] at H; exact H
   clear H
   have H := H1
   clear H1
   have H' := Aside0.mk H
   clear H
   go_wp2_with (first | ((with_reducible refine gate_callee (f := 14) rfl ?_); refine goesL_ (some 20) rfl rfl Try.func14 (by kernel_rfl) rfl #[.slice A0 l0.length c0] rfl (by (try simp only [List.map_toArray, List.map_cons, List.map_nil]); first | done | rfl | (simp only [List.length_drop, List.length_take]; rfl)) ?_; (with_reducible refine (compositorref13_Few.calls k _ _ l0 false _ ?side1 ?side2 A6.out).mono ?_); (case side1 => repeat (first | exact (Kd.C_below HR0.out HB.out) | (with_reducible apply Kd.C_alloc) | (with_reducible apply Kd.C_drewN) | (with_reducible apply Kd.C_drew))); (case side2 => exact HC0.out); rintro e w' ⟨rfl, ⟨nd, rfl⟩⟩; refine ⟨_, rfl, ?_⟩))
   go_meet
   case rel => exact ⟨_, (true), (by first | rfl | (simp; done) | (simp [*]; done)), H', ⟨by first | omega | exact Nat.le_refl _⟩, ⟨by repeat (first | (with_reducible first | exact HB.out | apply below_alloc | apply pw_below_drewN | apply below_drew1) | exact HB.out)⟩⟩
 case rest =>
  clear HC4
  try clear c1
  try clear p2
  try clear c5
  try clear c7
  obtain ⟨kq, x26_3, rfl, HA, HJ3, HB⟩ := hcut
  cases kq with
  | zero => exact absurd HA.out (by simp [compositorlaw13_TextBack.j0])
  | succ kj3 =>
   have H := HA.out
   clear HA
   simp only [compositorlaw13_TextBack.j0] at H
   by_cases c8 : x26_3 = true
   ·subst c8
    have H1 : (some t276) = some r := by rw [if_pos rfl] at H; exact H
    clear H
    have H := H1
    clear H1
    obtain rfl := Option.some.inj H
    go_wp2
    go_ret
    exact ⟨by first | rfl | (simp [errW_none, errW_some] <;> rfl) | (simp [*, errW_none, errW_some] <;> rfl), by repeat (first | (with_reducible first | exact HB.out | apply below_alloc | apply pw_below_drewN | apply below_drew1) | exact HB.out)⟩
   ·replace c8 := Bool.eq_false_iff.mpr c8
    subst c8
    have H1 : ((text_Write.f kj3 l0).bind fun bt278 => ((text_Read.f kj3 bt278.1).bind fun bt282 => ((compositorref13_Same.f kj3 l0 bt282.1).bind fun t286 => (if bt278.2 = 0 then (if bt282.2 = 0 then (if t286 = true then ((text_Check.f kj3 l0).bind fun t287 => (compositorlaw13_TextBack.j1 kj3 l1 t276 ((bt278.2 == 0) != t287))) else (compositorlaw13_TextBack.j1 kj3 l1 t276 true)) else (compositorlaw13_TextBack.j1 kj3 l1 t276 true)) else ((text_Check.f kj3 l0).bind fun t288 => (compositorlaw13_TextBack.j1 kj3 l1 t276 ((bt278.2 == 0) != t288))))))) = some r := by rw [if_neg (show ¬ (false = true) by decide)] at H; exact H
    clear H
    have H := H1
    clear H1
    replace H := Option.bind_eq_some_iff.mp H
    obtain ⟨⟨t278, t279⟩, A90, H⟩ := H
    replace H : ((text_Read.f kj3 t278).bind fun bt282 => ((compositorref13_Same.f kj3 l0 bt282.1).bind fun t286 => (if t279 = 0 then (if bt282.2 = 0 then (if t286 = true then ((text_Check.f kj3 l0).bind fun t287 => (compositorlaw13_TextBack.j1 kj3 l1 t276 ((t279 == 0) != t287))) else (compositorlaw13_TextBack.j1 kj3 l1 t276 true)) else (compositorlaw13_TextBack.j1 kj3 l1 t276 true)) else ((text_Check.f kj3 l0).bind fun t288 => (compositorlaw13_TextBack.j1 kj3 l1 t276 ((t279 == 0) != t288)))))) = some r := H
    have A9 := Aside0.mk A90
    clear A90
    replace H := Option.bind_eq_some_iff.mp H
    obtain ⟨⟨t282, t283⟩, A100, H⟩ := H
    replace H : ((compositorref13_Same.f kj3 l0 t282).bind fun t286 => (if t279 = 0 then (if t283 = 0 then (if t286 = true then ((text_Check.f kj3 l0).bind fun t287 => (compositorlaw13_TextBack.j1 kj3 l1 t276 ((t279 == 0) != t287))) else (compositorlaw13_TextBack.j1 kj3 l1 t276 true)) else (compositorlaw13_TextBack.j1 kj3 l1 t276 true)) else ((text_Check.f kj3 l0).bind fun t288 => (compositorlaw13_TextBack.j1 kj3 l1 t276 ((t279 == 0) != t288))))) = some r := H
    have A10 := Aside0.mk A100
    clear A100
    replace H := Option.bind_eq_some_iff.mp H
    obtain ⟨t286, A110, H⟩ := H
    replace H : (if t279 = 0 then (if t283 = 0 then (if t286 = true then ((text_Check.f kj3 l0).bind fun t287 => (compositorlaw13_TextBack.j1 kj3 l1 t276 ((t279 == 0) != t287))) else (compositorlaw13_TextBack.j1 kj3 l1 t276 true)) else (compositorlaw13_TextBack.j1 kj3 l1 t276 true)) else ((text_Check.f kj3 l0).bind fun t288 => (compositorlaw13_TextBack.j1 kj3 l1 t276 ((t279 == 0) != t288)))) = some r := H
    have A11 := Aside0.mk A110
    clear A110
    have HC12 := Aside0.mk H
    clear H
    have tk_ : True := trivial
    go_upto_region 7 with (first | (go_at_call 15; clear tk_; (with_reducible refine (text_Write.calls kj3 _ _ l0 t278 t279 _ ?side1 ?side2 A9.out).mono ?_); (case side1 => repeat (first | exact (Kd.C_below HR0.out HB.out) | (with_reducible apply Kd.C_alloc) | (with_reducible apply Kd.C_drewN) | (with_reducible apply Kd.C_drew))); (case side2 => exact HC0.out); rintro e w13 ⟨v280, rfl, ho0, hb⟩; have n0_ := Aside0.mk (Kd.R_lower ho0 (below_size (by repeat (first | (with_reducible first | exact HB.out | apply below_alloc | apply pw_below_drewN | apply below_drew1) | exact HB.out)))); have n1_ := Aside0.mk (below_step (by repeat (first | (with_reducible first | exact HB.out | apply below_alloc | apply pw_below_drewN | apply below_drew1) | exact HB.out)) hb); clear HB; have HO281 := n0_; have HB := n1_; clear n0_ n1_; (try clear hb); (try clear hb2); (try clear hk); (try clear hi); (try clear ho0); obtain ⟨Ao14, co14, eo14⟩ := Kd.R_slice HO281.out; subst eo14))
    as_aux_lemma =>
    have tk_ : True := trivial
    go_upto_region 7 with (first | (go_at_call 11; clear tk_; (with_reducible refine (text_Read.calls kj3 _ _ t278 t282 t283 _ ?side1 ?side2 A10.out).mono ?_); (case side1 => repeat (first | exact (Kd.R_reads' HO281.out).2.2 | (with_reducible apply Kd.C_alloc) | (with_reducible apply Kd.C_drewN) | (with_reducible apply Kd.C_drew))); (case side2 => exact (Kd.R_reads' HO281.out).2.1); rintro e w15 ⟨v284, rfl, ho0, hb⟩; have n0_ := Aside0.mk (Kd.R_below (by (with_reducible repeat (first | apply Kd.R_alloc | apply Kd.R_drewN | apply Kd.R_drew)); exact HO281.out) hb); have n1_ := Aside0.mk (Kd.S_lower ho0 (below_size (by repeat (first | (with_reducible first | exact HB.out | apply below_alloc | apply pw_below_drewN | apply below_drew1) | exact HB.out)))); have n2_ := Aside0.mk (below_step (by repeat (first | (with_reducible first | exact HB.out | apply below_alloc | apply pw_below_drewN | apply below_drew1) | exact HB.out)) hb); clear HO281; clear HB; have HO281 := n0_; have HO285 := n1_; have HB := n2_; clear n0_ n1_ n2_; (try clear hb); (try clear hb2); (try clear hk); (try clear hi); (try clear ho0); obtain ⟨Ao16, co16, eo16⟩ := Kd.S_slice HO285.out; subst eo16))
    as_aux_lemma =>
    have tk_ : True := trivial
    go_upto_region 7 with (first | (go_at_call 13; clear tk_; (with_reducible refine (compositorref13_Same.calls kj3 _ _ l0 _ _ t282 t286 _ ?side1 ?side2 ?side3 ?side4 A11.out).mono ?_); (case side1 => repeat (first | exact (Kd.C_below HR0.out HB.out) | (with_reducible apply Kd.C_alloc) | (with_reducible apply Kd.C_drewN) | (with_reducible apply Kd.C_drew))); (case side2 => exact HC0.out); (case side3 => repeat (first | exact (Kd.S_reads' HO285.out).2.2 | (with_reducible apply Kd.C_alloc) | (with_reducible apply Kd.C_drewN) | (with_reducible apply Kd.C_drew))); (case side4 => exact (Kd.S_reads' HO285.out).2.1); rintro e w' ⟨rfl, ⟨nd, rfl⟩⟩))
    (try simp only [Act.put, List.setIfInBounds_toArray, List.set_cons_zero, List.set_cons_succ])
    go_cut [57] (fun v57 wc => ∃ (kq : Nat) (x57_11 : Bool), v57 = .bool x57_11 ∧ Aside0 (compositorlaw13_TextBack.j1 kq l1 t276 x57_11 = some r) ∧ Aside0 (kq ≤ kj3) ∧ Aside0 (Below w.heap.size w wc))
    case first =>
     have H := HC12.out
     clear HC12
     by_cases c17 : t279 = 0
     ·rw [if_pos c17] at H
      have c17b0 : (t279 == 0) = true := beq_iff_eq.mpr c17
      have c17b1 : (t279 != 0) = false := bne_eq_false_iff_eq.mpr c17
      clear c17
      (first | rw [c17b0] | (simp only [i64_w, i32_w]; rw [c17b0]) | skip)
      by_cases c18 : t283 = 0
      ·rw [if_pos c18] at H
       have c18b0 : (t283 == 0) = true := beq_iff_eq.mpr c18
       have c18b1 : (t283 != 0) = false := bne_eq_false_iff_eq.mpr c18
       clear c18
       by_cases c19 : t286 = true
       ·subst c19
        have H1 : ((text_Check.f kj3 l0).bind fun t287 => (compositorlaw13_TextBack.j1 kj3 l1 t276 ((t279 == 0) != t287))) = some r := by rw [if_pos rfl] at H; exact H
        clear H
        have H := H1
        clear H1
        replace H := Option.bind_eq_some_iff.mp H
        obtain ⟨t287, A200, H⟩ := H
        replace H : (compositorlaw13_TextBack.j1 kj3 l1 t276 ((t279 == 0) != t287)) = some r := H
        have A20 := Aside0.mk A200
        clear A200
        have H' := Aside0.mk H
        clear H
        go_wp2_with (first | (go_at_call 17; (with_reducible refine (text_Check.calls kj3 _ _ l0 t287 _ ?side1 ?side2 A20.out).mono ?_); (case side1 => repeat (first | exact (Kd.C_below HR0.out HB.out) | (with_reducible apply Kd.C_alloc) | (with_reducible apply Kd.C_drewN) | (with_reducible apply Kd.C_drew))); (case side2 => exact HC0.out); rintro e w21 ⟨rfl, hb⟩; have n0_ := Aside0.mk (Kd.R_below (by (with_reducible repeat (first | apply Kd.R_alloc | apply Kd.R_drewN | apply Kd.R_drew)); exact HO281.out) hb); have n1_ := Aside0.mk (Kd.S_below (by (with_reducible repeat (first | apply Kd.S_alloc | apply Kd.S_drewN | apply Kd.S_drew)); exact HO285.out) hb); have n2_ := Aside0.mk (below_step (by repeat (first | (with_reducible first | exact HB.out | apply below_alloc | apply pw_below_drewN | apply below_drew1) | exact HB.out)) hb); clear HO281; clear HO285; clear HB; have HO281 := n0_; have HO285 := n1_; have HB := n2_; clear n0_ n1_ n2_; (try clear hb); (try clear hb2); (try clear hk); (try clear hi)))
        go_meet
        case rel => exact ⟨_, (((t279 == 0) != t287)), (by first | rfl | (simp; done) | (simp [*]; done)), H', ⟨by have := HJ3.out; first | omega | exact Nat.le_refl _⟩, ⟨by repeat (first | (with_reducible first | exact HB.out | apply below_alloc | apply pw_below_drewN | apply below_drew1) | exact HB.out)⟩⟩
       ·replace c19 := Bool.eq_false_iff.mpr c19
        subst c19
        have H1 : (compositorlaw13_TextBack.j1 kj3 l1 t276 true) = some r := by rw [if_neg (show ¬ (false = true) by decide)] at H; exact H
        clear H
        have H := H1
        clear H1
        have H' := Aside0.mk H
        clear H
        go_wp2
        go_meet
        case rel => exact ⟨_, (true), (by first | rfl | (simp; done) | (simp [*]; done)), H', ⟨by have := HJ3.out; first | omega | exact Nat.le_refl _⟩, ⟨by repeat (first | (with_reducible first | exact HB.out | apply below_alloc | apply pw_below_drewN | apply below_drew1) | exact HB.out)⟩⟩
      ·rw [if_neg c18] at H
       have c18b0 : (t283 == 0) = false := beq_eq_false_iff_ne.mpr c18
       have c18b1 : (t283 != 0) = true := bne_iff_ne.mpr c18
       have H' := Aside0.mk H
       clear H
       go_wp2
       go_meet
       case rel => exact ⟨_, (true), (by first | rfl | (simp; done) | (simp [*]; done)), H', ⟨by have := HJ3.out; first | omega | exact Nat.le_refl _⟩, ⟨by repeat (first | (with_reducible first | exact HB.out | apply below_alloc | apply pw_below_drewN | apply below_drew1) | exact HB.out)⟩⟩
     ·rw [if_neg c17] at H
      have c17b0 : (t279 == 0) = false := beq_eq_false_iff_ne.mpr c17
      have c17b1 : (t279 != 0) = true := bne_iff_ne.mpr c17
      (first | rw [c17b0] | (simp only [i64_w, i32_w]; rw [c17b0]) | skip)
      replace H := Option.bind_eq_some_iff.mp H
      obtain ⟨t288, A220, H⟩ := H
      replace H : (compositorlaw13_TextBack.j1 kj3 l1 t276 ((t279 == 0) != t288)) = some r := H
      have A22 := Aside0.mk A220
      clear A220
      have H' := Aside0.mk H
      clear H
      go_wp2_with (first | (go_at_call 17; (with_reducible refine (text_Check.calls kj3 _ _ l0 t288 _ ?side1 ?side2 A22.out).mono ?_); (case side1 => repeat (first | exact (Kd.C_below HR0.out HB.out) | (with_reducible apply Kd.C_alloc) | (with_reducible apply Kd.C_drewN) | (with_reducible apply Kd.C_drew))); (case side2 => exact HC0.out); rintro e w23 ⟨rfl, hb⟩; have n0_ := Aside0.mk (Kd.R_below (by (with_reducible repeat (first | apply Kd.R_alloc | apply Kd.R_drewN | apply Kd.R_drew)); exact HO281.out) hb); have n1_ := Aside0.mk (Kd.S_below (by (with_reducible repeat (first | apply Kd.S_alloc | apply Kd.S_drewN | apply Kd.S_drew)); exact HO285.out) hb); have n2_ := Aside0.mk (below_step (by repeat (first | (with_reducible first | exact HB.out | apply below_alloc | apply pw_below_drewN | apply below_drew1) | exact HB.out)) hb); clear HO281; clear HO285; clear HB; have HO281 := n0_; have HO285 := n1_; have HB := n2_; clear n0_ n1_ n2_; (try clear hb); (try clear hb2); (try clear hk); (try clear hi)))
      go_meet
      case rel => exact ⟨_, (((t279 == 0) != t288)), (by first | rfl | (simp; done) | (simp [*]; done)), H', ⟨by have := HJ3.out; first | omega | exact Nat.le_refl _⟩, ⟨by repeat (first | (with_reducible first | exact HB.out | apply below_alloc | apply pw_below_drewN | apply below_drew1) | exact HB.out)⟩⟩
    case rest =>
     clear HC12
     try clear c1
     try clear p2
     try clear c5
     try clear c7
     try clear c8
     try clear c10
     try clear c11
     try clear c13
     try clear c14
     try clear c15
     try clear c17
     try clear c17b0
     try clear c17b1
     try clear c18
     try clear c18b0
     try clear c18b1
     try clear c19
     try clear p2
     obtain ⟨kq, x57_11, rfl, HA, HJ11, HB⟩ := hcut
     cases kq with
     | zero => exact absurd HA.out (by simp [compositorlaw13_TextBack.j1])
     | succ kj11 =>
      have H := HA.out
      clear HA
      simp only [compositorlaw13_TextBack.j1] at H
      by_cases c24 : x57_11 = true
      ·subst c24
       have H1 : (none) = some r := by rw [if_pos rfl] at H; exact H
       clear H
       have H := H1
       clear H1
       exact absurd H (by simp)
      ·replace c24 := Bool.eq_false_iff.mpr c24
       subst c24
       have H1 : ((text_Read.f kj11 l1).bind fun bt289 => ((text_Write.f kj11 bt289.1).bind fun bt293 => ((text_Read.f kj11 bt293.1).bind fun bt297 => ((compositorref13_Same.f kj11 bt289.1 bt297.1).bind fun t301 => (if t276 = true then (if bt289.2 = 0 then (if bt293.2 = 0 then (if bt297.2 = 0 then (if t301 = true then (some (decide ((bt293.1.length : Int) ≤ (l1.length : Int)))) else (none)) else (none)) else (none)) else (some true)) else (none)))))) = some r := by rw [if_neg (show ¬ (false = true) by decide)] at H; exact H
       clear H
       have H := H1
       clear H1
       replace H := Option.bind_eq_some_iff.mp H
       obtain ⟨⟨t289, t290⟩, A250, H⟩ := H
       replace H : ((text_Write.f kj11 t289).bind fun bt293 => ((text_Read.f kj11 bt293.1).bind fun bt297 => ((compositorref13_Same.f kj11 t289 bt297.1).bind fun t301 => (if t276 = true then (if t290 = 0 then (if bt293.2 = 0 then (if bt297.2 = 0 then (if t301 = true then (some (decide ((bt293.1.length : Int) ≤ (l1.length : Int)))) else (none)) else (none)) else (none)) else (some true)) else (none))))) = some r := H
       have A25 := Aside0.mk A250
       clear A250
       replace H := Option.bind_eq_some_iff.mp H
       obtain ⟨⟨t293, t294⟩, A260, H⟩ := H
       replace H : ((text_Read.f kj11 t293).bind fun bt297 => ((compositorref13_Same.f kj11 t289 bt297.1).bind fun t301 => (if t276 = true then (if t290 = 0 then (if t294 = 0 then (if bt297.2 = 0 then (if t301 = true then (some (decide ((t293.length : Int) ≤ (l1.length : Int)))) else (none)) else (none)) else (none)) else (some true)) else (none)))) = some r := H
       have A26 := Aside0.mk A260
       clear A260
       replace H := Option.bind_eq_some_iff.mp H
       obtain ⟨⟨t297, t298⟩, A270, H⟩ := H
       replace H : ((compositorref13_Same.f kj11 t289 t297).bind fun t301 => (if t276 = true then (if t290 = 0 then (if t294 = 0 then (if t298 = 0 then (if t301 = true then (some (decide ((t293.length : Int) ≤ (l1.length : Int)))) else (none)) else (none)) else (none)) else (some true)) else (none))) = some r := H
       have A27 := Aside0.mk A270
       clear A270
       replace H := Option.bind_eq_some_iff.mp H
       obtain ⟨t301, A280, H⟩ := H
       replace H : (if t276 = true then (if t290 = 0 then (if t294 = 0 then (if t298 = 0 then (if t301 = true then (some (decide ((t293.length : Int) ≤ (l1.length : Int)))) else (none)) else (none)) else (none)) else (some true)) else (none)) = some r := H
       have A28 := Aside0.mk A280
       clear A280
       by_cases c29 : t276 = true
       ·subst c29
        have H1 : (if t290 = 0 then (if t294 = 0 then (if t298 = 0 then (if t301 = true then (some (decide ((t293.length : Int) ≤ (l1.length : Int)))) else (none)) else (none)) else (none)) else (some true)) = some r := by rw [if_pos rfl] at H; exact H
        clear H
        have H := H1
        clear H1
        by_cases c30 : t290 = 0
        ·rw [if_pos c30] at H
         have c30b0 : (t290 == 0) = true := beq_iff_eq.mpr c30
         have c30b1 : (t290 != 0) = false := bne_eq_false_iff_eq.mpr c30
         clear c30
         by_cases c31 : t294 = 0
         ·rw [if_pos c31] at H
          have c31b0 : (t294 == 0) = true := beq_iff_eq.mpr c31
          have c31b1 : (t294 != 0) = false := bne_eq_false_iff_eq.mpr c31
          clear c31
          by_cases c32 : t298 = 0
          ·rw [if_pos c32] at H
           have c32b0 : (t298 == 0) = true := beq_iff_eq.mpr c32
           have c32b1 : (t298 != 0) = false := bne_eq_false_iff_eq.mpr c32
           clear c32
           by_cases c33 : t301 = true
           ·subst c33
            have H1 : (some (decide ((t293.length : Int) ≤ (l1.length : Int)))) = some r := by rw [if_pos rfl] at H; exact H
            clear H
            have H := H1
            clear H1
            obtain rfl := Option.some.inj H
            have tk_ : True := trivial
            go_wp2_with (first | (go_at_call 11; clear tk_; (with_reducible refine (text_Read.calls kj11 _ _ l1 t289 t290 _ ?side1 ?side2 A25.out).mono ?_); (case side1 => repeat (first | exact (Kd.C_below HR1.out HB.out) | (with_reducible apply Kd.C_alloc) | (with_reducible apply Kd.C_drewN) | (with_reducible apply Kd.C_drew))); (case side2 => exact HC1.out); rintro e w34 ⟨v291, rfl, ho0, hb⟩; have n0_ := Aside0.mk (Kd.S_lower ho0 (below_size (by repeat (first | (with_reducible first | exact HB.out | apply below_alloc | apply pw_below_drewN | apply below_drew1) | exact HB.out)))); have n1_ := Aside0.mk (below_step (by repeat (first | (with_reducible first | exact HB.out | apply below_alloc | apply pw_below_drewN | apply below_drew1) | exact HB.out)) hb); clear HB; have HO292 := n0_; have HB := n1_; clear n0_ n1_; (try clear hb); (try clear hb2); (try clear hk); (try clear hi); (try clear ho0); obtain ⟨Ao35, co35, eo35⟩ := Kd.S_slice HO292.out; subst eo35))
            as_aux_lemma =>
            have tk_ : True := trivial
            go_wp2_with (first | (go_at_call 15; clear tk_; (with_reducible refine (text_Write.calls kj11 _ _ t289 t293 t294 _ ?side1 ?side2 A26.out).mono ?_); (case side1 => repeat (first | exact (Kd.S_reads' HO292.out).2.2 | (with_reducible apply Kd.C_alloc) | (with_reducible apply Kd.C_drewN) | (with_reducible apply Kd.C_drew))); (case side2 => exact (Kd.S_reads' HO292.out).2.1); rintro e w36 ⟨v295, rfl, ho0, hb⟩; have n0_ := Aside0.mk (Kd.S_below (by (with_reducible repeat (first | apply Kd.S_alloc | apply Kd.S_drewN | apply Kd.S_drew)); exact HO292.out) hb); have n1_ := Aside0.mk (Kd.R_lower ho0 (below_size (by repeat (first | (with_reducible first | exact HB.out | apply below_alloc | apply pw_below_drewN | apply below_drew1) | exact HB.out)))); have n2_ := Aside0.mk (below_step (by repeat (first | (with_reducible first | exact HB.out | apply below_alloc | apply pw_below_drewN | apply below_drew1) | exact HB.out)) hb); clear HO292; clear HB; have HO292 := n0_; have HO296 := n1_; have HB := n2_; clear n0_ n1_ n2_; (try clear hb); (try clear hb2); (try clear hk); (try clear hi); (try clear ho0); obtain ⟨Ao37, co37, eo37⟩ := Kd.R_slice HO296.out; subst eo37))
            as_aux_lemma =>
            have tk_ : True := trivial
            go_wp2_with (first | (go_at_call 11; clear tk_; (with_reducible refine (text_Read.calls kj11 _ _ t293 t297 t298 _ ?side1 ?side2 A27.out).mono ?_); (case side1 => repeat (first | exact (Kd.R_reads' HO296.out).2.2 | (with_reducible apply Kd.C_alloc) | (with_reducible apply Kd.C_drewN) | (with_reducible apply Kd.C_drew))); (case side2 => exact (Kd.R_reads' HO296.out).2.1); rintro e w38 ⟨v299, rfl, ho0, hb⟩; have n0_ := Aside0.mk (Kd.S_elder' (by (with_reducible repeat (first | apply Kd.S_alloc | apply Kd.S_drewN | apply Kd.S_drew)); exact HO292.out) (Kd.S_base ho0) hb); have n1_ := Aside0.mk (Kd.R_below (by (with_reducible repeat (first | apply Kd.R_alloc | apply Kd.R_drewN | apply Kd.R_drew)); exact HO296.out) hb); have n2_ := Aside0.mk (Kd.S_lower (Kd.S_new' ho0 (Kd.S_lt (by (with_reducible repeat (first | apply Kd.S_alloc | apply Kd.S_drewN | apply Kd.S_drew)); exact HO292.out))) (below_size (by repeat (first | (with_reducible first | exact HB.out | apply below_alloc | apply pw_below_drewN | apply below_drew1) | exact HB.out)))); have n3_ := Aside0.mk (below_step (by repeat (first | (with_reducible first | exact HB.out | apply below_alloc | apply pw_below_drewN | apply below_drew1) | exact HB.out)) hb); clear HO292; clear HO296; clear HB; have HO292 := n0_; have HO296 := n1_; have HO300 := n2_; have HB := n3_; clear n0_ n1_ n2_ n3_; (try clear hb); (try clear hb2); (try clear hk); (try clear hi); (try clear ho0); obtain ⟨Ao39, co39, eo39⟩ := Kd.S_slice HO300.out; subst eo39))
            as_aux_lemma =>
            have tk_ : True := trivial
            go_wp2_with (first | (go_at_call 13; clear tk_; (with_reducible refine (compositorref13_Same.calls kj11 _ _ t289 _ _ t297 true _ ?side1 ?side2 ?side3 ?side4 A28.out).mono ?_); (case side1 => repeat (first | exact (Kd.S_reads' HO292.out).2.2 | (with_reducible apply Kd.C_alloc) | (with_reducible apply Kd.C_drewN) | (with_reducible apply Kd.C_drew))); (case side2 => exact (Kd.S_reads' HO292.out).2.1); (case side3 => repeat (first | exact (Kd.S_reads' HO300.out).2.2 | (with_reducible apply Kd.C_alloc) | (with_reducible apply Kd.C_drewN) | (with_reducible apply Kd.C_drew))); (case side4 => exact (Kd.S_reads' HO300.out).2.1); rintro e w' ⟨rfl, ⟨nd, rfl⟩⟩))
            go_ret
            exact ⟨by first | rfl | (simp [errW_none, errW_some] <;> rfl) | (simp [*, errW_none, errW_some] <;> rfl), by repeat (first | (with_reducible first | exact HB.out | apply below_alloc | apply pw_below_drewN | apply below_drew1) | exact HB.out)⟩
           ·replace c33 := Bool.eq_false_iff.mpr c33
            subst c33
            have H1 : (none) = some r := by rw [if_neg (show ¬ (false = true) by decide)] at H; exact H
            clear H
            have H := H1
            clear H1
            exact absurd H (by simp)
          ·rw [if_neg c32] at H
           exact absurd H (by simp)
         ·rw [if_neg c31] at H
          exact absurd H (by simp)
        ·rw [if_neg c30] at H
         have c30b0 : (t290 == 0) = false := beq_eq_false_iff_ne.mpr c30
         have c30b1 : (t290 != 0) = true := bne_iff_ne.mpr c30
         obtain rfl := Option.some.inj H
         have tk_ : True := trivial
         go_wp2_with (first | (go_at_call 11; clear tk_; (with_reducible refine (text_Read.calls kj11 _ _ l1 t289 t290 _ ?side1 ?side2 A25.out).mono ?_); (case side1 => repeat (first | exact (Kd.C_below HR1.out HB.out) | (with_reducible apply Kd.C_alloc) | (with_reducible apply Kd.C_drewN) | (with_reducible apply Kd.C_drew))); (case side2 => exact HC1.out); rintro e w40 ⟨v291, rfl, ho0, hb⟩; have n0_ := Aside0.mk (Kd.S_lower ho0 (below_size (by repeat (first | (with_reducible first | exact HB.out | apply below_alloc | apply pw_below_drewN | apply below_drew1) | exact HB.out)))); have n1_ := Aside0.mk (below_step (by repeat (first | (with_reducible first | exact HB.out | apply below_alloc | apply pw_below_drewN | apply below_drew1) | exact HB.out)) hb); clear HB; have HO292 := n0_; have HB := n1_; clear n0_ n1_; (try clear hb); (try clear hb2); (try clear hk); (try clear hi); (try clear ho0); obtain ⟨Ao41, co41, eo41⟩ := Kd.S_slice HO292.out; subst eo41))
         as_aux_lemma =>
         have tk_ : True := trivial
         go_wp2_with (first | (go_at_call 15; clear tk_; (with_reducible refine (text_Write.calls kj11 _ _ t289 t293 t294 _ ?side1 ?side2 A26.out).mono ?_); (case side1 => repeat (first | exact (Kd.S_reads' HO292.out).2.2 | (with_reducible apply Kd.C_alloc) | (with_reducible apply Kd.C_drewN) | (with_reducible apply Kd.C_drew))); (case side2 => exact (Kd.S_reads' HO292.out).2.1); rintro e w42 ⟨v295, rfl, ho0, hb⟩; have n0_ := Aside0.mk (Kd.S_below (by (with_reducible repeat (first | apply Kd.S_alloc | apply Kd.S_drewN | apply Kd.S_drew)); exact HO292.out) hb); have n1_ := Aside0.mk (Kd.R_lower ho0 (below_size (by repeat (first | (with_reducible first | exact HB.out | apply below_alloc | apply pw_below_drewN | apply below_drew1) | exact HB.out)))); have n2_ := Aside0.mk (below_step (by repeat (first | (with_reducible first | exact HB.out | apply below_alloc | apply pw_below_drewN | apply below_drew1) | exact HB.out)) hb); clear HO292; clear HB; have HO292 := n0_; have HO296 := n1_; have HB := n2_; clear n0_ n1_ n2_; (try clear hb); (try clear hb2); (try clear hk); (try clear hi); (try clear ho0); obtain ⟨Ao43, co43, eo43⟩ := Kd.R_slice HO296.out; subst eo43))
         as_aux_lemma =>
         have tk_ : True := trivial
         go_wp2_with (first | (go_at_call 11; clear tk_; (with_reducible refine (text_Read.calls kj11 _ _ t293 t297 t298 _ ?side1 ?side2 A27.out).mono ?_); (case side1 => repeat (first | exact (Kd.R_reads' HO296.out).2.2 | (with_reducible apply Kd.C_alloc) | (with_reducible apply Kd.C_drewN) | (with_reducible apply Kd.C_drew))); (case side2 => exact (Kd.R_reads' HO296.out).2.1); rintro e w44 ⟨v299, rfl, ho0, hb⟩; have n0_ := Aside0.mk (Kd.S_elder' (by (with_reducible repeat (first | apply Kd.S_alloc | apply Kd.S_drewN | apply Kd.S_drew)); exact HO292.out) (Kd.S_base ho0) hb); have n1_ := Aside0.mk (Kd.R_below (by (with_reducible repeat (first | apply Kd.R_alloc | apply Kd.R_drewN | apply Kd.R_drew)); exact HO296.out) hb); have n2_ := Aside0.mk (Kd.S_lower (Kd.S_new' ho0 (Kd.S_lt (by (with_reducible repeat (first | apply Kd.S_alloc | apply Kd.S_drewN | apply Kd.S_drew)); exact HO292.out))) (below_size (by repeat (first | (with_reducible first | exact HB.out | apply below_alloc | apply pw_below_drewN | apply below_drew1) | exact HB.out)))); have n3_ := Aside0.mk (below_step (by repeat (first | (with_reducible first | exact HB.out | apply below_alloc | apply pw_below_drewN | apply below_drew1) | exact HB.out)) hb); clear HO292; clear HO296; clear HB; have HO292 := n0_; have HO296 := n1_; have HO300 := n2_; have HB := n3_; clear n0_ n1_ n2_ n3_; (try clear hb); (try clear hb2); (try clear hk); (try clear hi); (try clear ho0); obtain ⟨Ao45, co45, eo45⟩ := Kd.S_slice HO300.out; subst eo45))
         as_aux_lemma =>
         have tk_ : True := trivial
         go_wp2_with (first | (go_at_call 13; clear tk_; (with_reducible refine (compositorref13_Same.calls kj11 _ _ t289 _ _ t297 t301 _ ?side1 ?side2 ?side3 ?side4 A28.out).mono ?_); (case side1 => repeat (first | exact (Kd.S_reads' HO292.out).2.2 | (with_reducible apply Kd.C_alloc) | (with_reducible apply Kd.C_drewN) | (with_reducible apply Kd.C_drew))); (case side2 => exact (Kd.S_reads' HO292.out).2.1); (case side3 => repeat (first | exact (Kd.S_reads' HO300.out).2.2 | (with_reducible apply Kd.C_alloc) | (with_reducible apply Kd.C_drewN) | (with_reducible apply Kd.C_drew))); (case side4 => exact (Kd.S_reads' HO300.out).2.1); rintro e w' ⟨rfl, ⟨nd, rfl⟩⟩))
         go_ret
         exact ⟨by first | rfl | (simp [errW_none, errW_some] <;> rfl) | (simp [*, errW_none, errW_some] <;> rfl), by repeat (first | (with_reducible first | exact HB.out | apply below_alloc | apply pw_below_drewN | apply below_drew1) | exact HB.out)⟩
       ·replace c29 := Bool.eq_false_iff.mpr c29
        subst c29
        have H1 : (none) = some r := by rw [if_neg (show ¬ (false = true) by decide)] at H; exact H
        clear H
        have H := H1
        clear H1
        exact absurd H (by simp)

end Go.Proofs.Ytanhafkoohnjhaa.G
