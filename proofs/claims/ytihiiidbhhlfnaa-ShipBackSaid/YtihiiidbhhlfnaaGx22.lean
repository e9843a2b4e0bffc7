/- Contracts of the functions of this seat: what each call computes, as a plain Lean function. Made by this session's own generator. -/
import Derived.Test.YtihiiidbhhlfnaaGx0
import Derived.Test.YtihiiidbhhlfnaaGx3
import Derived.Test.YtihiiidbhhlfnaaGx5
import Derived.Test.YtihiiidbhhlfnaaGx9
import Derived.Test.YtihiiidbhhlfnaaGx11
import Derived.Test.YtihiiidbhhlfnaaGx12
import Derived.Test.YtihiiidbhhlfnaaGx13
namespace Go.Proofs.Ytihiiidbhhlfnaa.G
open Go.RowKit Go.Proofs.YtihiiidbhhlfnaaMy Go.Proofs.YtihiiidbhhlfnaaW.PrintWords Go.Proofs.YtihiiidbhhlfnaaW.PrintLast Go.Proofs.YtihiiidbhhlfnaaW.PrintMore
attribute [local go_sem] max2_int min2_int max_two min_two max_three min_three max_four min_four   -- for this text's walks alone
set_option linter.unusedVariables false
set_option linter.unusedSimpArgs false

/-! ### compositorlaw23_ShipBack: function 5 -/
mutual
def compositorlaw23_ShipBack.j0 : Nat → List (S41) → List Int → Int → Bool → Bool → Option (Bool)
 | 0, _, _, _, _, _ => none
 | k + 1, x0, x1, x2, x7, x29 => if x29 = true then (some x7) else ((ship_Write.f k x0).bind fun bt346 => ((ship_Read.f k bt346.1).bind fun bt350 => ((compositorref19_All.f k x0 bt350.1).bind fun t354 => (if bt346.2 = 0 then (if bt350.2 = 0 then (if t354 = true then (if (bt346.1.length : Int) < 3 then (compositorlaw23_ShipBack.j1 k x1 x2 x7 bt346.1 bt346.2 true) else ((ship_Check.f x0).bind fun t355 => (compositorlaw23_ShipBack.j1 k x1 x2 x7 bt346.1 bt346.2 ((bt346.2 == 0) != t355)))) else (compositorlaw23_ShipBack.j1 k x1 x2 x7 bt346.1 bt346.2 true)) else (compositorlaw23_ShipBack.j1 k x1 x2 x7 bt346.1 bt346.2 true)) else ((ship_Check.f x0).bind fun t356 => (compositorlaw23_ShipBack.j1 k x1 x2 x7 bt346.1 bt346.2 ((bt346.2 == 0) != t356)))))))
def compositorlaw23_ShipBack.j1 : Nat → List Int → Int → Bool → List Int → Int → Bool → Option (Bool)
 | 0, _, _, _, _, _, _ => none
 | k + 1, x1, x2, x7, x8, x9, x65 => if x65 = true then (none) else (if x9 = 0 then (if (x8.length : Int) = 0 then (none) else (if 0 ≤ (Int.tmod (wrap64 (x2)) (x8.length : Int)) then (if (Int.tmod (wrap64 (x2)) (x8.length : Int)) ≤ (x8.length : Int) then ((ship_Read.f k (x8.take ((Int.tmod (wrap64 (x2)) (x8.length : Int)) : Int).toNat)).bind fun bt361 => ((some (([] : List Int) : List Int)).bind fun y365 => (if y365.length + x8.length < 140737488355328 then ((some (y365 ++ x8 : List Int)).bind fun y368 => (if y368.length < 140737488355328 then ((ship_Read.f k (y368 ++ [0])).bind fun bt374 => (if bt361.2 = 230 then (compositorlaw23_ShipBack.j2 k x1 x7 (bt374.2 != 230)) else (compositorlaw23_ShipBack.j2 k x1 x7 true))) else (none))) else (none)))) else (none)) else (none))) else ((ship_Read.f k x1).bind fun bt386 => ((ship_Write.f k bt386.1).bind fun bt390 => (if x7 = true then (if bt386.2 = 0 then (if bt390.2 = 0 then (some ((strOfNums bt390.1).toList == (strOfNums x1).toList)) else (none)) else (some true)) else (none)))))
def compositorlaw23_ShipBack.j2 : Nat → List Int → Bool → Bool → Option (Bool)
 | 0, _, _, _ => none
 | k + 1, x1, x7, x93 => if x93 = true then (none) else ((ship_Read.f k x1).bind fun bt378 => ((ship_Write.f k bt378.1).bind fun bt382 => (if x7 = true then (if bt378.2 = 0 then (if bt382.2 = 0 then (some ((strOfNums bt382.1).toList == (strOfNums x1).toList)) else (none)) else (some true)) else (none))))
end
def compositorlaw23_ShipBack.f (k : Nat) (l0 : List (S41)) (l1 : List Int) (a2 : Int) : Option (Bool) := (compositorlaw23_awake.f k).bind fun t344 => ((compositorref23_Few.f k l0).bind fun t345 => (if t345 = true then (compositorlaw23_ShipBack.j0 k l0 l1 a2 t344 (decide ((l1.length : Int) > 5000))) else (compositorlaw23_ShipBack.j0 k l0 l1 a2 t344 true)))
theorem compositorlaw23_ShipBack.mono_l : ∀ k, (∀ y0 y1 y2 y3 y4, LeO (compositorlaw23_ShipBack.j0 k y0 y1 y2 y3 y4) (compositorlaw23_ShipBack.j0 (k + 1) y0 y1 y2 y3 y4)) ∧ (∀ y0 y1 y2 y3 y4 y5, LeO (compositorlaw23_ShipBack.j1 k y0 y1 y2 y3 y4 y5) (compositorlaw23_ShipBack.j1 (k + 1) y0 y1 y2 y3 y4 y5)) ∧ (∀ y0 y1 y2, LeO (compositorlaw23_ShipBack.j2 k y0 y1 y2) (compositorlaw23_ShipBack.j2 (k + 1) y0 y1 y2))
 | 0 => ⟨fun _ _ _ _ _ r h => by simp [compositorlaw23_ShipBack.j0] at h, fun _ _ _ _ _ _ r h => by simp [compositorlaw23_ShipBack.j1] at h, fun _ _ _ r h => by simp [compositorlaw23_ShipBack.j2] at h⟩
 | k + 1 => by
  obtain ⟨ih0, ih1, ih2⟩ := compositorlaw23_ShipBack.mono_l k
  refine ⟨?_, ?_, ?_⟩
  ·intro y0 y1 y2 y3 y4
   unfold compositorlaw23_ShipBack.j0
   repeat' first
   | (with_reducible exact ih0 _ _ _ _ _)
   | (with_reducible exact ih1 _ _ _ _ _ _)
   | (with_reducible exact ih2 _ _ _)
   | (with_reducible exact compositorlaw23_awake.mono _)
   | (with_reducible exact compositorref19_All.mono _ _ _)
   | (with_reducible exact compositorref23_Few.mono _ _)
   | (with_reducible exact ship_Read.mono _ _)
   | (with_reducible exact ship_Write.mono _ _)
   | (with_reducible exact LeO.refl _)
   | (with_reducible exact LeO.none _)
   | (with_reducible refine LeO.ite ?_ ?_)
   | (with_reducible refine LeO.bind ?_ (fun _ => ?_))
   | exact ih0 _ _ _ _ _
   | exact ih1 _ _ _ _ _ _
   | exact ih2 _ _ _
   | exact compositorlaw23_awake.mono _
   | exact compositorref19_All.mono _ _ _
   | exact compositorref23_Few.mono _ _
   | exact ship_Read.mono _ _
   | exact ship_Write.mono _ _
   | exact LeO.none _
   | refine LeO.ite ?_ ?_
   | refine LeO.bind ?_ (fun _ => ?_)
  ·intro y0 y1 y2 y3 y4 y5
   unfold compositorlaw23_ShipBack.j1
   repeat' first
   | (with_reducible exact ih0 _ _ _ _ _)
   | (with_reducible exact ih1 _ _ _ _ _ _)
   | (with_reducible exact ih2 _ _ _)
   | (with_reducible exact compositorlaw23_awake.mono _)
   | (with_reducible exact compositorref19_All.mono _ _ _)
   | (with_reducible exact compositorref23_Few.mono _ _)
   | (with_reducible exact ship_Read.mono _ _)
   | (with_reducible exact ship_Write.mono _ _)
   | (with_reducible exact LeO.refl _)
   | (with_reducible exact LeO.none _)
   | (with_reducible refine LeO.ite ?_ ?_)
   | (with_reducible refine LeO.bind ?_ (fun _ => ?_))
   | exact ih0 _ _ _ _ _
   | exact ih1 _ _ _ _ _ _
   | exact ih2 _ _ _
   | exact compositorlaw23_awake.mono _
   | exact compositorref19_All.mono _ _ _
   | exact compositorref23_Few.mono _ _
   | exact ship_Read.mono _ _
   | exact ship_Write.mono _ _
   | exact LeO.none _
   | refine LeO.ite ?_ ?_
   | refine LeO.bind ?_ (fun _ => ?_)
  ·intro y0 y1 y2
   unfold compositorlaw23_ShipBack.j2
   repeat' first
   | (with_reducible exact ih0 _ _ _ _ _)
   | (with_reducible exact ih1 _ _ _ _ _ _)
   | (with_reducible exact ih2 _ _ _)
   | (with_reducible exact compositorlaw23_awake.mono _)
   | (with_reducible exact compositorref19_All.mono _ _ _)
   | (with_reducible exact compositorref23_Few.mono _ _)
   | (with_reducible exact ship_Read.mono _ _)
   | (with_reducible exact ship_Write.mono _ _)
   | (with_reducible exact LeO.refl _)
   | (with_reducible exact LeO.none _)
   | (with_reducible refine LeO.ite ?_ ?_)
   | (with_reducible refine LeO.bind ?_ (fun _ => ?_))
   | exact ih0 _ _ _ _ _
   | exact ih1 _ _ _ _ _ _
   | exact ih2 _ _ _
   | exact compositorlaw23_awake.mono _
   | exact compositorref19_All.mono _ _ _
   | exact compositorref23_Few.mono _ _
   | exact ship_Read.mono _ _
   | exact ship_Write.mono _ _
   | exact LeO.none _
   | refine LeO.ite ?_ ?_
   | refine LeO.bind ?_ (fun _ => ?_)
theorem compositorlaw23_ShipBack.mono : ∀ a0 a1 a2 k, LeO (compositorlaw23_ShipBack.f k a0 a1 a2) (compositorlaw23_ShipBack.f (k + 1) a0 a1 a2) := by
 intro a0 a1 a2 k
 obtain ⟨ih0, ih1, ih2⟩ := compositorlaw23_ShipBack.mono_l k
 unfold compositorlaw23_ShipBack.f
 repeat' first
   | (with_reducible exact ih0 _ _ _ _ _)
   | (with_reducible exact ih1 _ _ _ _ _ _)
   | (with_reducible exact ih2 _ _ _)
   | (with_reducible exact compositorlaw23_awake.mono _)
   | (with_reducible exact compositorref19_All.mono _ _ _)
   | (with_reducible exact compositorref23_Few.mono _ _)
   | (with_reducible exact ship_Read.mono _ _)
   | (with_reducible exact ship_Write.mono _ _)
   | (with_reducible exact LeO.refl _)
   | (with_reducible exact LeO.none _)
   | (with_reducible refine LeO.ite ?_ ?_)
   | (with_reducible refine LeO.bind ?_ (fun _ => ?_))
   | exact ih0 _ _ _ _ _
   | exact ih1 _ _ _ _ _ _
   | exact ih2 _ _ _
   | exact compositorlaw23_awake.mono _
   | exact compositorref19_All.mono _ _ _
   | exact compositorref23_Few.mono _ _
   | exact ship_Read.mono _ _
   | exact ship_Write.mono _ _
   | exact LeO.none _
   | refine LeO.ite ?_ ?_
   | refine LeO.bind ?_ (fun _ => ?_)
set_option maxHeartbeats 8000000 in
set_option maxRecDepth 100000 in
theorem compositorlaw23_ShipBack.calls (k : Nat) (A0 : Option Addr) (c0 : Nat) (l0 : List (S41)) (A1 : Option Addr) (c1 : Nat) (l1 : List Int) (a2 : Int) (r : Bool) (w : World) (hr0 : Kd.C k41 w A0 l0.length l0) (hc0 : l0.length ≤ c0) (hr1 : Kd.C (Kd.int .u8) w A1 l1.length l1) (hc1 : l1.length ≤ c1) (h : compositorlaw23_ShipBack.f k l0 l1 a2 = some r) :
  Calls Try.prog 5 #[.slice A0 l0.length c0, .slice A1 l1.length c1, .int .u16 a2] w fun e w' => e = .returned (.bool r) ∧ Below w.heap.size w w' := by
 have HR0 := Aside0.mk hr0
 have HC0 := Aside0.mk hc0
 clear hr0 hc0
 have HR1 := Aside0.mk hr1
 have HC1 := Aside0.mk hc1
 clear hr1 hc1
 have HB := Aside0.mk (Below.refl w.heap.size w)
 have H : ((compositorlaw23_awake.f k).bind fun t344 => ((compositorref23_Few.f k l0).bind fun t345 => (if t345 = true then (compositorlaw23_ShipBack.j0 k l0 l1 a2 t344 (decide ((l1.length : Int) > 5000))) else (compositorlaw23_ShipBack.j0 k l0 l1 a2 t344 true)))) = some r := h
 clear h
 replace H := Option.bind_eq_some_iff.mp H
 obtain ⟨t344, A40, H⟩ := H
 replace H : ((compositorref23_Few.f k l0).bind fun t345 => (if t345 = true then (compositorlaw23_ShipBack.j0 k l0 l1 a2 t344 (decide ((l1.length : Int) > 5000))) else (compositorlaw23_ShipBack.j0 k l0 l1 a2 t344 true))) = some r := H
 have A4 := Aside0.mk A40
 clear A40
 have HC5 := Aside0.mk H
 clear H
 go_enter Try.func5, Try.ntmps5
 go_upto_region 2 with (first | ((with_reducible refine gate_callee (f := 7) rfl ?_); refine goesL_ (some 21) rfl rfl Try.func7 (by kernel_rfl) rfl #[] rfl (by (try simp only [List.map_toArray, List.map_cons, List.map_nil]); first | done | rfl | (simp only [List.length_drop, List.length_take]; rfl)) ?_; (with_reducible refine (compositorlaw23_awake.calls k  t344 _ A4.out).mono ?_); rintro e w6 ⟨rfl, hb⟩; refine ⟨_, rfl, ?_⟩; have n0_ := Aside0.mk (below_step (by repeat (first | (with_reducible first | exact HB.out | apply below_alloc | apply pw_below_drewN | apply below_drew1) | exact HB.out)) hb); clear HB; have HB := n0_; clear n0_; (try clear hb); (try clear hb2); (try clear hk); (try clear hi)))
 (try simp only [Act.put, List.setIfInBounds_toArray, List.set_cons_zero, List.set_cons_succ])
 go_cut [29] (fun v29 wc => ∃ (kq : Nat) (x29_4 : Bool), v29 = .bool x29_4 ∧ Aside0 (compositorlaw23_ShipBack.j0 kq l0 l1 a2 t344 x29_4 = some r) ∧ Aside0 (kq ≤ k) ∧ Aside0 (Below w.heap.size w wc))
 case first =>
  have H := HC5.out
  clear HC5
  replace H := Option.bind_eq_some_iff.mp H
  obtain ⟨t345, A70, H⟩ := H
  replace H : (if t345 = true then (compositorlaw23_ShipBack.j0 k l0 l1 a2 t344 (decide ((l1.length : Int) > 5000))) else (compositorlaw23_ShipBack.j0 k l0 l1 a2 t344 true)) = some r := H
  have A7 := Aside0.mk A70
  clear A70
  by_cases c8 : t345 = true
  ·subst c8
   have H1 : (compositorlaw23_ShipBack.j0 k l0 l1 a2 t344 (decide ((l1.length : Int) > 5000))) = some r := by rw [if_pos rfl] at H; exact H
   clear H
   have H := H1
   clear H1
   have H' := Aside0.mk H
   clear H
   go_wp2_with (first | ((with_reducible refine gate_callee (f := 8) rfl ?_); refine goesL_ (some 23) rfl rfl Try.func8 (by kernel_rfl) rfl #[.slice A0 l0.length c0] rfl (by (try simp only [List.map_toArray, List.map_cons, List.map_nil]); first | done | rfl | (simp only [List.length_drop, List.length_take]; rfl)) ?_; (with_reducible refine (compositorref23_Few.calls k _ _ l0 true _ ?side1 ?side2 A7.out).mono ?_); (case side1 => repeat (first | exact (Kd.C_below HR0.out HB.out) | (with_reducible apply Kd.C_alloc) | (with_reducible apply Kd.C_drewN) | (with_reducible apply Kd.C_drew))); (case side2 => exact HC0.out); rintro e w' ⟨rfl, ⟨nd, rfl⟩⟩; refine ⟨_, rfl, ?_⟩))
   go_meet
   case rel => exact ⟨_, (decide ((l1.length : Int) > 5000)), (by first | rfl | (simp; done) | (simp [*]; done)), H', ⟨by first | omega | exact Nat.le_refl _⟩, ⟨by repeat (first | (with_reducible first | exact HB.out | apply below_alloc | apply pw_below_drewN | apply below_drew1) | exact HB.out)⟩⟩
  ·replace c8 := Bool.eq_false_iff.mpr c8
   subst c8
   have H1 : (compositorlaw23_ShipBack.j0 k l0 l1 a2 t344 true) = some r := by rw [if_neg (show ¬ (false = true) by decide)] at H; exact H
   clear H
   have H := H1
   clear H1
   have H' := Aside0.mk H
   clear H
   go_wp2_with (first | ((with_reducible refine gate_callee (f := 8) rfl ?_); refine goesL_ (some 23) rfl rfl Try.func8 (by kernel_rfl) rfl #[.slice A0 l0.length c0] rfl (by (try simp only [List.map_toArray, List.map_cons, List.map_nil]); first | done | rfl | (simp only [List.length_drop, List.length_take]; rfl)) ?_; (with_reducible refine (compositorref23_Few.calls k _ _ l0 false _ ?side1 ?side2 A7.out).mono ?_); (case side1 => repeat (first | exact (Kd.C_below HR0.out HB.out) | (with_reducible apply Kd.C_alloc) | (with_reducible apply Kd.C_drewN) | (with_reducible apply Kd.C_drew))); (case side2 => exact HC0.out); rintro e w' ⟨rfl, ⟨nd, rfl⟩⟩; refine ⟨_, rfl, ?_⟩))
   go_meet
   case rel => exact ⟨_, (true), (by first | rfl | (simp; done) | (simp [*]; done)), H', ⟨by first | omega | exact Nat.le_refl _⟩, ⟨by repeat (first | (with_reducible first | exact HB.out | apply below_alloc | apply pw_below_drewN | apply below_drew1) | exact HB.out)⟩⟩
 case rest =>
  clear HC5
  try clear c1
  try clear p2
  try clear c5
  try clear c7
  try clear c8
  obtain ⟨kq, x29_4, rfl, HA, HJ4, HB⟩ := hcut
  cases kq with
  | zero => exact absurd HA.out (by simp [compositorlaw23_ShipBack.j0])
  | succ kj4 =>
   have H := HA.out
   clear HA
   simp only [compositorlaw23_ShipBack.j0] at H
   by_cases c9 : x29_4 = true
   ·subst c9
    have H1 : (some t344) = some r := by rw [if_pos rfl] at H; exact H
    clear H
    have H := H1
    clear H1
    obtain rfl := Option.some.inj H
    go_wp2
    go_ret
    exact ⟨by first | rfl | (simp [errW_none, errW_some] <;> rfl) | (simp [*, errW_none, errW_some] <;> rfl), by repeat (first | (with_reducible first | exact HB.out | apply below_alloc | apply pw_below_drewN | apply below_drew1) | exact HB.out)⟩
   ·replace c9 := Bool.eq_false_iff.mpr c9
    subst c9
    have H1 : ((ship_Write.f kj4 l0).bind fun bt346 => ((ship_Read.f kj4 bt346.1).bind fun bt350 => ((compositorref19_All.f kj4 l0 bt350.1).bind fun t354 => (if bt346.2 = 0 then (if bt350.2 = 0 then (if t354 = true then (if (bt346.1.length : Int) < 3 then (compositorlaw23_ShipBack.j1 kj4 l1 a2 t344 bt346.1 bt346.2 true) else ((ship_Check.f l0).bind fun t355 => (compositorlaw23_ShipBack.j1 kj4 l1 a2 t344 bt346.1 bt346.2 ((bt346.2 == 0) != t355)))) else (compositorlaw23_ShipBack.j1 kj4 l1 a2 t344 bt346.1 bt346.2 true)) else (compositorlaw23_ShipBack.j1 kj4 l1 a2 t344 bt346.1 bt346.2 true)) else ((ship_Check.f l0).bind fun t356 => (compositorlaw23_ShipBack.j1 kj4 l1 a2 t344 bt346.1 bt346.2 ((bt346.2 == 0) != t356))))))) = some r := by rw [if_neg (show ¬ (false = true) by decide)] at H; exact H
    clear H
    have H := H1
    clear H1
    replace H := Option.bind_eq_some_iff.mp H
    obtain ⟨⟨t346, t347⟩, A100, H⟩ := H
    replace H : ((ship_Read.f kj4 t346).bind fun bt350 => ((compositorref19_All.f kj4 l0 bt350.1).bind fun t354 => (if t347 = 0 then (if bt350.2 = 0 then (if t354 = true then (if (t346.length : Int) < 3 then (compositorlaw23_ShipBack.j1 kj4 l1 a2 t344 t346 t347 true) else ((ship_Check.f l0).bind fun t355 => (compositorlaw23_ShipBack.j1 kj4 l1 a2 t344 t346 t347 ((t347 == 0) != t355)))) else (compositorlaw23_ShipBack.j1 kj4 l1 a2 t344 t346 t347 true)) else (compositorlaw23_ShipBack.j1 kj4 l1 a2 t344 t346 t347 true)) else ((ship_Check.f l0).bind fun t356 => (compositorlaw23_ShipBack.j1 kj4 l1 a2 t344 t346 t347 ((t347 == 0) != t356)))))) = some r := H
    have A10 := Aside0.mk A100
    clear A100
    replace H := Option.bind_eq_some_iff.mp H
    obtain ⟨⟨t350, t351⟩, A110, H⟩ := H
    replace H : ((compositorref19_All.f kj4 l0 t350).bind fun t354 => (if t347 = 0 then (if t351 = 0 then (if t354 = true then (if (t346.length : Int) < 3 then (compositorlaw23_ShipBack.j1 kj4 l1 a2 t344 t346 t347 true) else ((ship_Check.f l0).bind fun t355 => (compositorlaw23_ShipBack.j1 kj4 l1 a2 t344 t346 t347 ((t347 == 0) != t355)))) else (compositorlaw23_ShipBack.j1 kj4 l1 a2 t344 t346 t347 true)) else (compositorlaw23_ShipBack.j1 kj4 l1 a2 t344 t346 t347 true)) else ((ship_Check.f l0).bind fun t356 => (compositorlaw23_ShipBack.j1 kj4 l1 a2 t344 t346 t347 ((t347 == 0) != t356))))) = some r := H
    have A11 := Aside0.mk A110
    clear A110
    replace H := Option.bind_eq_some_iff.mp H
    obtain ⟨t354, A120, H⟩ := H
    replace H : (if t347 = 0 then (if t351 = 0 then (if t354 = true then (if (t346.length : Int) < 3 then (compositorlaw23_ShipBack.j1 kj4 l1 a2 t344 t346 t347 true) else ((ship_Check.f l0).bind fun t355 => (compositorlaw23_ShipBack.j1 kj4 l1 a2 t344 t346 t347 ((t347 == 0) != t355)))) else (compositorlaw23_ShipBack.j1 kj4 l1 a2 t344 t346 t347 true)) else (compositorlaw23_ShipBack.j1 kj4 l1 a2 t344 t346 t347 true)) else ((ship_Check.f l0).bind fun t356 => (compositorlaw23_ShipBack.j1 kj4 l1 a2 t344 t346 t347 ((t347 == 0) != t356)))) = some r := H
    have A12 := Aside0.mk A120
    clear A120
    have HC13 := Aside0.mk H
    clear H
    have tk_ : True := trivial
    go_upto_region 7 with (first | (go_at_call 9; clear tk_; (with_reducible refine (ship_Write.calls kj4 _ _ l0 t346 t347 _ ?side1 ?side2 A10.out).mono ?_); (case side1 => repeat (first | exact (Kd.C_below HR0.out HB.out) | (with_reducible apply Kd.C_alloc) | (with_reducible apply Kd.C_drewN) | (with_reducible apply Kd.C_drew))); (case side2 => exact HC0.out); rintro e w14 ⟨v348, rfl, ho0, hb⟩; have n0_ := Aside0.mk (Kd.R_lower ho0 (below_size (by repeat (first | (with_reducible first | exact HB.out | apply below_alloc | apply pw_below_drewN | apply below_drew1) | exact HB.out)))); have n1_ := Aside0.mk (below_step (by repeat (first | (with_reducible first | exact HB.out | apply below_alloc | apply pw_below_drewN | apply below_drew1) | exact HB.out)) hb); clear HB; have HO349 := n0_; have HB := n1_; clear n0_ n1_; (try clear hb); (try clear hb2); (try clear hk); (try clear hi); (try clear ho0); obtain ⟨Ao15, co15, eo15⟩ := Kd.R_slice HO349.out; subst eo15))
    as_aux_lemma =>
    have tk_ : True := trivial
    go_upto_region 7 with (first | (go_at_call 16; clear tk_; (with_reducible refine (ship_Read.calls kj4 _ _ t346 t350 t351 _ ?side1 ?side2 A11.out).mono ?_); (case side1 => repeat (first | exact (Kd.R_reads' HO349.out).2.2 | (with_reducible apply Kd.C_alloc) | (with_reducible apply Kd.C_drewN) | (with_reducible apply Kd.C_drew))); (case side2 => exact (Kd.R_reads' HO349.out).2.1); rintro e w16 ⟨v352, rfl, ho0, hb⟩; have n0_ := Aside0.mk (Kd.R_below (by (with_reducible repeat (first | apply Kd.R_alloc | apply Kd.R_drewN | apply Kd.R_drew)); exact HO349.out) hb); have n1_ := Aside0.mk (Kd.S_lower ho0 (below_size (by repeat (first | (with_reducible first | exact HB.out | apply below_alloc | apply pw_below_drewN | apply below_drew1) | exact HB.out)))); have n2_ := Aside0.mk (below_step (by repeat (first | (with_reducible first | exact HB.out | apply below_alloc | apply pw_below_drewN | apply below_drew1) | exact HB.out)) hb); clear HO349; clear HB; have HO349 := n0_; have HO353 := n1_; have HB := n2_; clear n0_ n1_ n2_; (try clear hb); (try clear hb2); (try clear hk); (try clear hi); (try clear ho0); obtain ⟨Ao17, co17, eo17⟩ := Kd.S_slice HO353.out; subst eo17))
    as_aux_lemma =>
    have tk_ : True := trivial
    go_upto_region 7 with (first | (go_at_call 18; clear tk_; (with_reducible refine (compositorref19_All.calls kj4 _ _ l0 _ _ t350 t354 _ ?side1 ?side2 ?side3 ?side4 A12.out).mono ?_); (case side1 => repeat (first | exact (Kd.C_below HR0.out HB.out) | (with_reducible apply Kd.C_alloc) | (with_reducible apply Kd.C_drewN) | (with_reducible apply Kd.C_drew))); (case side2 => exact HC0.out); (case side3 => repeat (first | exact (Kd.S_reads' HO353.out).2.2 | (with_reducible apply Kd.C_alloc) | (with_reducible apply Kd.C_drewN) | (with_reducible apply Kd.C_drew))); (case side4 => exact (Kd.S_reads' HO353.out).2.1); rintro e w18 ⟨rfl, hb⟩; have n0_ := Aside0.mk (Kd.R_below (by (with_reducible repeat (first | apply Kd.R_alloc | apply Kd.R_drewN | apply Kd.R_drew)); exact HO349.out) hb); have n1_ := Aside0.mk (Kd.S_below (by (with_reducible repeat (first | apply Kd.S_alloc | apply Kd.S_drewN | apply Kd.S_drew)); exact HO353.out) hb); have n2_ := Aside0.mk (below_step (by repeat (first | (with_reducible first | exact HB.out | apply below_alloc | apply pw_below_drewN | apply below_drew1) | exact HB.out)) hb); clear HO349; clear HO353; clear HB; have HO349 := n0_; have HO353 := n1_; have HB := n2_; clear n0_ n1_ n2_; (try clear hb); (try clear hb2); (try clear hk); (try clear hi)))
    (try simp only [Act.put, List.setIfInBounds_toArray, List.set_cons_zero, List.set_cons_succ])
    go_cut [65] (fun v65 wc => ∃ (kq : Nat) (x65_12 : Bool), v65 = .bool x65_12 ∧ Aside0 (compositorlaw23_ShipBack.j1 kq l1 a2 t344 t346 t347 x65_12 = some r) ∧ Aside0 (kq ≤ kj4) ∧ Aside0 (Kd.R (Kd.int .u8) 5 wc w.heap.size (fun _ => True) (.slice Ao15 t346.length co15) t346) ∧ Aside0 (Below w.heap.size w wc))
    case first =>
     have H := HC13.out
     clear HC13
     by_cases c19 : t347 = 0
     ·rw [if_pos c19] at H
      have c19b0 : (t347 == 0) = true := beq_iff_eq.mpr c19
      have c19b1 : (t347 != 0) = false := bne_eq_false_iff_eq.mpr c19
      clear c19
      (first | rw [c19b0] | (simp only [i64_w, i32_w]; rw [c19b0]) | skip)
      by_cases c20 : t351 = 0
      ·rw [if_pos c20] at H
       have c20b0 : (t351 == 0) = true := beq_iff_eq.mpr c20
       have c20b1 : (t351 != 0) = false := bne_eq_false_iff_eq.mpr c20
       clear c20
       by_cases c21 : t354 = true
       ·subst c21
        have H1 : (if (t346.length : Int) < 3 then (compositorlaw23_ShipBack.j1 kj4 l1 a2 t344 t346 t347 true) else ((ship_Check.f l0).bind fun t355 => (compositorlaw23_ShipBack.j1 kj4 l1 a2 t344 t346 t347 ((t347 == 0) != t355)))) = some r := by rw [if_pos rfl] at H; exact H
        clear H
        have H := H1
        clear H1
        by_cases c22 : (t346.length : Int) < 3
        ·rw [if_pos c22] at H
         have c22b0 : decide ((t346.length : Int) < 3) = true := decide_eq_true c22
         have c22b1 : decide (t346.length < 3) = true := decide_eq_true (by omega)
         clear c22
         have H' := Aside0.mk H
         clear H
         go_wp2
         go_meet
         case rel => exact ⟨_, (true), (by first | rfl | (simp; done) | (simp [*]; done)), H', ⟨by have := HJ4.out; first | omega | exact Nat.le_refl _⟩, ⟨by (with_reducible repeat (first | apply Kd.R_alloc | apply Kd.R_drewN | apply Kd.R_drew)); exact HO349.out⟩, ⟨by repeat (first | (with_reducible first | exact HB.out | apply below_alloc | apply pw_below_drewN | apply below_drew1) | exact HB.out)⟩⟩
        ·rw [if_neg c22] at H
         have c22b0 : decide ((t346.length : Int) < 3) = false := decide_eq_false c22
         have c22b1 : decide (t346.length < 3) = false := decide_eq_false (by omega)
         clear c22
         replace H := Option.bind_eq_some_iff.mp H
         obtain ⟨t355, A230, H⟩ := H
         replace H : (compositorlaw23_ShipBack.j1 kj4 l1 a2 t344 t346 t347 ((t347 == 0) != t355)) = some r := H
         have A23 := Aside0.mk A230
         clear A230
         have H' := Aside0.mk H
         clear H
         go_wp2_with (first | (go_at_call 13; (with_reducible refine (ship_Check.calls _ _ l0 t355 _ ?side1 ?side2 A23.out).mono ?_); (case side1 => repeat (first | exact (Kd.C_below HR0.out HB.out) | (with_reducible apply Kd.C_alloc) | (with_reducible apply Kd.C_drewN) | (with_reducible apply Kd.C_drew))); (case side2 => exact HC0.out); rintro e w24 ⟨rfl, hb⟩; have n0_ := Aside0.mk (Kd.R_below (by (with_reducible repeat (first | apply Kd.R_alloc | apply Kd.R_drewN | apply Kd.R_drew)); exact HO349.out) hb); have n1_ := Aside0.mk (Kd.S_below (by (with_reducible repeat (first | apply Kd.S_alloc | apply Kd.S_drewN | apply Kd.S_drew)); exact HO353.out) hb); have n2_ := Aside0.mk (below_step (by repeat (first | (with_reducible first | exact HB.out | apply below_alloc | apply pw_below_drewN | apply below_drew1) | exact HB.out)) hb); clear HO349; clear HO353; clear HB; have HO349 := n0_; have HO353 := n1_; have HB := n2_; clear n0_ n1_ n2_; (try clear hb); (try clear hb2); (try clear hk); (try clear hi)))
         go_meet
         case rel => exact ⟨_, (((t347 == 0) != t355)), (by first | rfl | (simp; done) | (simp [*]; done)), H', ⟨by have := HJ4.out; first | omega | exact Nat.le_refl _⟩, ⟨by (with_reducible repeat (first | apply Kd.R_alloc | apply Kd.R_drewN | apply Kd.R_drew)); exact HO349.out⟩, ⟨by repeat (first | (with_reducible first | exact HB.out | apply below_alloc | apply pw_below_drewN | apply below_drew1) | exact HB.out)⟩⟩
       ·replace c21 := Bool.eq_false_iff.mpr c21
        subst c21
        have H1 : (compositorlaw23_ShipBack.j1 kj4 l1 a2 t344 t346 t347 true) = some r := by rw [if_neg (show ¬ (false = true) by decide)] at H; exact H
        clear H
        have H := H1
        clear H1
        have H' := Aside0.mk H
        clear H
        go_wp2
        go_meet
        case rel => exact ⟨_, (true), (by first | rfl | (simp; done) | (simp [*]; done)), H', ⟨by have := HJ4.out; first | omega | exact Nat.le_refl _⟩, ⟨by (with_reducible repeat (first | apply Kd.R_alloc | apply Kd.R_drewN | apply Kd.R_drew)); exact HO349.out⟩, ⟨by repeat (first | (with_reducible first | exact HB.out | apply below_alloc | apply pw_below_drewN | apply below_drew1) | exact HB.out)⟩⟩
      ·rw [if_neg c20] at H
       have c20b0 : (t351 == 0) = false := beq_eq_false_iff_ne.mpr c20
       have c20b1 : (t351 != 0) = true := bne_iff_ne.mpr c20
       have H' := Aside0.mk H
       clear H
       go_wp2
       go_meet
       case rel => exact ⟨_, (true), (by first | rfl | (simp; done) | (simp [*]; done)), H', ⟨by have := HJ4.out; first | omega | exact Nat.le_refl _⟩, ⟨by (with_reducible repeat (first | apply Kd.R_alloc | apply Kd.R_drewN | apply Kd.R_drew)); exact HO349.out⟩, ⟨by repeat (first | (with_reducible first | exact HB.out | apply below_alloc | apply pw_below_drewN | apply below_drew1) | exact HB.out)⟩⟩
     ·rw [if_neg c19] at H
      have c19b0 : (t347 == 0) = false := beq_eq_false_iff_ne.mpr c19
      have c19b1 : (t347 != 0) = true := bne_iff_ne.mpr c19
      (first | rw [c19b0] | (simp only [i64_w, i32_w]; rw [c19b0]) | skip)
      replace H := Option.bind_eq_some_iff.mp H
      obtain ⟨t356, A250, H⟩ := H
      replace H : (compositorlaw23_ShipBack.j1 kj4 l1 a2 t344 t346 t347 ((t347 == 0) != t356)) = some r := H
      have A25 := Aside0.mk A250
      clear A250
      have H' := Aside0.mk H
      clear H
      go_wp2_with (first | (go_at_call 13; (with_reducible refine (ship_Check.calls _ _ l0 t356 _ ?side1 ?side2 A25.out).mono ?_); (case side1 => repeat (first | exact (Kd.C_below HR0.out HB.out) | (with_reducible apply Kd.C_alloc) | (with_reducible apply Kd.C_drewN) | (with_reducible apply Kd.C_drew))); (case side2 => exact HC0.out); rintro e w26 ⟨rfl, hb⟩; have n0_ := Aside0.mk (Kd.R_below (by (with_reducible repeat (first | apply Kd.R_alloc | apply Kd.R_drewN | apply Kd.R_drew)); exact HO349.out) hb); have n1_ := Aside0.mk (Kd.S_below (by (with_reducible repeat (first | apply Kd.S_alloc | apply Kd.S_drewN | apply Kd.S_drew)); exact HO353.out) hb); have n2_ := Aside0.mk (below_step (by repeat (first | (with_reducible first | exact HB.out | apply below_alloc | apply pw_below_drewN | apply below_drew1) | exact HB.out)) hb); clear HO349; clear HO353; clear HB; have HO349 := n0_; have HO353 := n1_; have HB := n2_; clear n0_ n1_ n2_; (try clear hb); (try clear hb2); (try clear hk); (try clear hi)))
      go_meet
      case rel => exact ⟨_, (((t347 == 0) != t356)), (by first | rfl | (simp; done) | (simp [*]; done)), H', ⟨by have := HJ4.out; first | omega | exact Nat.le_refl _⟩, ⟨by (with_reducible repeat (first | apply Kd.R_alloc | apply Kd.R_drewN | apply Kd.R_drew)); exact HO349.out⟩, ⟨by repeat (first | (with_reducible first | exact HB.out | apply below_alloc | apply pw_below_drewN | apply below_drew1) | exact HB.out)⟩⟩
    case rest =>
     clear HC13
     try clear c1
     try clear c2
     try clear p2
     try clear c5
     try clear c7
     try clear c8
     try clear c9
     try clear c16
     try clear c18
     try clear c19
     try clear c19b0
     try clear c19b1
     try clear c20
     try clear c20b0
     try clear c20b1
     try clear c21
     try clear c22
     try clear c22b0
     try clear c22b1
     try clear p2
     obtain ⟨kq, x65_12, rfl, HA, HJ12, HO_8, HB⟩ := hcut
     cases kq with
     | zero => exact absurd HA.out (by simp [compositorlaw23_ShipBack.j1])
     | succ kj12 =>
      have H := HA.out
      clear HA
      simp only [compositorlaw23_ShipBack.j1] at H
      by_cases c27 : x65_12 = true
      ·subst c27
       have H1 : (none) = some r := by rw [if_pos rfl] at H; exact H
       clear H
       have H := H1
       clear H1
       exact absurd H (by simp)
      ·replace c27 := Bool.eq_false_iff.mpr c27
       subst c27
       have H1 : (if t347 = 0 then (if (t346.length : Int) = 0 then (none) else (if 0 ≤ (Int.tmod (wrap64 (a2)) (t346.length : Int)) then (if (Int.tmod (wrap64 (a2)) (t346.length : Int)) ≤ (t346.length : Int) then ((ship_Read.f kj12 (t346.take ((Int.tmod (wrap64 (a2)) (t346.length : Int)) : Int).toNat)).bind fun bt361 => ((some (([] : List Int) : List Int)).bind fun y365 => (if y365.length + t346.length < 140737488355328 then ((some (y365 ++ t346 : List Int)).bind fun y368 => (if y368.length < 140737488355328 then ((ship_Read.f kj12 (y368 ++ [0])).bind fun bt374 => (if bt361.2 = 230 then (compositorlaw23_ShipBack.j2 kj12 l1 t344 (bt374.2 != 230)) else (compositorlaw23_ShipBack.j2 kj12 l1 t344 true))) else (none))) else (none)))) else (none)) else (none))) else ((ship_Read.f kj12 l1).bind fun bt386 => ((ship_Write.f kj12 bt386.1).bind fun bt390 => (if t344 = true then (if bt386.2 = 0 then (if bt390.2 = 0 then (some ((strOfNums bt390.1).toList == (strOfNums l1).toList)) else (none)) else (some true)) else (none))))) = some r := by rw [if_neg (show ¬ (false = true) by decide)] at H; exact H
       clear H
       have H := H1
       clear H1
       by_cases c28 : t347 = 0
       ·rw [if_pos c28] at H
        have c28b0 : (t347 == 0) = true := beq_iff_eq.mpr c28
        have c28b1 : (t347 != 0) = false := bne_eq_false_iff_eq.mpr c28
        clear c28
        by_cases c29 : (t346.length : Int) = 0
        ·rw [if_pos c29] at H
         exact absurd H (by simp)
        ·rw [if_neg c29] at H
         have c29b0 : ((t346.length : Int) == 0) = false := beq_eq_false_iff_ne.mpr c29
         have c29b1 : ((t346.length : Int) != 0) = true := bne_iff_ne.mpr c29
         have c29b2 : ¬ (t346 = []) := fun h_ => c29 (by rw [h_]; rfl)
         obtain ⟨ji30, hji30⟩ : ∃ j_ : Int, (Int.tmod (wrap64 (a2)) (t346.length : Int)) = j_ := ⟨_, rfl⟩
         replace H : (if 0 ≤ (ji30) then (if (ji30) ≤ (t346.length : Int) then ((ship_Read.f kj12 (t346.take ((ji30) : Int).toNat)).bind fun bt361 => ((some (([] : List Int) : List Int)).bind fun y365 => (if y365.length + t346.length < 140737488355328 then ((some (y365 ++ t346 : List Int)).bind fun y368 => (if y368.length < 140737488355328 then ((ship_Read.f kj12 (y368 ++ [0])).bind fun bt374 => (if bt361.2 = 230 then (compositorlaw23_ShipBack.j2 kj12 l1 t344 (bt374.2 != 230)) else (compositorlaw23_ShipBack.j2 kj12 l1 t344 true))) else (none))) else (none)))) else (none)) else (none)) = some r := by first | (rw [hji30] at H; exact H) | (simp only [hji30] at H ⊢; exact H)
         by_cases c31 : 0 ≤ (ji30)
         ·rw [if_pos c31] at H
          have c31b0 := eq_true c31
          have c31b1 : decide (0 ≤ (ji30)) = true := decide_eq_true c31
          clear c31
          by_cases c32 : (ji30) ≤ (t346.length : Int)
          ·rw [if_pos c32] at H
           have c32b0 := eq_true c32
           have c32b1 : decide ((ji30) ≤ (t346.length : Int)) = true := decide_eq_true c32
           clear c32
           obtain ⟨y357, hy357⟩ : ∃ y_ : List Int, y_ = (t346.take ((ji30) : Int).toNat) := ⟨_, rfl⟩
           replace H : ((ship_Read.f kj12 y357).bind fun bt361 => ((some (([] : List Int) : List Int)).bind fun y365 => (if y365.length + t346.length < 140737488355328 then ((some (y365 ++ t346 : List Int)).bind fun y368 => (if y368.length < 140737488355328 then ((ship_Read.f kj12 (y368 ++ [0])).bind fun bt374 => (if bt361.2 = 230 then (compositorlaw23_ShipBack.j2 kj12 l1 t344 (bt374.2 != 230)) else (compositorlaw23_ShipBack.j2 kj12 l1 t344 true))) else (none))) else (none)))) = some r := by first | (rw [hy357]; with_reducible exact H) | (have H2_ := (Option.bind_some _ _).symm.trans H; rw [hy357]; with_reducible exact H2_) | (have H2_ := (Option.bind_some _ _).symm.trans H; with_reducible exact H2_) | with_reducible exact H | (rw [hy357]; exact H) | exact H
           have Ny357 := Aside0.mk hy357
           clear hy357
           replace H := Option.bind_eq_some_iff.mp H
           obtain ⟨⟨t361, t362⟩, A330, H⟩ := H
           replace H : ((some (([] : List Int) : List Int)).bind fun y365 => (if y365.length + t346.length < 140737488355328 then ((some (y365 ++ t346 : List Int)).bind fun y368 => (if y368.length < 140737488355328 then ((ship_Read.f kj12 (y368 ++ [0])).bind fun bt374 => (if t362 = 230 then (compositorlaw23_ShipBack.j2 kj12 l1 t344 (bt374.2 != 230)) else (compositorlaw23_ShipBack.j2 kj12 l1 t344 true))) else (none))) else (none))) = some r := H
           have A33 := Aside0.mk A330
           clear A330
           obtain ⟨y365, hy365⟩ : ∃ y_ : List Int, y_ = (([] : List Int)) := ⟨_, rfl⟩
           replace H : (if y365.length + t346.length < 140737488355328 then ((some (y365 ++ t346 : List Int)).bind fun y368 => (if y368.length < 140737488355328 then ((ship_Read.f kj12 (y368 ++ [0])).bind fun bt374 => (if t362 = 230 then (compositorlaw23_ShipBack.j2 kj12 l1 t344 (bt374.2 != 230)) else (compositorlaw23_ShipBack.j2 kj12 l1 t344 true))) else (none))) else (none)) = some r := by first | (rw [hy365]; with_reducible exact H) | (have H2_ := (Option.bind_some _ _).symm.trans H; rw [hy365]; with_reducible exact H2_) | (have H2_ := (Option.bind_some _ _).symm.trans H; with_reducible exact H2_) | with_reducible exact H | (rw [hy365]; exact H) | exact H
           have Ny365 := Aside0.mk hy365
           clear hy365
           by_cases c34 : y365.length + t346.length < 140737488355328
           ·rw [if_pos c34] at H
            have LMc34 := Aside0.mk c34
            clear c34
            obtain ⟨y368, hy368⟩ : ∃ y_ : List Int, y_ = (y365 ++ t346) := ⟨_, rfl⟩
            replace H : (if y368.length < 140737488355328 then ((ship_Read.f kj12 (y368 ++ [0])).bind fun bt374 => (if t362 = 230 then (compositorlaw23_ShipBack.j2 kj12 l1 t344 (bt374.2 != 230)) else (compositorlaw23_ShipBack.j2 kj12 l1 t344 true))) else (none)) = some r := by first | (rw [hy368]; with_reducible exact H) | (have H2_ := (Option.bind_some _ _).symm.trans H; rw [hy368]; with_reducible exact H2_) | (have H2_ := (Option.bind_some _ _).symm.trans H; with_reducible exact H2_) | with_reducible exact H | (rw [hy368]; exact H) | exact H
            have Ny368 := Aside0.mk hy368
            clear hy368
            by_cases c35 : y368.length < 140737488355328
            ·rw [if_pos c35] at H
             have LMc35 := Aside0.mk c35
             clear c35
             obtain ⟨y371, hy371⟩ : ∃ y_ : List Int, y_ = (y368 ++ [0]) := ⟨_, rfl⟩
             replace H : ((ship_Read.f kj12 y371).bind fun bt374 => (if t362 = 230 then (compositorlaw23_ShipBack.j2 kj12 l1 t344 (bt374.2 != 230)) else (compositorlaw23_ShipBack.j2 kj12 l1 t344 true))) = some r := by first | (rw [hy371]; with_reducible exact H) | (have H2_ := (Option.bind_some _ _).symm.trans H; rw [hy371]; with_reducible exact H2_) | (have H2_ := (Option.bind_some _ _).symm.trans H; with_reducible exact H2_) | with_reducible exact H | (rw [hy371]; exact H) | exact H
             have Ny371 := Aside0.mk hy371
             clear hy371
             replace H := Option.bind_eq_some_iff.mp H
             obtain ⟨⟨t374, t375⟩, A360, H⟩ := H
             replace H : (if t362 = 230 then (compositorlaw23_ShipBack.j2 kj12 l1 t344 (t375 != 230)) else (compositorlaw23_ShipBack.j2 kj12 l1 t344 true)) = some r := H
             have A36 := Aside0.mk A360
             clear A360
             have HC37 := Aside0.mk H
             clear H
             have q38 : ((ji30) : Int) ≤ ((t346.length : Int) : Int) := odt
             obtain ⟨i038, hi038, _, hsz38, _⟩ := info_parts info5
             have hroom38 : t346.length ≤ co15 := (Kd.R_reads' HO_8.out).2.1
             have hC38 : Kd.C (Kd.int .u8) _ Ao15 t346.length t346 := (Kd.R_reads' HO_8.out).2.2
             have hcut38 := cut_to (P := Try.prog) 25 5 .i64 Try.underlying25 hi038 Ao15 t346.length co15 (ji30) (odt) q38 hroom38
             have hr38 := Kd.C_take (m := ((ji30) : Int).toNat) hC38 (by omega)
             have hy38 : y357.length = ((ji30) : Int).toNat := (by rw [Ny357.out, List.length_take]; omega)
             rw [← Ny357.out] at hr38
             rw [← hy38] at hcut38
             have HR360 := Aside0.mk hr38
             have HC360 := Aside0.mk (show y357.length ≤ co15 from by omega)
             clear hr38 hC38 hroom38 hi038 hsz38
             have KY38 := Aside0.mk hy38
             clear hy38
             have KL38 := Aside0.mk (show ((ji30) : Int).toNat ≤ t346.length from by omega)
             replace q38 := eq_true q38
             have tk_ : True := trivial
             go_upto_region 12 with (first | (go_at_call 16; clear tk_; (with_reducible refine (ship_Read.calls kj12 _ _ y357 t361 t362 _ ?side1 ?side2 A33.out).mono ?_); (case side1 => repeat (first | exact (by repeat (first | (with_reducible exact HR360.out) | (with_reducible apply Kd.C_alloc) | (with_reducible apply Kd.C_drewN) | (with_reducible apply Kd.C_drew) | exact HR360.out)) | (with_reducible apply Kd.C_alloc) | (with_reducible apply Kd.C_drewN) | (with_reducible apply Kd.C_drew))); (case side2 => exact HC360.out); rintro e w39 ⟨v363, rfl, ho0, hb⟩; have n0_ := Aside0.mk (Kd.R_below (by (with_reducible repeat (first | apply Kd.R_alloc | apply Kd.R_drewN | apply Kd.R_drew)); exact HO_8.out) hb); have n1_ := Aside0.mk (Kd.S_lower ho0 (below_size (by repeat (first | (with_reducible first | exact HB.out | apply below_alloc | apply pw_below_drewN | apply below_drew1) | exact HB.out)))); have n2_ := Aside0.mk (Kd.C_below (by repeat (first | (with_reducible exact HR360.out) | (with_reducible apply Kd.C_alloc) | (with_reducible apply Kd.C_drewN) | (with_reducible apply Kd.C_drew) | exact HR360.out)) hb); have n3_ := Aside0.mk (below_step (by repeat (first | (with_reducible first | exact HB.out | apply below_alloc | apply pw_below_drewN | apply below_drew1) | exact HB.out)) hb); clear HO_8; clear HR360; clear HB; have HO_8 := n0_; have HO364 := n1_; have HR360 := n2_; have HB := n3_; clear n0_ n1_ n2_ n3_; (try clear hb); (try clear hb2); (try clear hk); (try clear hi); (try clear ho0)) | ((with_reducible refine gate_dst (N := 80) rfl ?_); (try (refine gate_guard (by rfl) ?_; dsimp only)); refine Kd.R_lit (Kd.int .u8) _ 5 ?hg (N := 80) ?hd (xs := ([] : List Int)) (inner := []) (ok := fun _ => True) (okp := fun _ => True) ?hr ?hp (fun _ hk => hk) trivial (Below.refl _ _) (Nat.le_refl _) (by simp) ?_; (case hd => rfl); (case hg => rfl); (case hr => first | (go_simp; done) | (go_simp; rfl)); (case hp => exact (Reps.none _ _)); intro v366 w40 ho41 hb hg_ hnew_; clear hg_ hnew_; (first | rw [← Ny365.out] at ho41 | (simp only [Int.reduceToNat] at ho41; rw [← Ny365.out] at ho41)); have n0_ := Aside0.mk (Kd.R_elder' (by (with_reducible repeat (first | apply Kd.R_alloc | apply Kd.R_drewN | apply Kd.R_drew)); exact HO_8.out) (Kd.R_base ho41) hb); have n1_ := Aside0.mk (Kd.S_below (by (with_reducible repeat (first | apply Kd.S_alloc | apply Kd.S_drewN | apply Kd.S_drew)); exact HO364.out) hb); have n2_ := Aside0.mk (Kd.R_lower (Kd.R_new' ho41 (Kd.R_lt (by (with_reducible repeat (first | apply Kd.R_alloc | apply Kd.R_drewN | apply Kd.R_drew)); exact HO_8.out))) (below_size (by repeat (first | (with_reducible first | exact HB.out | apply below_alloc | apply pw_below_drewN | apply below_drew1) | exact HB.out)))); have n3_ := Aside0.mk (Kd.C_below (by repeat (first | (with_reducible exact HR360.out) | (with_reducible apply Kd.C_alloc) | (with_reducible apply Kd.C_drewN) | (with_reducible apply Kd.C_drew) | exact HR360.out)) hb); have n4_ := Aside0.mk (below_step (by repeat (first | (with_reducible first | exact HB.out | apply below_alloc | apply pw_below_drewN | apply below_drew1) | exact HB.out)) hb); clear HO_8; clear HO364; clear HR360; clear HB; have HO_8 := n0_; have HO364 := n1_; have HO367 := n2_; have HR360 := n3_; have HB := n4_; clear n0_ n1_ n2_ n3_ n4_; clear hb ho41) | ((with_reducible refine gate_builtin (b := .append) (xs := #[.tmp 80, .tmp 81]) rfl ?_); (try (refine gate_guard (by rfl) ?_; dsimp only)); at_builtin; refine Kd.R_append_rows (Kd.int .u8) (w0 := w) w.heap.size rfl (.tmp 80) (.tmp 81) 25 5 (.int .u8 0) 1 rfl Try.underlying25 info5 rfl (by decide) (by omega) v366 y365 t346 _ _ _ (fun k_ => some k_ ≠ (.slice Ao15 t346.length co15 : Value).ownBlock) (fun _ => False) rfl rfl ?aO ?aR (fun _ _ h => h) (fun _ h => h.elim) ?aF ?aB ?aS ?aL ?_; (case aR => repeat (first | exact (Kd.R_reads' HO_8.out).2.2 | (with_reducible apply Kd.C_alloc) | (with_reducible apply Kd.C_drewN) | (with_reducible apply Kd.C_drew))); (case aB => exact (by repeat (first | (with_reducible first | exact HB.out | apply below_alloc | apply pw_below_drewN | apply below_drew1) | exact HB.out))); (case aF => exact (fun k_ hk => Kd.fresh' (Kd.R_lt (by (with_reducible repeat (first | apply Kd.R_alloc | apply Kd.R_drewN | apply Kd.R_drew)); exact HO_8.out)) k_ hk)); (case aO => exact (by (with_reducible repeat (first | apply Kd.R_alloc | apply Kd.R_drewN | apply Kd.R_drew)); exact Kd.R_mono HO367.out (fun _ hk => hk.2))); (case aS => exact (below_size (by repeat (first | (with_reducible first | exact HB.out | apply below_alloc | apply pw_below_drewN | apply below_drew1) | exact HB.out)))); (case aL => have := LMc34.out; omega); intro v369 w42 ho hb hg hat; rw [← Ny368.out] at ho; have n0_ := Aside0.mk (Kd.R_after (ok := (fun _ => True)) (by (with_reducible repeat (first | apply Kd.R_alloc | apply Kd.R_drewN | apply Kd.R_drew)); exact HO_8.out) hg hat); have n1_ := Aside0.mk (Kd.S_over' (by (with_reducible repeat (first | apply Kd.S_alloc | apply Kd.S_drewN | apply Kd.S_drew)); exact HO364.out) (Kd.R_typed (by (with_reducible repeat (first | apply Kd.R_alloc | apply Kd.R_drewN | apply Kd.R_drew)); exact HO367.out)) (by decide) hg); have n2_ := Aside0.mk (hb); have n3_ := Aside0.mk ((show Kd.C (Kd.int .u8) w42 Ao15 y357.length y357 from by rw [Ny357.out]; exact Kd.C_take (m := ((ji30) : Int).toNat) ((Kd.R_reads' (Kd.R_after (ok := (fun _ => True)) (by (with_reducible repeat (first | apply Kd.R_alloc | apply Kd.R_drewN | apply Kd.R_drew)); exact HO_8.out) hg hat)).2.2) KL38.out)); have n4_ := Aside0.mk (ho); clear HO_8; clear HO364; clear HB; clear HR360; clear HO367; have HO_8 := n0_; have HO364 := n1_; have HB := n2_; have HR360 := n3_; have HO370 := n4_; clear n0_ n1_ n2_ n3_ n4_; clear ho hb hg hat) | ((with_reducible refine gate_builtin (b := .append) (xs := #[.tmp 82, .tmp 83]) rfl ?_); (try (refine gate_guard (by rfl) ?_; dsimp only)); at_builtin; refine Kd.R_append (Kd.int .u8) (w0 := w) w.heap.size rfl (.tmp 82) (.tmp 83) 25 5 (.int .u8 0) 1 rfl Try.underlying25 info5 rfl (by decide) (by omega) v369 y368 0 [.int .u8 0] (fun k_ => some k_ ≠ (.slice Ao15 t346.length co15 : Value).ownBlock) (fun _ => False) rfl rfl ?aP (fun _ hk => hk.elim) ?aF ?aO ?aB ?aS ?aL ?_; (case aP => exact rfl); (case aB => exact (by repeat (first | (with_reducible first | exact HB.out | apply below_alloc | apply pw_below_drewN | apply below_drew1) | exact HB.out))); (case aF => exact (fun k_ hk => Kd.fresh' (Kd.R_lt (by (with_reducible repeat (first | apply Kd.R_alloc | apply Kd.R_drewN | apply Kd.R_drew)); exact HO_8.out)) k_ hk)); (case aO => exact (by (with_reducible repeat (first | apply Kd.R_alloc | apply Kd.R_drewN | apply Kd.R_drew)); exact HO370.out)); (case aS => exact (below_size (by repeat (first | (with_reducible first | exact HB.out | apply below_alloc | apply pw_below_drewN | apply below_drew1) | exact HB.out)))); (case aL => have := LMc35.out; omega); intro v372 w43 ho hb hg hat; rw [← Ny371.out] at ho; have n0_ := Aside0.mk (Kd.R_after (ok := (fun _ => True)) (by (with_reducible repeat (first | apply Kd.R_alloc | apply Kd.R_drewN | apply Kd.R_drew)); exact HO_8.out) hg hat); have n1_ := Aside0.mk (Kd.S_over' (by (with_reducible repeat (first | apply Kd.S_alloc | apply Kd.S_drewN | apply Kd.S_drew)); exact HO364.out) (Kd.R_typed (by (with_reducible repeat (first | apply Kd.R_alloc | apply Kd.R_drewN | apply Kd.R_drew)); exact HO370.out)) (by decide) hg); have n2_ := Aside0.mk (hb); have n3_ := Aside0.mk ((show Kd.C (Kd.int .u8) w43 Ao15 y357.length y357 from by rw [Ny357.out]; exact Kd.C_take (m := ((ji30) : Int).toNat) ((Kd.R_reads' (Kd.R_after (ok := (fun _ => True)) (by (with_reducible repeat (first | apply Kd.R_alloc | apply Kd.R_drewN | apply Kd.R_drew)); exact HO_8.out) hg hat)).2.2) KL38.out)); have n4_ := Aside0.mk (ho); clear HO_8; clear HO364; clear HB; clear HR360; clear HO370; have HO_8 := n0_; have HO364 := n1_; have HB := n2_; have HR360 := n3_; have HO373 := n4_; clear n0_ n1_ n2_ n3_ n4_; clear ho hb hg hat; obtain ⟨Ao44, co44, eo44⟩ := Kd.R_slice HO373.out; subst eo44))
             as_aux_lemma =>
             have tk_ : True := trivial
             go_upto_region 12 with (first | (go_at_call 16; clear tk_; (with_reducible refine (ship_Read.calls kj12 _ _ y371 t374 t375 _ ?side1 ?side2 A36.out).mono ?_); (case side1 => repeat (first | exact (Kd.R_reads' HO373.out).2.2 | (with_reducible apply Kd.C_alloc) | (with_reducible apply Kd.C_drewN) | (with_reducible apply Kd.C_drew))); (case side2 => exact (Kd.R_reads' HO373.out).2.1); rintro e w45 ⟨v376, rfl, ho0, hb⟩; have n0_ := Aside0.mk (Kd.R_below (by (with_reducible repeat (first | apply Kd.R_alloc | apply Kd.R_drewN | apply Kd.R_drew)); exact HO_8.out) hb); have n1_ := Aside0.mk (Kd.S_elder' (by (with_reducible repeat (first | apply Kd.S_alloc | apply Kd.S_drewN | apply Kd.S_drew)); exact HO364.out) (Kd.S_base ho0) hb); have n2_ := Aside0.mk (Kd.R_below (by (with_reducible repeat (first | apply Kd.R_alloc | apply Kd.R_drewN | apply Kd.R_drew)); exact HO373.out) hb); have n3_ := Aside0.mk (Kd.S_lower (Kd.S_new' ho0 (Kd.S_lt (by (with_reducible repeat (first | apply Kd.S_alloc | apply Kd.S_drewN | apply Kd.S_drew)); exact HO364.out))) (below_size (by repeat (first | (with_reducible first | exact HB.out | apply below_alloc | apply pw_below_drewN | apply below_drew1) | exact HB.out)))); have n4_ := Aside0.mk (Kd.C_below (by repeat (first | (with_reducible exact HR360.out) | (with_reducible apply Kd.C_alloc) | (with_reducible apply Kd.C_drewN) | (with_reducible apply Kd.C_drew) | exact HR360.out)) hb); have n5_ := Aside0.mk (below_step (by repeat (first | (with_reducible first | exact HB.out | apply below_alloc | apply pw_below_drewN | apply below_drew1) | exact HB.out)) hb); clear HO_8; clear HO364; clear HO373; clear HR360; clear HB; have HO_8 := n0_; have HO364 := n1_; have HO373 := n2_; have HO377 := n3_; have HR360 := n4_; have HB := n5_; clear n0_ n1_ n2_ n3_ n4_ n5_; (try clear hb); (try clear hb2); (try clear hk); (try clear hi); (try clear ho0)))
             (try simp only [Act.put, List.setIfInBounds_toArray, List.set_cons_zero, List.set_cons_succ])
             go_cut [93] (fun v93 wc => ∃ (kq : Nat) (x93_36 : Bool), v93 = .bool x93_36 ∧ Aside0 (compositorlaw23_ShipBack.j2 kq l1 t344 x93_36 = some r) ∧ Aside0 (kq ≤ kj12) ∧ Aside0 (Kd.C (Kd.int .u8) wc Ao15 y357.length y357) ∧ Aside0 (Below w.heap.size w wc))
             case first =>
              have H := HC37.out
              clear HC37
              by_cases c46 : t362 = 230
              ·rw [if_pos c46] at H
               have c46b0 : (t362 == 230) = true := beq_iff_eq.mpr c46
               have c46b1 : (t362 != 230) = false := bne_eq_false_iff_eq.mpr c46
               clear c46
               (first | rw [c46b0] | (simp only [i64_w, i32_w]; rw [c46b0]) | skip)
               have H' := Aside0.mk H
               clear H
               go_wp2
               go_meet
               case rel => exact ⟨_, ((t375 != 230)), (by first | rfl | (simp; done) | (simp [*]; done)), H', ⟨by have := HJ4.out; have := HJ12.out; first | omega | exact Nat.le_refl _⟩, ⟨by repeat (first | (with_reducible exact HR360.out) | (with_reducible apply Kd.C_alloc) | (with_reducible apply Kd.C_drewN) | (with_reducible apply Kd.C_drew) | exact HR360.out)⟩, ⟨by repeat (first | (with_reducible first | exact HB.out | apply below_alloc | apply pw_below_drewN | apply below_drew1) | exact HB.out)⟩⟩
              ·rw [if_neg c46] at H
               have c46b0 : (t362 == 230) = false := beq_eq_false_iff_ne.mpr c46
               have c46b1 : (t362 != 230) = true := bne_iff_ne.mpr c46
               (first | rw [c46b0] | (simp only [i64_w, i32_w]; rw [c46b0]) | skip)
               have H' := Aside0.mk H
               clear H
               go_wp2
               go_meet
               case rel => exact ⟨_, (true), (by first | rfl | (simp; done) | (simp [*]; done)), H', ⟨by have := HJ4.out; have := HJ12.out; first | omega | exact Nat.le_refl _⟩, ⟨by repeat (first | (with_reducible exact HR360.out) | (with_reducible apply Kd.C_alloc) | (with_reducible apply Kd.C_drewN) | (with_reducible apply Kd.C_drew) | exact HR360.out)⟩, ⟨by repeat (first | (with_reducible first | exact HB.out | apply below_alloc | apply pw_below_drewN | apply below_drew1) | exact HB.out)⟩⟩
             case rest =>
              clear HC37
              try clear c1
              try clear c2
              try clear p2
              try clear c3
              try clear q3
              try clear c4
              try clear c5
              try clear p6
              try clear c7
              try clear c8
              try clear c9
              try clear c16
              try clear c18
              try clear c19
              try clear c19b0
              try clear c19b1
              try clear c20
              try clear c20b0
              try clear c20b1
              try clear c21
              try clear c22
              try clear c22b0
              try clear c22b1
              try clear c27
              try clear c28
              try clear c28b0
              try clear c28b1
              try clear c29
              try clear c29b0
              try clear c29b1
              try clear c29b2
              try clear c31
              try clear c31b0
              try clear c31b1
              try clear c32
              try clear c32b0
              try clear c32b1
              try clear c34
              try clear c35
              try clear q38
              try clear c46
              try clear c46b0
              try clear c46b1
              try clear p2
              try clear q38
              obtain ⟨kq, x93_36, rfl, HA, HJ36, HR360, HB⟩ := hcut
              cases kq with
              | zero => exact absurd HA.out (by simp [compositorlaw23_ShipBack.j2])
              | succ kj36 =>
               have H := HA.out
               clear HA
               simp only [compositorlaw23_ShipBack.j2] at H
               by_cases c47 : x93_36 = true
               ·subst c47
                have H1 : (none) = some r := by rw [if_pos rfl] at H; exact H
                clear H
                have H := H1
                clear H1
                exact absurd H (by simp)
               ·replace c47 := Bool.eq_false_iff.mpr c47
                subst c47
                have H1 : ((ship_Read.f kj36 l1).bind fun bt378 => ((ship_Write.f kj36 bt378.1).bind fun bt382 => (if t344 = true then (if bt378.2 = 0 then (if bt382.2 = 0 then (some ((strOfNums bt382.1).toList == (strOfNums l1).toList)) else (none)) else (some true)) else (none)))) = some r := by rw [if_neg (show ¬ (false = true) by decide)] at H; exact H
                clear H
                have H := H1
                clear H1
                replace H := Option.bind_eq_some_iff.mp H
                obtain ⟨⟨t378, t379⟩, A480, H⟩ := H
                replace H : ((ship_Write.f kj36 t378).bind fun bt382 => (if t344 = true then (if t379 = 0 then (if bt382.2 = 0 then (some ((strOfNums bt382.1).toList == (strOfNums l1).toList)) else (none)) else (some true)) else (none))) = some r := H
                have A48 := Aside0.mk A480
                clear A480
                replace H := Option.bind_eq_some_iff.mp H
                obtain ⟨⟨t382, t383⟩, A490, H⟩ := H
                replace H : (if t344 = true then (if t379 = 0 then (if t383 = 0 then (some ((strOfNums t382).toList == (strOfNums l1).toList)) else (none)) else (some true)) else (none)) = some r := H
                have A49 := Aside0.mk A490
                clear A490
                by_cases c50 : t344 = true
                ·subst c50
                 have H1 : (if t379 = 0 then (if t383 = 0 then (some ((strOfNums t382).toList == (strOfNums l1).toList)) else (none)) else (some true)) = some r := by rw [if_pos rfl] at H; exact H
                 clear H
                 have H := H1
                 clear H1
                 by_cases c51 : t379 = 0
                 ·rw [if_pos c51] at H
                  have c51b0 : (t379 == 0) = true := beq_iff_eq.mpr c51
                  have c51b1 : (t379 != 0) = false := bne_eq_false_iff_eq.mpr c51
                  clear c51
                  by_cases c52 : t383 = 0
                  ·rw [if_pos c52] at H
                   have c52b0 : (t383 == 0) = true := beq_iff_eq.mpr c52
                   have c52b1 : (t383 != 0) = false := bne_eq_false_iff_eq.mpr c52
                   clear c52
                   obtain rfl := Option.some.inj H
                   have tk_ : True := trivial
                   go_wp2_with (first | (go_at_call 16; clear tk_; (with_reducible refine (ship_Read.calls kj36 _ _ l1 t378 t379 _ ?side1 ?side2 A48.out).mono ?_); (case side1 => repeat (first | exact (Kd.C_below HR1.out HB.out) | (with_reducible apply Kd.C_alloc) | (with_reducible apply Kd.C_drewN) | (with_reducible apply Kd.C_drew))); (case side2 => exact HC1.out); rintro e w53 ⟨v380, rfl, ho0, hb⟩; have n0_ := Aside0.mk (Kd.S_lower ho0 (below_size (by repeat (first | (with_reducible first | exact HB.out | apply below_alloc | apply pw_below_drewN | apply below_drew1) | exact HB.out)))); have n1_ := Aside0.mk (Kd.C_below (by repeat (first | (with_reducible exact HR360.out) | (with_reducible apply Kd.C_alloc) | (with_reducible apply Kd.C_drewN) | (with_reducible apply Kd.C_drew) | exact HR360.out)) hb); have n2_ := Aside0.mk (below_step (by repeat (first | (with_reducible first | exact HB.out | apply below_alloc | apply pw_below_drewN | apply below_drew1) | exact HB.out)) hb); clear HR360; clear HB; have HO381 := n0_; have HR360 := n1_; have HB := n2_; clear n0_ n1_ n2_; (try clear hb); (try clear hb2); (try clear hk); (try clear hi); (try clear ho0); obtain ⟨Ao54, co54, eo54⟩ := Kd.S_slice HO381.out; subst eo54))
                   as_aux_lemma =>
                   have tk_ : True := trivial
                   go_wp2_with (first | (go_at_call 9; clear tk_; (with_reducible refine (ship_Write.calls kj36 _ _ t378 t382 t383 _ ?side1 ?side2 A49.out).mono ?_); (case side1 => repeat (first | exact (Kd.S_reads' HO381.out).2.2 | (with_reducible apply Kd.C_alloc) | (with_reducible apply Kd.C_drewN) | (with_reducible apply Kd.C_drew))); (case side2 => exact (Kd.S_reads' HO381.out).2.1); rintro e w55 ⟨v384, rfl, ho0, hb⟩; have n0_ := Aside0.mk (Kd.S_below (by (with_reducible repeat (first | apply Kd.S_alloc | apply Kd.S_drewN | apply Kd.S_drew)); exact HO381.out) hb); have n1_ := Aside0.mk (Kd.R_lower ho0 (below_size (by repeat (first | (with_reducible first | exact HB.out | apply below_alloc | apply pw_below_drewN | apply below_drew1) | exact HB.out)))); have n2_ := Aside0.mk (Kd.C_below (by repeat (first | (with_reducible exact HR360.out) | (with_reducible apply Kd.C_alloc) | (with_reducible apply Kd.C_drewN) | (with_reducible apply Kd.C_drew) | exact HR360.out)) hb); have n3_ := Aside0.mk (below_step (by repeat (first | (with_reducible first | exact HB.out | apply below_alloc | apply pw_below_drewN | apply below_drew1) | exact HB.out)) hb); clear HO381; clear HR360; clear HB; have HO381 := n0_; have HO385 := n1_; have HR360 := n2_; have HB := n3_; clear n0_ n1_ n2_ n3_; (try clear hb); (try clear hb2); (try clear hk); (try clear hi); (try clear ho0); have hcv56 := own_string (P := Try.prog) Try.underlying25 Try.underlying5 Try.underlying9 (Kd.own_of_R HO385.out); have hcvq56 := fun n_ : Nat => own_string (P := Try.prog) Try.underlying25 Try.underlying5 Try.underlying9 (Kd.own_of_R (Kd.R_drewN HO385.out n_)); have hcv57 := Kd.C_string (P := Try.prog) (A := A1) (c := c1) Try.underlying25 Try.underlying5 Try.underlying9 (Kd.C_below HR1.out HB.out); have hcvq57 := fun n_ : Nat => Kd.C_string (P := Try.prog) (A := A1) (c := c1) Try.underlying25 Try.underlying5 Try.underlying9 (Kd.C_drewN (Kd.C_below HR1.out HB.out) n_)))
                   go_ret
                   exact ⟨by first | rfl | (simp [errW_none, errW_some] <;> rfl) | (simp only [← hji30]; first | rfl | (simp [errW_none, errW_some] <;> rfl)) | (simp [*, errW_none, errW_some] <;> rfl), by repeat (first | (with_reducible first | exact HB.out | apply below_alloc | apply pw_below_drewN | apply below_drew1) | exact HB.out)⟩
                  ·rw [if_neg c52] at H
                   exact absurd H (by simp)
                 ·rw [if_neg c51] at H
                  have c51b0 : (t379 == 0) = false := beq_eq_false_iff_ne.mpr c51
                  have c51b1 : (t379 != 0) = true := bne_iff_ne.mpr c51
                  obtain rfl := Option.some.inj H
                  have tk_ : True := trivial
                  go_wp2_with (first | (go_at_call 16; clear tk_; (with_reducible refine (ship_Read.calls kj36 _ _ l1 t378 t379 _ ?side1 ?side2 A48.out).mono ?_); (case side1 => repeat (first | exact (Kd.C_below HR1.out HB.out) | (with_reducible apply Kd.C_alloc) | (with_reducible apply Kd.C_drewN) | (with_reducible apply Kd.C_drew))); (case side2 => exact HC1.out); rintro e w58 ⟨v380, rfl, ho0, hb⟩; have n0_ := Aside0.mk (Kd.S_lower ho0 (below_size (by repeat (first | (with_reducible first | exact HB.out | apply below_alloc | apply pw_below_drewN | apply below_drew1) | exact HB.out)))); have n1_ := Aside0.mk (Kd.C_below (by repeat (first | (with_reducible exact HR360.out) | (with_reducible apply Kd.C_alloc) | (with_reducible apply Kd.C_drewN) | (with_reducible apply Kd.C_drew) | exact HR360.out)) hb); have n2_ := Aside0.mk (below_step (by repeat (first | (with_reducible first | exact HB.out | apply below_alloc | apply pw_below_drewN | apply below_drew1) | exact HB.out)) hb); clear HR360; clear HB; have HO381 := n0_; have HR360 := n1_; have HB := n2_; clear n0_ n1_ n2_; (try clear hb); (try clear hb2); (try clear hk); (try clear hi); (try clear ho0); obtain ⟨Ao59, co59, eo59⟩ := Kd.S_slice HO381.out; subst eo59))
                  as_aux_lemma =>
                  have tk_ : True := trivial
                  go_wp2_with (first | (go_at_call 9; clear tk_; (with_reducible refine (ship_Write.calls kj36 _ _ t378 t382 t383 _ ?side1 ?side2 A49.out).mono ?_); (case side1 => repeat (first | exact (Kd.S_reads' HO381.out).2.2 | (with_reducible apply Kd.C_alloc) | (with_reducible apply Kd.C_drewN) | (with_reducible apply Kd.C_drew))); (case side2 => exact (Kd.S_reads' HO381.out).2.1); rintro e w60 ⟨v384, rfl, ho0, hb⟩; have n0_ := Aside0.mk (Kd.S_below (by (with_reducible repeat (first | apply Kd.S_alloc | apply Kd.S_drewN | apply Kd.S_drew)); exact HO381.out) hb); have n1_ := Aside0.mk (Kd.R_lower ho0 (below_size (by repeat (first | (with_reducible first | exact HB.out | apply below_alloc | apply pw_below_drewN | apply below_drew1) | exact HB.out)))); have n2_ := Aside0.mk (Kd.C_below (by repeat (first | (with_reducible exact HR360.out) | (with_reducible apply Kd.C_alloc) | (with_reducible apply Kd.C_drewN) | (with_reducible apply Kd.C_drew) | exact HR360.out)) hb); have n3_ := Aside0.mk (below_step (by repeat (first | (with_reducible first | exact HB.out | apply below_alloc | apply pw_below_drewN | apply below_drew1) | exact HB.out)) hb); clear HO381; clear HR360; clear HB; have HO381 := n0_; have HO385 := n1_; have HR360 := n2_; have HB := n3_; clear n0_ n1_ n2_ n3_; (try clear hb); (try clear hb2); (try clear hk); (try clear hi); (try clear ho0)))
                  go_ret
                  exact ⟨by first | rfl | (simp [errW_none, errW_some] <;> rfl) | (simp only [← hji30]; first | rfl | (simp [errW_none, errW_some] <;> rfl)) | (simp [*, errW_none, errW_some] <;> rfl), by repeat (first | (with_reducible first | exact HB.out | apply below_alloc | apply pw_below_drewN | apply below_drew1) | exact HB.out)⟩
                ·replace c50 := Bool.eq_false_iff.mpr c50
                 subst c50
                 have H1 : (none) = some r := by rw [if_neg (show ¬ (false = true) by decide)] at H; exact H
                 clear H
                 have H := H1
                 clear H1
                 exact absurd H (by simp)
            ·rw [if_neg c35] at H
             exact absurd H (by simp)
           ·rw [if_neg c34] at H
            exact absurd H (by simp)
          ·rw [if_neg c32] at H
           exact absurd H (by simp)
         ·rw [if_neg c31] at H
          exact absurd H (by simp)
       ·rw [if_neg c28] at H
        have c28b0 : (t347 == 0) = false := beq_eq_false_iff_ne.mpr c28
        have c28b1 : (t347 != 0) = true := bne_iff_ne.mpr c28
        replace H := Option.bind_eq_some_iff.mp H
        obtain ⟨⟨t386, t387⟩, A610, H⟩ := H
        replace H : ((ship_Write.f kj12 t386).bind fun bt390 => (if t344 = true then (if t387 = 0 then (if bt390.2 = 0 then (some ((strOfNums bt390.1).toList == (strOfNums l1).toList)) else (none)) else (some true)) else (none))) = some r := H
        have A61 := Aside0.mk A610
        clear A610
        replace H := Option.bind_eq_some_iff.mp H
        obtain ⟨⟨t390, t391⟩, A620, H⟩ := H
        replace H : (if t344 = true then (if t387 = 0 then (if t391 = 0 then (some ((strOfNums t390).toList == (strOfNums l1).toList)) else (none)) else (some true)) else (none)) = some r := H
        have A62 := Aside0.mk A620
        clear A620
        by_cases c63 : t344 = true
        ·subst c63
         have H1 : (if t387 = 0 then (if t391 = 0 then (some ((strOfNums t390).toList == (strOfNums l1).toList)) else (none)) else (some true)) = some r := by rw [if_pos rfl] at H; exact H
         clear H
         have H := H1
         clear H1
         by_cases c64 : t387 = 0
         ·rw [if_pos c64] at H
          have c64b0 : (t387 == 0) = true := beq_iff_eq.mpr c64
          have c64b1 : (t387 != 0) = false := bne_eq_false_iff_eq.mpr c64
          clear c64
          by_cases c65 : t391 = 0
          ·rw [if_pos c65] at H
           have c65b0 : (t391 == 0) = true := beq_iff_eq.mpr c65
           have c65b1 : (t391 != 0) = false := bne_eq_false_iff_eq.mpr c65
           clear c65
           obtain rfl := Option.some.inj H
           have tk_ : True := trivial
           go_wp2_with (first | (go_at_call 16; clear tk_; (with_reducible refine (ship_Read.calls kj12 _ _ l1 t386 t387 _ ?side1 ?side2 A61.out).mono ?_); (case side1 => repeat (first | exact (Kd.C_below HR1.out HB.out) | (with_reducible apply Kd.C_alloc) | (with_reducible apply Kd.C_drewN) | (with_reducible apply Kd.C_drew))); (case side2 => exact HC1.out); rintro e w66 ⟨v388, rfl, ho0, hb⟩; have n0_ := Aside0.mk (Kd.R_below (by (with_reducible repeat (first | apply Kd.R_alloc | apply Kd.R_drewN | apply Kd.R_drew)); exact HO_8.out) hb); have n1_ := Aside0.mk (Kd.S_lower ho0 (below_size (by repeat (first | (with_reducible first | exact HB.out | apply below_alloc | apply pw_below_drewN | apply below_drew1) | exact HB.out)))); have n2_ := Aside0.mk (below_step (by repeat (first | (with_reducible first | exact HB.out | apply below_alloc | apply pw_below_drewN | apply below_drew1) | exact HB.out)) hb); clear HO_8; clear HB; have HO_8 := n0_; have HO389 := n1_; have HB := n2_; clear n0_ n1_ n2_; (try clear hb); (try clear hb2); (try clear hk); (try clear hi); (try clear ho0); obtain ⟨Ao67, co67, eo67⟩ := Kd.S_slice HO389.out; subst eo67))
           as_aux_lemma =>
           have tk_ : True := trivial
           go_wp2_with (first | (go_at_call 9; clear tk_; (with_reducible refine (ship_Write.calls kj12 _ _ t386 t390 t391 _ ?side1 ?side2 A62.out).mono ?_); (case side1 => repeat (first | exact (Kd.S_reads' HO389.out).2.2 | (with_reducible apply Kd.C_alloc) | (with_reducible apply Kd.C_drewN) | (with_reducible apply Kd.C_drew))); (case side2 => exact (Kd.S_reads' HO389.out).2.1); rintro e w68 ⟨v392, rfl, ho0, hb⟩; have n0_ := Aside0.mk (Kd.R_elder' (by (with_reducible repeat (first | apply Kd.R_alloc | apply Kd.R_drewN | apply Kd.R_drew)); exact HO_8.out) (Kd.R_base ho0) hb); have n1_ := Aside0.mk (Kd.S_below (by (with_reducible repeat (first | apply Kd.S_alloc | apply Kd.S_drewN | apply Kd.S_drew)); exact HO389.out) hb); have n2_ := Aside0.mk (Kd.R_lower (Kd.R_new' ho0 (Kd.R_lt (by (with_reducible repeat (first | apply Kd.R_alloc | apply Kd.R_drewN | apply Kd.R_drew)); exact HO_8.out))) (below_size (by repeat (first | (with_reducible first | exact HB.out | apply below_alloc | apply pw_below_drewN | apply below_drew1) | exact HB.out)))); have n3_ := Aside0.mk (below_step (by repeat (first | (with_reducible first | exact HB.out | apply below_alloc | apply pw_below_drewN | apply below_drew1) | exact HB.out)) hb); clear HO_8; clear HO389; clear HB; have HO_8 := n0_; have HO389 := n1_; have HO393 := n2_; have HB := n3_; clear n0_ n1_ n2_ n3_; (try clear hb); (try clear hb2); (try clear hk); (try clear hi); (try clear ho0); have hcv69 := own_string (P := Try.prog) Try.underlying25 Try.underlying5 Try.underlying9 (Kd.own_of_R HO393.out); have hcvq69 := fun n_ : Nat => own_string (P := Try.prog) Try.underlying25 Try.underlying5 Try.underlying9 (Kd.own_of_R (Kd.R_drewN HO393.out n_)); have hcv70 := Kd.C_string (P := Try.prog) (A := A1) (c := c1) Try.underlying25 Try.underlying5 Try.underlying9 (Kd.C_below HR1.out HB.out); have hcvq70 := fun n_ : Nat => Kd.C_string (P := Try.prog) (A := A1) (c := c1) Try.underlying25 Try.underlying5 Try.underlying9 (Kd.C_drewN (Kd.C_below HR1.out HB.out) n_)))
           go_ret
           exact ⟨by first | rfl | (simp [errW_none, errW_some] <;> rfl) | (simp [*, errW_none, errW_some] <;> rfl), by repeat (first | (with_reducible first | exact HB.out | apply below_alloc | apply pw_below_drewN | apply below_drew1) | exact HB.out)⟩
          ·rw [if_neg c65] at H
           exact absurd H (by simp)
         ·rw [if_neg c64] at H
          have c64b0 : (t387 == 0) = false := beq_eq_false_iff_ne.mpr c64
          have c64b1 : (t387 != 0) = true := bne_iff_ne.mpr c64
          obtain rfl := Option.some.inj H
          have tk_ : True := trivial
          go_wp2_with (first | (go_at_call 16; clear tk_; (with_reducible refine (ship_Read.calls kj12 _ _ l1 t386 t387 _ ?side1 ?side2 A61.out).mono ?_); (case side1 => repeat (first | exact (Kd.C_below HR1.out HB.out) | (with_reducible apply Kd.C_alloc) | (with_reducible apply Kd.C_drewN) | (with_reducible apply Kd.C_drew))); (case side2 => exact HC1.out); rintro e w71 ⟨v388, rfl, ho0, hb⟩; have n0_ := Aside0.mk (Kd.R_below (by (with_reducible repeat (first | apply Kd.R_alloc | apply Kd.R_drewN | apply Kd.R_drew)); exact HO_8.out) hb); have n1_ := Aside0.mk (Kd.S_lower ho0 (below_size (by repeat (first | (with_reducible first | exact HB.out | apply below_alloc | apply pw_below_drewN | apply below_drew1) | exact HB.out)))); have n2_ := Aside0.mk (below_step (by repeat (first | (with_reducible first | exact HB.out | apply below_alloc | apply pw_below_drewN | apply below_drew1) | exact HB.out)) hb); clear HO_8; clear HB; have HO_8 := n0_; have HO389 := n1_; have HB := n2_; clear n0_ n1_ n2_; (try clear hb); (try clear hb2); (try clear hk); (try clear hi); (try clear ho0); obtain ⟨Ao72, co72, eo72⟩ := Kd.S_slice HO389.out; subst eo72))
          as_aux_lemma =>
          have tk_ : True := trivial
          go_wp2_with (first | (go_at_call 9; clear tk_; (with_reducible refine (ship_Write.calls kj12 _ _ t386 t390 t391 _ ?side1 ?side2 A62.out).mono ?_); (case side1 => repeat (first | exact (Kd.S_reads' HO389.out).2.2 | (with_reducible apply Kd.C_alloc) | (with_reducible apply Kd.C_drewN) | (with_reducible apply Kd.C_drew))); (case side2 => exact (Kd.S_reads' HO389.out).2.1); rintro e w73 ⟨v392, rfl, ho0, hb⟩; have n0_ := Aside0.mk (Kd.R_elder' (by (with_reducible repeat (first | apply Kd.R_alloc | apply Kd.R_drewN | apply Kd.R_drew)); exact HO_8.out) (Kd.R_base ho0) hb); have n1_ := Aside0.mk (Kd.S_below (by (with_reducible repeat (first | apply Kd.S_alloc | apply Kd.S_drewN | apply Kd.S_drew)); exact HO389.out) hb); have n2_ := Aside0.mk (Kd.R_lower (Kd.R_new' ho0 (Kd.R_lt (by (with_reducible repeat (first | apply Kd.R_alloc | apply Kd.R_drewN | apply Kd.R_drew)); exact HO_8.out))) (below_size (by repeat (first | (with_reducible first | exact HB.out | apply below_alloc | apply pw_below_drewN | apply below_drew1) | exact HB.out)))); have n3_ := Aside0.mk (below_step (by repeat (first | (with_reducible first | exact HB.out | apply below_alloc | apply pw_below_drewN | apply below_drew1) | exact HB.out)) hb); clear HO_8; clear HO389; clear HB; have HO_8 := n0_; have HO389 := n1_; have HO393 := n2_; have HB := n3_; clear n0_ n1_ n2_ n3_; (try clear hb); (try clear hb2); (try clear hk); (try clear hi); (try clear ho0)))
          go_ret
          exact ⟨by first | rfl | (simp [errW_none, errW_some] <;> rfl) | (simp [*, errW_none, errW_some] <;> rfl), by repeat (first | (with_reducible first | exact HB.out | apply below_alloc | apply pw_below_drewN | apply below_drew1) | exact HB.out)⟩
        ·replace c63 := Bool.eq_false_iff.mpr c63
         subst c63
         have H1 : (none) = some r := by rw [if_neg (show ¬ (false = true) by decide)] at H; exact H
         clear H
         have H := H1
         clear H1
         exact absurd H (by simp)

end Go.Proofs.Ytihiiidbhhlfnaa.G
