/- Contracts of the functions of this seat: what each call computes, as a plain Lean function. Made by this session's own generator. -/
import Derived.Test.YtanhafkoohnjhaaGx0
import Derived.Test.YtanhafkoohnjhaaGx1
import Derived.Test.YtanhafkoohnjhaaGx3
import Derived.Test.YtanhafkoohnjhaaGx4
import Derived.Test.YtanhafkoohnjhaaGx6
import Derived.Test.YtanhafkoohnjhaaGx11
namespace Go.Proofs.Ytanhafkoohnjhaa.G
open Go.RowKit Go.Proofs.YtanhafkoohnjhaaMy Go.Proofs.YtanhafkoohnjhaaW.PrintWords Go.Proofs.YtanhafkoohnjhaaW.PrintLast Go.Proofs.YtanhafkoohnjhaaW.PrintMore
attribute [local go_sem] max2_int min2_int max_two min_two max_three min_three max_four min_four   -- for this text's walks alone
set_option linter.unusedVariables false
set_option linter.unusedSimpArgs false

/-! ### compositorlaw13_TextJoins: function 8 -/
mutual
def compositorlaw13_TextJoins.j0 : Nat → List Int → List Int → Int → Bool → Bool → Option (Bool)
 | 0, _, _, _, _, _ => none
 | k + 1, x0, x1, x2, x7, x28 => if x28 = true then (some x7) else ((text_Read.f k x0).bind fun bt361 => ((text_Read.f k x1).bind fun bt365 => ((some (([] : List Int) : List Int)).bind fun y369 => (if y369.length + x0.length < 140737488355328 then ((some (y369 ++ x0 : List Int)).bind fun y372 => (if y372.length < 140737488355328 then ((some (y372 ++ [32] : List Int)).bind fun y375 => (if y375.length + x1.length < 140737488355328 then ((text_Read.f k (y375 ++ x1)).bind fun bt381 => (if bt361.2 = 0 then (compositorlaw13_TextJoins.j1 k x2 x7 bt361.1 bt365.1 bt381.1 bt381.2 (bt365.2 != 0)) else (compositorlaw13_TextJoins.j1 k x2 x7 bt361.1 bt365.1 bt381.1 bt381.2 true))) else (none))) else (none))) else (none)))))
def compositorlaw13_TextJoins.j1 : Nat → Int → Bool → List (S36) → List (S36) → List (S36) → Int → Bool → Option (Bool)
 | 0, _, _, _, _, _, _, _ => none
 | k + 1, x2, x7, x8, x10, x12, x13, x56 => if x56 = true then (if x7 = true then (some ((wrap64 ((x8.length : Int) * (x10.length : Int))) == 0)) else (none)) else ((some (([] : List (S36)) : List (S36))).bind fun y385 => (if y385.length + x8.length < 2932031007402 then ((some (y385 ++ x8 : List (S36))).bind fun y388 => (if y388.length + x10.length < 2932031007402 then ((some (y388 ++ x10 : List (S36))).bind fun y391 => (if x13 = 0 then (if (mx (y391.length : Int) 1) = 0 then (none) else (if (wrap64 (1 + (Int.tmod (wrap64 (x2)) (mx (y391.length : Int) 1)))) > (y391.length : Int) then (none) else (if 0 ≤ (wrap64 (1 + (Int.tmod (wrap64 (x2)) (mx (y391.length : Int) 1)))) then (if (wrap64 (1 + (Int.tmod (wrap64 (x2)) (mx (y391.length : Int) 1)))) ≤ (y391.length : Int) then ((text_Write.f k (y391.take ((wrap64 (1 + (Int.tmod (wrap64 (x2)) (mx (y391.length : Int) 1)))) : Int).toNat)).bind fun bt400 => ((text_Write.f k x12).bind fun bt404 => (if bt400.2 = 0 then (if bt404.2 = 0 then (compositorlaw13_TextJoins.j2 k x7 x12 y391 bt400.1 bt404.1 (decide ((bt400.1.length : Int) > (bt404.1.length : Int)))) else (compositorlaw13_TextJoins.j2 k x7 x12 y391 bt400.1 bt404.1 true)) else (compositorlaw13_TextJoins.j2 k x7 x12 y391 bt400.1 bt404.1 true)))) else (none)) else (none)))) else (if x7 = true then ((text_Check.f k y391).bind fun t394 => (some (!t394))) else (none)))) else (none))) else (none)))
def compositorlaw13_TextJoins.j2 : Nat → Bool → List (S36) → List (S36) → List Int → List Int → Bool → Option (Bool)
 | 0, _, _, _, _, _, _ => none
 | k + 1, x7, x12, x14, x16, x18, x114 => if x114 = true then (none) else (if x7 = true then ((text_Check.f k x14).bind fun t408 => (if t408 = true then ((compositorref13_Same.f k x12 x14).bind fun t409 => (if t409 = true then (if 0 ≤ (x16.length : Int) then (if (x16.length : Int) ≤ (x18.length : Int) then (some ((strOfNums (x18.take ((x16.length : Int) : Int).toNat)).toList == (strOfNums x16).toList)) else (none)) else (none)) else (none))) else (none))) else (none))
end
def compositorlaw13_TextJoins.f (k : Nat) (l0 : List Int) (l1 : List Int) (a2 : Int) : Option (Bool) := (compositorlaw13_awake.f k).bind fun t360 => (if (l0.length : Int) > 2000 then (compositorlaw13_TextJoins.j0 k l0 l1 a2 t360 true) else (compositorlaw13_TextJoins.j0 k l0 l1 a2 t360 (decide ((l1.length : Int) > 2000))))
theorem compositorlaw13_TextJoins.mono_l : ∀ k, (∀ y0 y1 y2 y3 y4, LeO (compositorlaw13_TextJoins.j0 k y0 y1 y2 y3 y4) (compositorlaw13_TextJoins.j0 (k + 1) y0 y1 y2 y3 y4)) ∧ (∀ y0 y1 y2 y3 y4 y5 y6, LeO (compositorlaw13_TextJoins.j1 k y0 y1 y2 y3 y4 y5 y6) (compositorlaw13_TextJoins.j1 (k + 1) y0 y1 y2 y3 y4 y5 y6)) ∧ (∀ y0 y1 y2 y3 y4 y5, LeO (compositorlaw13_TextJoins.j2 k y0 y1 y2 y3 y4 y5) (compositorlaw13_TextJoins.j2 (k + 1) y0 y1 y2 y3 y4 y5))
 | 0 => ⟨fun _ _ _ _ _ r h => by simp [compositorlaw13_TextJoins.j0] at h, fun _ _ _ _ _ _ _ r h => by simp [compositorlaw13_TextJoins.j1] at h, fun _ _ _ _ _ _ r h => by simp [compositorlaw13_TextJoins.j2] at h⟩
 | k + 1 => by
  obtain ⟨ih0, ih1, ih2⟩ := compositorlaw13_TextJoins.mono_l k
  refine ⟨?_, ?_, ?_⟩
  ·intro y0 y1 y2 y3 y4
   unfold compositorlaw13_TextJoins.j0
   repeat' first
   | (with_reducible exact ih0 _ _ _ _ _)
   | (with_reducible exact ih1 _ _ _ _ _ _ _)
   | (with_reducible exact ih2 _ _ _ _ _ _)
   | (with_reducible exact compositorlaw13_awake.mono _)
   | (with_reducible exact compositorref13_Same.mono _ _ _)
   | (with_reducible exact text_Check.mono _ _)
   | (with_reducible exact text_Read.mono _ _)
   | (with_reducible exact text_Write.mono _ _)
   | (with_reducible exact LeO.refl _)
   | (with_reducible exact LeO.none _)
   | (with_reducible refine LeO.ite ?_ ?_)
   | (with_reducible refine LeO.bind ?_ (fun _ => ?_))
   | exact ih0 _ _ _ _ _
   | exact ih1 _ _ _ _ _ _ _
   | exact ih2 _ _ _ _ _ _
   | exact compositorlaw13_awake.mono _
   | exact compositorref13_Same.mono _ _ _
   | exact text_Check.mono _ _
   | exact text_Read.mono _ _
   | exact text_Write.mono _ _
   | exact LeO.none _
   | refine LeO.ite ?_ ?_
   | refine LeO.bind ?_ (fun _ => ?_)
  ·intro y0 y1 y2 y3 y4 y5 y6
   unfold compositorlaw13_TextJoins.j1
   repeat' first
   | (with_reducible exact ih0 _ _ _ _ _)
   | (with_reducible exact ih1 _ _ _ _ _ _ _)
   | (with_reducible exact ih2 _ _ _ _ _ _)
   | (with_reducible exact compositorlaw13_awake.mono _)
   | (with_reducible exact compositorref13_Same.mono _ _ _)
   | (with_reducible exact text_Check.mono _ _)
   | (with_reducible exact text_Read.mono _ _)
   | (with_reducible exact text_Write.mono _ _)
   | (with_reducible exact LeO.refl _)
   | (with_reducible exact LeO.none _)
   | (with_reducible refine LeO.ite ?_ ?_)
   | (with_reducible refine LeO.bind ?_ (fun _ => ?_))
   | exact ih0 _ _ _ _ _
   | exact ih1 _ _ _ _ _ _ _
   | exact ih2 _ _ _ _ _ _
   | exact compositorlaw13_awake.mono _
   | exact compositorref13_Same.mono _ _ _
   | exact text_Check.mono _ _
   | exact text_Read.mono _ _
   | exact text_Write.mono _ _
   | exact LeO.none _
   | refine LeO.ite ?_ ?_
   | refine LeO.bind ?_ (fun _ => ?_)
  ·intro y0 y1 y2 y3 y4 y5
   unfold compositorlaw13_TextJoins.j2
   repeat' first
   | (with_reducible exact ih0 _ _ _ _ _)
   | (with_reducible exact ih1 _ _ _ _ _ _ _)
   | (with_reducible exact ih2 _ _ _ _ _ _)
   | (with_reducible exact compositorlaw13_awake.mono _)
   | (with_reducible exact compositorref13_Same.mono _ _ _)
   | (with_reducible exact text_Check.mono _ _)
   | (with_reducible exact text_Read.mono _ _)
   | (with_reducible exact text_Write.mono _ _)
   | (with_reducible exact LeO.refl _)
   | (with_reducible exact LeO.none _)
   | (with_reducible refine LeO.ite ?_ ?_)
   | (with_reducible refine LeO.bind ?_ (fun _ => ?_))
   | exact ih0 _ _ _ _ _
   | exact ih1 _ _ _ _ _ _ _
   | exact ih2 _ _ _ _ _ _
   | exact compositorlaw13_awake.mono _
   | exact compositorref13_Same.mono _ _ _
   | exact text_Check.mono _ _
   | exact text_Read.mono _ _
   | exact text_Write.mono _ _
   | exact LeO.none _
   | refine LeO.ite ?_ ?_
   | refine LeO.bind ?_ (fun _ => ?_)
theorem compositorlaw13_TextJoins.mono : ∀ a0 a1 a2 k, LeO (compositorlaw13_TextJoins.f k a0 a1 a2) (compositorlaw13_TextJoins.f (k + 1) a0 a1 a2) := by
 intro a0 a1 a2 k
 obtain ⟨ih0, ih1, ih2⟩ := compositorlaw13_TextJoins.mono_l k
 unfold compositorlaw13_TextJoins.f
 repeat' first
   | (with_reducible exact ih0 _ _ _ _ _)
   | (with_reducible exact ih1 _ _ _ _ _ _ _)
   | (with_reducible exact ih2 _ _ _ _ _ _)
   | (with_reducible exact compositorlaw13_awake.mono _)
   | (with_reducible exact compositorref13_Same.mono _ _ _)
   | (with_reducible exact text_Check.mono _ _)
   | (with_reducible exact text_Read.mono _ _)
   | (with_reducible exact text_Write.mono _ _)
   | (with_reducible exact LeO.refl _)
   | (with_reducible exact LeO.none _)
   | (with_reducible refine LeO.ite ?_ ?_)
   | (with_reducible refine LeO.bind ?_ (fun _ => ?_))
   | exact ih0 _ _ _ _ _
   | exact ih1 _ _ _ _ _ _ _
   | exact ih2 _ _ _ _ _ _
   | exact compositorlaw13_awake.mono _
   | exact compositorref13_Same.mono _ _ _
   | exact text_Check.mono _ _
   | exact text_Read.mono _ _
   | exact text_Write.mono _ _
   | exact LeO.none _
   | refine LeO.ite ?_ ?_
   | refine LeO.bind ?_ (fun _ => ?_)
def compositorlaw13_TextJoins.T19 : Bool × List (List Nat × List Nat) := (true, [([], []), ([0], [0]), ([1], [1]), ([2, 1, 1], [1, 2]), ([1, 3], [1, 3]), ([4, 3], [4]), ([5], [5]), ([5], [5]), ([6, 7, 5, 5], [5, 6, 7]), ([5, 8], [5, 8]), ([9, 8], [9]), ([10], [10]), ([10], [10]), ([12, 10], [10, 12]), ([11, 13, 10], [10, 11, 13]), ([14, 10], [10, 14]), ([10], [10]), ([16, 10], [10, 16]), ([15, 17, 10], [10, 15, 17]), ([10, 18], [10, 18]), ([19, 10, 0, 1, 2, 3, 4, 5, 6, 7, 8, 9, 10, 11, 12, 13, 14, 15, 16, 17, 18, 19], [19])])
def compositorlaw13_TextJoins.B19 : List Nat := [0, 1, 3, 7, 15, 31, 63, 63, 255, 511, 1023, 2047, 2047, 6143, 16383, 32767, 2047, 67583, 262143, 524287, 1048575]
theorem compositorlaw13_TextJoins.tab19 : rtab .any (opsOf Try.f8 19) = compositorlaw13_TextJoins.T19 := by kernel_rfl
theorem compositorlaw13_TextJoins.bits19 : waitsOk compositorlaw13_TextJoins.T19.2 compositorlaw13_TextJoins.B19 = true := by kernel_rfl
set_option maxHeartbeats 8000000 in
set_option maxRecDepth 100000 in
theorem compositorlaw13_TextJoins.calls (k : Nat) (A0 : Option Addr) (c0 : Nat) (l0 : List Int) (A1 : Option Addr) (c1 : Nat) (l1 : List Int) (a2 : Int) (r : Bool) (w : World) (hr0 : Kd.C (Kd.int .u8) w A0 l0.length l0) (hc0 : l0.length ≤ c0) (hr1 : Kd.C (Kd.int .u8) w A1 l1.length l1) (hc1 : l1.length ≤ c1) (h : compositorlaw13_TextJoins.f k l0 l1 a2 = some r) :
  Calls Try.prog 8 #[.slice A0 l0.length c0, .slice A1 l1.length c1, .int .u8 a2] w fun e w' => e = .returned (.bool r) ∧ Below w.heap.size w w' := by
 have HR0 := Aside0.mk hr0
 have HC0 := Aside0.mk hc0
 clear hr0 hc0
 have HR1 := Aside0.mk hr1
 have HC1 := Aside0.mk hc1
 clear hr1 hc1
 have HB := Aside0.mk (Below.refl w.heap.size w)
 have H : ((compositorlaw13_awake.f k).bind fun t360 => (if (l0.length : Int) > 2000 then (compositorlaw13_TextJoins.j0 k l0 l1 a2 t360 true) else (compositorlaw13_TextJoins.j0 k l0 l1 a2 t360 (decide ((l1.length : Int) > 2000))))) = some r := h
 clear h
 replace H := Option.bind_eq_some_iff.mp H
 obtain ⟨t360, A40, H⟩ := H
 replace H : (if (l0.length : Int) > 2000 then (compositorlaw13_TextJoins.j0 k l0 l1 a2 t360 true) else (compositorlaw13_TextJoins.j0 k l0 l1 a2 t360 (decide ((l1.length : Int) > 2000)))) = some r := H
 have A4 := Aside0.mk A40
 clear A40
 have HC5 := Aside0.mk H
 clear H
 go_enter Try.func8, Try.ntmps8
 go_upto_region 2 with (first | ((with_reducible refine gate_callee (f := 10) rfl ?_); refine goesL_ (some 20) rfl rfl Try.func10 (by kernel_rfl) rfl #[] rfl (by (try simp only [List.map_toArray, List.map_cons, List.map_nil]); first | done | rfl | (simp only [List.length_drop, List.length_take]; rfl)) ?_; (with_reducible refine (compositorlaw13_awake.calls k  t360 _ A4.out).mono ?_); rintro e w6 ⟨rfl, hb⟩; refine ⟨_, rfl, ?_⟩; have n0_ := Aside0.mk (below_step (by repeat (first | (with_reducible first | exact HB.out | apply below_alloc | apply pw_below_drewN | apply below_drew1) | exact HB.out)) hb); clear HB; have HB := n0_; clear n0_; (try clear hb); (try clear hb2); (try clear hk); (try clear hi)))
 (try simp only [Act.put, List.setIfInBounds_toArray, List.set_cons_zero, List.set_cons_succ])
 go_cut [28] (fun v28 wc => ∃ (kq : Nat) (x28_4 : Bool), v28 = .bool x28_4 ∧ Aside0 (compositorlaw13_TextJoins.j0 kq l0 l1 a2 t360 x28_4 = some r) ∧ Aside0 (kq ≤ k) ∧ Aside0 (Below w.heap.size w wc))
 case first => as_aux_lemma =>
  have H := HC5.out
  clear HC5
  by_cases c7 : (l0.length : Int) > 2000
  ·rw [if_pos c7] at H
   have c7b0 : decide (2000 < (l0.length : Int)) = true := decide_eq_true c7
   have c7b1 : decide (2000 < l0.length) = true := decide_eq_true (by omega)
   clear c7
   (first | rw [c7b0] | (simp only [i64_w, i32_w]; rw [c7b0]) | skip)
   have H' := Aside0.mk H
   clear H
   go_wp2
   go_meet
   case rel => exact ⟨_, (true), (by first | rfl | (simp; done) | (simp [*]; done)), H', ⟨by first | omega | exact Nat.le_refl _⟩, ⟨by repeat (first | (with_reducible first | exact HB.out | apply below_alloc | apply pw_below_drewN | apply below_drew1) | exact HB.out)⟩⟩
  ·rw [if_neg c7] at H
   have c7b0 : decide (2000 < (l0.length : Int)) = false := decide_eq_false c7
   have c7b1 : decide (2000 < l0.length) = false := decide_eq_false (by omega)
   clear c7
   (first | rw [c7b0] | (simp only [i64_w, i32_w]; rw [c7b0]) | skip)
   have H' := Aside0.mk H
   clear H
   go_wp2
   go_meet
   case rel => exact ⟨_, (decide ((l1.length : Int) > 2000)), (by first | rfl | (simp; done) | (simp [*]; done)), H', ⟨by first | omega | exact Nat.le_refl _⟩, ⟨by repeat (first | (with_reducible first | exact HB.out | apply below_alloc | apply pw_below_drewN | apply below_drew1) | exact HB.out)⟩⟩
 case rest => as_aux_lemma =>
  clear HC5
  try clear c1
  try clear p2
  try clear c7
  try clear c7b0
  try clear c7b1
  obtain ⟨kq, x28_4, rfl, HA, HJ4, HB⟩ := hcut
  cases kq with
  | zero => exact absurd HA.out (by simp [compositorlaw13_TextJoins.j0])
  | succ kj4 =>
   have H := HA.out
   clear HA
   simp only [compositorlaw13_TextJoins.j0] at H
   by_cases c8 : x28_4 = true
   ·subst c8
    have H1 : (some t360) = some r := by rw [if_pos rfl] at H; exact H
    clear H
    have H := H1
    clear H1
    obtain rfl := Option.some.inj H
    go_wp2
    go_ret
    exact ⟨by first | rfl | (simp [errW_none, errW_some] <;> rfl) | (simp [*, errW_none, errW_some] <;> rfl), by repeat (first | (with_reducible first | exact HB.out | apply below_alloc | apply pw_below_drewN | apply below_drew1) | exact HB.out)⟩
   ·replace c8 := Bool.eq_false_iff.mpr c8
    subst c8
    have H1 : ((text_Read.f kj4 l0).bind fun bt361 => ((text_Read.f kj4 l1).bind fun bt365 => ((some (([] : List Int) : List Int)).bind fun y369 => (if y369.length + l0.length < 140737488355328 then ((some (y369 ++ l0 : List Int)).bind fun y372 => (if y372.length < 140737488355328 then ((some (y372 ++ [32] : List Int)).bind fun y375 => (if y375.length + l1.length < 140737488355328 then ((text_Read.f kj4 (y375 ++ l1)).bind fun bt381 => (if bt361.2 = 0 then (compositorlaw13_TextJoins.j1 kj4 a2 t360 bt361.1 bt365.1 bt381.1 bt381.2 (bt365.2 != 0)) else (compositorlaw13_TextJoins.j1 kj4 a2 t360 bt361.1 bt365.1 bt381.1 bt381.2 true))) else (none))) else (none))) else (none))))) = some r := by rw [if_neg (show ¬ (false = true) by decide)] at H; exact H
    clear H
    have H := H1
    clear H1
    replace H := Option.bind_eq_some_iff.mp H
    obtain ⟨⟨t361, t362⟩, A90, H⟩ := H
    replace H : ((text_Read.f kj4 l1).bind fun bt365 => ((some (([] : List Int) : List Int)).bind fun y369 => (if y369.length + l0.length < 140737488355328 then ((some (y369 ++ l0 : List Int)).bind fun y372 => (if y372.length < 140737488355328 then ((some (y372 ++ [32] : List Int)).bind fun y375 => (if y375.length + l1.length < 140737488355328 then ((text_Read.f kj4 (y375 ++ l1)).bind fun bt381 => (if t362 = 0 then (compositorlaw13_TextJoins.j1 kj4 a2 t360 t361 bt365.1 bt381.1 bt381.2 (bt365.2 != 0)) else (compositorlaw13_TextJoins.j1 kj4 a2 t360 t361 bt365.1 bt381.1 bt381.2 true))) else (none))) else (none))) else (none)))) = some r := H
    have A9 := Aside0.mk A90
    clear A90
    replace H := Option.bind_eq_some_iff.mp H
    obtain ⟨⟨t365, t366⟩, A100, H⟩ := H
    replace H : ((some (([] : List Int) : List Int)).bind fun y369 => (if y369.length + l0.length < 140737488355328 then ((some (y369 ++ l0 : List Int)).bind fun y372 => (if y372.length < 140737488355328 then ((some (y372 ++ [32] : List Int)).bind fun y375 => (if y375.length + l1.length < 140737488355328 then ((text_Read.f kj4 (y375 ++ l1)).bind fun bt381 => (if t362 = 0 then (compositorlaw13_TextJoins.j1 kj4 a2 t360 t361 t365 bt381.1 bt381.2 (t366 != 0)) else (compositorlaw13_TextJoins.j1 kj4 a2 t360 t361 t365 bt381.1 bt381.2 true))) else (none))) else (none))) else (none))) = some r := H
    have A10 := Aside0.mk A100
    clear A100
    obtain ⟨y369, hy369⟩ : ∃ y_ : List Int, y_ = (([] : List Int)) := ⟨_, rfl⟩
    replace H : (if y369.length + l0.length < 140737488355328 then ((some (y369 ++ l0 : List Int)).bind fun y372 => (if y372.length < 140737488355328 then ((some (y372 ++ [32] : List Int)).bind fun y375 => (if y375.length + l1.length < 140737488355328 then ((text_Read.f kj4 (y375 ++ l1)).bind fun bt381 => (if t362 = 0 then (compositorlaw13_TextJoins.j1 kj4 a2 t360 t361 t365 bt381.1 bt381.2 (t366 != 0)) else (compositorlaw13_TextJoins.j1 kj4 a2 t360 t361 t365 bt381.1 bt381.2 true))) else (none))) else (none))) else (none)) = some r := by first | (rw [hy369]; with_reducible exact H) | (have H2_ := (Option.bind_some _ _).symm.trans H; rw [hy369]; with_reducible exact H2_) | (have H2_ := (Option.bind_some _ _).symm.trans H; with_reducible exact H2_) | with_reducible exact H | (rw [hy369]; exact H) | exact H
    have Ny369 := Aside0.mk hy369
    clear hy369
    by_cases c11 : y369.length + l0.length < 140737488355328
    ·rw [if_pos c11] at H
     have LMc11 := Aside0.mk c11
     clear c11
     obtain ⟨y372, hy372⟩ : ∃ y_ : List Int, y_ = (y369 ++ l0) := ⟨_, rfl⟩
     replace H : (if y372.length < 140737488355328 then ((some (y372 ++ [32] : List Int)).bind fun y375 => (if y375.length + l1.length < 140737488355328 then ((text_Read.f kj4 (y375 ++ l1)).bind fun bt381 => (if t362 = 0 then (compositorlaw13_TextJoins.j1 kj4 a2 t360 t361 t365 bt381.1 bt381.2 (t366 != 0)) else (compositorlaw13_TextJoins.j1 kj4 a2 t360 t361 t365 bt381.1 bt381.2 true))) else (none))) else (none)) = some r := by first | (rw [hy372]; with_reducible exact H) | (have H2_ := (Option.bind_some _ _).symm.trans H; rw [hy372]; with_reducible exact H2_) | (have H2_ := (Option.bind_some _ _).symm.trans H; with_reducible exact H2_) | with_reducible exact H | (rw [hy372]; exact H) | exact H
     have Ny372 := Aside0.mk hy372
     clear hy372
     by_cases c12 : y372.length < 140737488355328
     ·rw [if_pos c12] at H
      have LMc12 := Aside0.mk c12
      clear c12
      obtain ⟨y375, hy375⟩ : ∃ y_ : List Int, y_ = (y372 ++ [32]) := ⟨_, rfl⟩
      replace H : (if y375.length + l1.length < 140737488355328 then ((text_Read.f kj4 (y375 ++ l1)).bind fun bt381 => (if t362 = 0 then (compositorlaw13_TextJoins.j1 kj4 a2 t360 t361 t365 bt381.1 bt381.2 (t366 != 0)) else (compositorlaw13_TextJoins.j1 kj4 a2 t360 t361 t365 bt381.1 bt381.2 true))) else (none)) = some r := by first | (rw [hy375]; with_reducible exact H) | (have H2_ := (Option.bind_some _ _).symm.trans H; rw [hy375]; with_reducible exact H2_) | (have H2_ := (Option.bind_some _ _).symm.trans H; with_reducible exact H2_) | with_reducible exact H | (rw [hy375]; exact H) | exact H
      have Ny375 := Aside0.mk hy375
      clear hy375
      by_cases c13 : y375.length + l1.length < 140737488355328
      ·rw [if_pos c13] at H
       have LMc13 := Aside0.mk c13
       clear c13
       obtain ⟨y378, hy378⟩ : ∃ y_ : List Int, y_ = (y375 ++ l1) := ⟨_, rfl⟩
       replace H : ((text_Read.f kj4 y378).bind fun bt381 => (if t362 = 0 then (compositorlaw13_TextJoins.j1 kj4 a2 t360 t361 t365 bt381.1 bt381.2 (t366 != 0)) else (compositorlaw13_TextJoins.j1 kj4 a2 t360 t361 t365 bt381.1 bt381.2 true))) = some r := by first | (rw [hy378]; with_reducible exact H) | (have H2_ := (Option.bind_some _ _).symm.trans H; rw [hy378]; with_reducible exact H2_) | (have H2_ := (Option.bind_some _ _).symm.trans H; with_reducible exact H2_) | with_reducible exact H | (rw [hy378]; exact H) | exact H
       have Ny378 := Aside0.mk hy378
       clear hy378
       replace H := Option.bind_eq_some_iff.mp H
       obtain ⟨⟨t381, t382⟩, A140, H⟩ := H
       replace H : (if t362 = 0 then (compositorlaw13_TextJoins.j1 kj4 a2 t360 t361 t365 t381 t382 (t366 != 0)) else (compositorlaw13_TextJoins.j1 kj4 a2 t360 t361 t365 t381 t382 true)) = some r := H
       have A14 := Aside0.mk A140
       clear A140
       have HC15 := Aside0.mk H
       clear H
       have tk_ : True := trivial
       go_upto_region 7 with (first | (go_at_call 11; clear tk_; (with_reducible refine (text_Read.calls kj4 _ _ l0 t361 t362 _ ?side1 ?side2 A9.out).mono ?_); (case side1 => repeat (first | exact (Kd.C_below HR0.out HB.out) | (with_reducible apply Kd.C_alloc) | (with_reducible apply Kd.C_drewN) | (with_reducible apply Kd.C_drew))); (case side2 => exact HC0.out); rintro e w16 ⟨v363, rfl, ho0, hb⟩; have n0_ := Aside0.mk (Kd.N_lower (Kd.N_mono (ok' := fun k_ => True) (Kd.S_N (Kd.S_bound ho0)) (fun k_ hk_ => trivial)) (below_size (by repeat (first | (with_reducible first | exact HB.out | apply below_alloc | apply pw_below_drewN | apply below_drew1) | exact HB.out)))); have n1_ := Aside0.mk (below_step (by repeat (first | (with_reducible first | exact HB.out | apply below_alloc | apply pw_below_drewN | apply below_drew1) | exact HB.out)) hb); clear HB; have HO364 := n0_; have HB := n1_; clear n0_ n1_; (try clear hb); (try clear hb2); (try clear hk); (try clear hi); (try clear ho0)))
       as_aux_lemma =>
       have tk_ : True := trivial
       go_upto_region 7 with (first | (go_at_call 11; clear tk_; (with_reducible refine (text_Read.calls kj4 _ _ l1 t365 t366 _ ?side1 ?side2 A10.out).mono ?_); (case side1 => repeat (first | exact (Kd.C_below HR1.out HB.out) | (with_reducible apply Kd.C_alloc) | (with_reducible apply Kd.C_drewN) | (with_reducible apply Kd.C_drew))); (case side2 => exact HC1.out); rintro e w17 ⟨v367, rfl, ho0, hb⟩; have n0_ := Aside0.mk (Kd.N_elder' (by (with_reducible repeat (first | apply Kd.N_alloc | apply Kd.N_drewN | apply Kd.N_drew)); exact HO364.out) (by with_reducible first | exact Kd.N_base ho0 | exact Kd.S_base ho0 | exact Kd.R_base ho0) hb); have n1_ := Aside0.mk (Kd.N_lower (Kd.N_mono (ok' := fun k_ => some k_ ≠ (v363 : Value).ownBlock) (Kd.S_N (Kd.S_bound ho0)) (fun k_ hk_ => (Kd.fresh' (Kd.N_lt (by (with_reducible repeat (first | apply Kd.N_alloc | apply Kd.N_drewN | apply Kd.N_drew)); exact HO364.out)) k_ hk_.2.1))) (below_size (by repeat (first | (with_reducible first | exact HB.out | apply below_alloc | apply pw_below_drewN | apply below_drew1) | exact HB.out)))); have n2_ := Aside0.mk (below_step (by repeat (first | (with_reducible first | exact HB.out | apply below_alloc | apply pw_below_drewN | apply below_drew1) | exact HB.out)) hb); clear HO364; clear HB; have HO364 := n0_; have HO368 := n1_; have HB := n2_; clear n0_ n1_ n2_; (try clear hb); (try clear hb2); (try clear hk); (try clear hi); (try clear ho0)) | ((with_reducible refine gate_dst (N := 41) rfl ?_); (try (refine gate_guard (by rfl) ?_; dsimp only)); refine Kd.R_lit (Kd.int .u8) _ 5 ?hg (N := 41) ?hd (xs := ([] : List Int)) (inner := []) (ok := fun _ => True) (okp := fun _ => True) ?hr ?hp (fun _ hk => hk) trivial (Below.refl _ _) (Nat.le_refl _) (by simp) ?_; (case hd => rfl); (case hg => rfl); (case hr => first | (go_simp; done) | (go_simp; rfl)); (case hp => exact (Reps.none _ _)); intro v370 w18 ho19 hb hg_ hnew_; clear hg_ hnew_; (first | rw [← Ny369.out] at ho19 | (simp only [Int.reduceToNat] at ho19; rw [← Ny369.out] at ho19)); have n0_ := Aside0.mk (Kd.N_elder' (by (with_reducible repeat (first | apply Kd.N_alloc | apply Kd.N_drewN | apply Kd.N_drew)); exact HO364.out) (Kd.R_base ho19) hb); have n1_ := Aside0.mk (Kd.N_elder' (by (with_reducible repeat (first | apply Kd.N_alloc | apply Kd.N_drewN | apply Kd.N_drew)); exact HO368.out) (Kd.R_base ho19) hb); have n2_ := Aside0.mk (Kd.R_lower ho19 (below_size (by repeat (first | (with_reducible first | exact HB.out | apply below_alloc | apply pw_below_drewN | apply below_drew1) | exact HB.out)))); have n3_ := Aside0.mk (below_step (by repeat (first | (with_reducible first | exact HB.out | apply below_alloc | apply pw_below_drewN | apply below_drew1) | exact HB.out)) hb); clear HO364; clear HO368; clear HB; have HO364 := n0_; have HO368 := n1_; have HO371 := n2_; have HB := n3_; clear n0_ n1_ n2_ n3_; clear hb ho19) | ((with_reducible refine gate_builtin (b := .append) (xs := #[.tmp 41, .tmp 42]) rfl ?_); (try (refine gate_guard (by rfl) ?_; dsimp only)); at_builtin; refine Kd.R_append_rows (Kd.int .u8) (w0 := w) w.heap.size rfl (.tmp 41) (.tmp 42) 22 5 (.int .u8 0) 1 rfl Try.underlying22 info5 rfl (by decide) (by omega) v370 y369 l0 _ _ _ (fun _ => True) (fun _ => False) rfl rfl ?aO ?aR (fun _ _ h => h) (fun _ h => h.elim) ?aF ?aB ?aS ?aL ?_; (case aR => repeat (first | exact (Kd.C_below HR0.out HB.out) | (with_reducible apply Kd.C_alloc) | (with_reducible apply Kd.C_drewN) | (with_reducible apply Kd.C_drew))); (case aB => exact (by repeat (first | (with_reducible first | exact HB.out | apply below_alloc | apply pw_below_drewN | apply below_drew1) | exact HB.out))); (case aF => exact (fun _ _ => trivial)); (case aO => exact (by (with_reducible repeat (first | apply Kd.R_alloc | apply Kd.R_drewN | apply Kd.R_drew)); exact HO371.out)); (case aS => exact (below_size (by repeat (first | (with_reducible first | exact HB.out | apply below_alloc | apply pw_below_drewN | apply below_drew1) | exact HB.out)))); (case aL => have := LMc11.out; omega); intro v373 w20 ho hb hg hat; rw [← Ny372.out] at ho; have n0_ := Aside0.mk (Kd.N_afterv (ok := (fun k_ => some k_ ≠ (v367 : Value).ownBlock)) (by (with_reducible repeat (first | apply Kd.N_alloc | apply Kd.N_drewN | apply Kd.N_drew)); exact Kd.N_mono HO364.out (fun _ hk => ⟨hk.1.2, hk.2⟩)) hg hat); have n1_ := Aside0.mk (Kd.N_afterv (ok := (fun k_ => some k_ ≠ (v363 : Value).ownBlock)) (by (with_reducible repeat (first | apply Kd.N_alloc | apply Kd.N_drewN | apply Kd.N_drew)); exact HO368.out) hg hat); have n2_ := Aside0.mk (hb); have n3_ := Aside0.mk (ho); clear HO364; clear HO368; clear HB; clear HO371; have HO364 := n0_; have HO368 := n1_; have HB := n2_; have HO374 := n3_; clear n0_ n1_ n2_ n3_; clear ho hb hg hat) | ((with_reducible refine gate_builtin (b := .append) (xs := #[.tmp 43, .tmp 44]) rfl ?_); (try (refine gate_guard (by rfl) ?_; dsimp only)); at_builtin; refine Kd.R_append (Kd.int .u8) (w0 := w) w.heap.size rfl (.tmp 43) (.tmp 44) 22 5 (.int .u8 0) 1 rfl Try.underlying22 info5 rfl (by decide) (by omega) v373 y372 32 [.int .u8 32] (fun _ => True) (fun _ => False) rfl rfl ?aP (fun _ hk => hk.elim) ?aF ?aO ?aB ?aS ?aL ?_; (case aP => exact rfl); (case aB => exact (by repeat (first | (with_reducible first | exact HB.out | apply below_alloc | apply pw_below_drewN | apply below_drew1) | exact HB.out))); (case aF => exact (fun _ _ => trivial)); (case aO => exact (by (with_reducible repeat (first | apply Kd.R_alloc | apply Kd.R_drewN | apply Kd.R_drew)); exact HO374.out)); (case aS => exact (below_size (by repeat (first | (with_reducible first | exact HB.out | apply below_alloc | apply pw_below_drewN | apply below_drew1) | exact HB.out)))); (case aL => have := LMc12.out; omega); intro v376 w21 ho hb hg hat; rw [← Ny375.out] at ho; have n0_ := Aside0.mk (Kd.N_afterv (ok := (fun k_ => some k_ ≠ (v367 : Value).ownBlock)) (by (with_reducible repeat (first | apply Kd.N_alloc | apply Kd.N_drewN | apply Kd.N_drew)); exact HO364.out) hg hat); have n1_ := Aside0.mk (Kd.N_afterv (ok := (fun k_ => some k_ ≠ (v363 : Value).ownBlock)) (by (with_reducible repeat (first | apply Kd.N_alloc | apply Kd.N_drewN | apply Kd.N_drew)); exact HO368.out) hg hat); have n2_ := Aside0.mk (hb); have n3_ := Aside0.mk (ho); clear HO364; clear HO368; clear HB; clear HO374; have HO364 := n0_; have HO368 := n1_; have HB := n2_; have HO377 := n3_; clear n0_ n1_ n2_ n3_; clear ho hb hg hat) | ((with_reducible refine gate_builtin (b := .append) (xs := #[.tmp 45, .tmp 46]) rfl ?_); (try (refine gate_guard (by rfl) ?_; dsimp only)); at_builtin; refine Kd.R_append_rows (Kd.int .u8) (w0 := w) w.heap.size rfl (.tmp 45) (.tmp 46) 22 5 (.int .u8 0) 1 rfl Try.underlying22 info5 rfl (by decide) (by omega) v376 y375 l1 _ _ _ (fun _ => True) (fun _ => False) rfl rfl ?aO ?aR (fun _ _ h => h) (fun _ h => h.elim) ?aF ?aB ?aS ?aL ?_; (case aR => repeat (first | exact (Kd.C_below HR1.out HB.out) | (with_reducible apply Kd.C_alloc) | (with_reducible apply Kd.C_drewN) | (with_reducible apply Kd.C_drew))); (case aB => exact (by repeat (first | (with_reducible first | exact HB.out | apply below_alloc | apply pw_below_drewN | apply below_drew1) | exact HB.out))); (case aF => exact (fun _ _ => trivial)); (case aO => exact (by (with_reducible repeat (first | apply Kd.R_alloc | apply Kd.R_drewN | apply Kd.R_drew)); exact HO377.out)); (case aS => exact (below_size (by repeat (first | (with_reducible first | exact HB.out | apply below_alloc | apply pw_below_drewN | apply below_drew1) | exact HB.out)))); (case aL => have := LMc13.out; omega); intro v379 w22 ho hb hg hat; rw [← Ny378.out] at ho; have n0_ := Aside0.mk (Kd.N_afterv (ok := (fun k_ => some k_ ≠ (v367 : Value).ownBlock)) (by (with_reducible repeat (first | apply Kd.N_alloc | apply Kd.N_drewN | apply Kd.N_drew)); exact HO364.out) hg hat); have n1_ := Aside0.mk (Kd.N_afterv (ok := (fun k_ => some k_ ≠ (v363 : Value).ownBlock)) (by (with_reducible repeat (first | apply Kd.N_alloc | apply Kd.N_drewN | apply Kd.N_drew)); exact HO368.out) hg hat); have n2_ := Aside0.mk (hb); have n3_ := Aside0.mk (ho); clear HO364; clear HO368; clear HB; clear HO377; have HO364 := n0_; have HO368 := n1_; have HB := n2_; have HO380 := n3_; clear n0_ n1_ n2_ n3_; clear ho hb hg hat; obtain ⟨Ao23, co23, eo23⟩ := Kd.R_slice HO380.out; subst eo23))
       as_aux_lemma =>
       have tk_ : True := trivial
       go_upto_region 7 with (first | (go_at_call 11; clear tk_; (with_reducible refine (text_Read.calls kj4 _ _ y378 t381 t382 _ ?side1 ?side2 A14.out).mono ?_); (case side1 => repeat (first | exact (Kd.R_reads' HO380.out).2.2 | (with_reducible apply Kd.C_alloc) | (with_reducible apply Kd.C_drewN) | (with_reducible apply Kd.C_drew))); (case side2 => exact (Kd.R_reads' HO380.out).2.1); rintro e w24 ⟨v383, rfl, ho0, hb⟩; have n0_ := Aside0.mk (Kd.N_elder' (by (with_reducible repeat (first | apply Kd.N_alloc | apply Kd.N_drewN | apply Kd.N_drew)); exact HO364.out) (by with_reducible first | exact Kd.N_base ho0 | exact Kd.S_base ho0 | exact Kd.R_base ho0) hb); have n1_ := Aside0.mk (Kd.N_elder' (by (with_reducible repeat (first | apply Kd.N_alloc | apply Kd.N_drewN | apply Kd.N_drew)); exact HO368.out) (by with_reducible first | exact Kd.N_base ho0 | exact Kd.S_base ho0 | exact Kd.R_base ho0) hb); have n2_ := Aside0.mk (Kd.R_below (by (with_reducible repeat (first | apply Kd.R_alloc | apply Kd.R_drewN | apply Kd.R_drew)); exact HO380.out) hb); have n3_ := Aside0.mk (Kd.N_lower (Kd.N_mono (ok' := fun k_ => some k_ ≠ (v363 : Value).ownBlock ∧ some k_ ≠ (v367 : Value).ownBlock ∧ some k_ ≠ (.slice Ao23 y378.length co23 : Value).ownBlock) (Kd.S_N (Kd.S_bound ho0)) (fun k_ hk_ => ⟨(Kd.fresh' (Kd.N_lt (by (with_reducible repeat (first | apply Kd.N_alloc | apply Kd.N_drewN | apply Kd.N_drew)); exact HO364.out)) k_ hk_.2.1), (Kd.fresh' (Kd.N_lt (by (with_reducible repeat (first | apply Kd.N_alloc | apply Kd.N_drewN | apply Kd.N_drew)); exact HO368.out)) k_ hk_.2.1), (Kd.fresh' (Kd.R_lt (by (with_reducible repeat (first | apply Kd.R_alloc | apply Kd.R_drewN | apply Kd.R_drew)); exact HO380.out)) k_ hk_.2.1)⟩)) (below_size (by repeat (first | (with_reducible first | exact HB.out | apply below_alloc | apply pw_below_drewN | apply below_drew1) | exact HB.out)))); have n4_ := Aside0.mk (below_step (by repeat (first | (with_reducible first | exact HB.out | apply below_alloc | apply pw_below_drewN | apply below_drew1) | exact HB.out)) hb); clear HO364; clear HO368; clear HO380; clear HB; have HO364 := n0_; have HO368 := n1_; have HO380 := n2_; have HO384 := n3_; have HB := n4_; clear n0_ n1_ n2_ n3_ n4_; (try clear hb); (try clear hb2); (try clear hk); (try clear hi); (try clear ho0)))
       (try simp only [Act.put, List.setIfInBounds_toArray, List.set_cons_zero, List.set_cons_succ])
       go_cut [56] (fun v56 wc => ∃ (kq : Nat) (x56_14 : Bool), v56 = .bool x56_14 ∧ Aside0 (compositorlaw13_TextJoins.j1 kq a2 t360 t361 t365 t381 t382 x56_14 = some r) ∧ Aside0 (kq ≤ kj4) ∧ Aside0 (Kd.N k36 36 wc w.heap.size (fun k_ => some k_ ≠ (v367 : Value).ownBlock ∧ some k_ ≠ (v383 : Value).ownBlock) v363 t361) ∧ Aside0 (Kd.N k36 36 wc w.heap.size (fun k_ => some k_ ≠ (v363 : Value).ownBlock ∧ some k_ ≠ (v383 : Value).ownBlock) v367 t365) ∧ Aside0 (Kd.N k36 36 wc w.heap.size (fun k_ => some k_ ≠ (v363 : Value).ownBlock ∧ some k_ ≠ (v367 : Value).ownBlock) v383 t381) ∧ Aside0 (Below w.heap.size w wc))
       case first => as_aux_lemma =>
        have H := HC15.out
        clear HC15
        by_cases c25 : t362 = 0
        ·rw [if_pos c25] at H
         have c25b0 : (t362 == 0) = true := beq_iff_eq.mpr c25
         have c25b1 : (t362 != 0) = false := bne_eq_false_iff_eq.mpr c25
         clear c25
         (first | rw [c25b0] | (simp only [i64_w, i32_w]; rw [c25b0]) | skip)
         have H' := Aside0.mk H
         clear H
         go_wp2
         go_meet
         case rel => exact ⟨_, ((t366 != 0)), (by first | rfl | (simp; done) | (simp [*]; done)), H', ⟨by have := HJ4.out; first | omega | exact Nat.le_refl _⟩, ⟨by (with_reducible repeat (first | apply Kd.N_alloc | apply Kd.N_drewN | apply Kd.N_drew)); exact Kd.N_mono HO364.out (fun _ hk => ⟨hk.1.1, hk.2⟩)⟩, ⟨by (with_reducible repeat (first | apply Kd.N_alloc | apply Kd.N_drewN | apply Kd.N_drew)); exact Kd.N_mono HO368.out (fun _ hk => ⟨hk.1.1, hk.2⟩)⟩, ⟨by (with_reducible repeat (first | apply Kd.N_alloc | apply Kd.N_drewN | apply Kd.N_drew)); exact Kd.N_mono HO384.out (fun _ hk => ⟨hk.1, hk.2.1⟩)⟩, ⟨by repeat (first | (with_reducible first | exact HB.out | apply below_alloc | apply pw_below_drewN | apply below_drew1) | exact HB.out)⟩⟩
        ·rw [if_neg c25] at H
         have c25b0 : (t362 == 0) = false := beq_eq_false_iff_ne.mpr c25
         have c25b1 : (t362 != 0) = true := bne_iff_ne.mpr c25
         (first | rw [c25b0] | (simp only [i64_w, i32_w]; rw [c25b0]) | skip)
         have H' := Aside0.mk H
         clear H
         go_wp2
         go_meet
         case rel => exact ⟨_, (true), (by first | rfl | (simp; done) | (simp [*]; done)), H', ⟨by have := HJ4.out; first | omega | exact Nat.le_refl _⟩, ⟨by (with_reducible repeat (first | apply Kd.N_alloc | apply Kd.N_drewN | apply Kd.N_drew)); exact Kd.N_mono HO364.out (fun _ hk => ⟨hk.1.1, hk.2⟩)⟩, ⟨by (with_reducible repeat (first | apply Kd.N_alloc | apply Kd.N_drewN | apply Kd.N_drew)); exact Kd.N_mono HO368.out (fun _ hk => ⟨hk.1.1, hk.2⟩)⟩, ⟨by (with_reducible repeat (first | apply Kd.N_alloc | apply Kd.N_drewN | apply Kd.N_drew)); exact Kd.N_mono HO384.out (fun _ hk => ⟨hk.1, hk.2.1⟩)⟩, ⟨by repeat (first | (with_reducible first | exact HB.out | apply below_alloc | apply pw_below_drewN | apply below_drew1) | exact HB.out)⟩⟩
       case rest => as_aux_lemma =>
        clear HC15
        try clear c1
        try clear c2
        try clear p2
        try clear c7
        try clear c7b0
        try clear c7b1
        try clear c8
        try clear c10
        try clear c11
        try clear c12
        try clear c13
        try clear c25
        try clear c25b0
        try clear c25b1
        try clear p2
        obtain ⟨kq, x56_14, rfl, HA, HJ14, HO_8, HO_10, HO_12, HB⟩ := hcut
        cases kq with
        | zero => exact absurd HA.out (by simp [compositorlaw13_TextJoins.j1])
        | succ kj14 =>
         have H := HA.out
         clear HA
         simp only [compositorlaw13_TextJoins.j1] at H
         by_cases c26 : x56_14 = true
         ·subst c26
          have H1 : (if t360 = true then (some ((wrap64 ((t361.length : Int) * (t365.length : Int))) == 0)) else (none)) = some r := by rw [if_pos rfl] at H; exact H
          clear H
          have H := H1
          clear H1
          by_cases c27 : t360 = true
          ·subst c27
           have H1 : (some ((wrap64 ((t361.length : Int) * (t365.length : Int))) == 0)) = some r := by rw [if_pos rfl] at H; exact H
           clear H
           have H := H1
           clear H1
           obtain rfl := Option.some.inj H
           obtain ⟨Ao28, co28, eo28⟩ := Kd.N_slice HO_8.out
           subst eo28
           obtain ⟨Ao29, co29, eo29⟩ := Kd.N_slice HO_10.out
           subst eo29
           go_wp2
           go_ret
           exact ⟨by first | rfl | (simp [errW_none, errW_some] <;> rfl) | (simp [*, errW_none, errW_some] <;> rfl), by repeat (first | (with_reducible first | exact HB.out | apply below_alloc | apply pw_below_drewN | apply below_drew1) | exact HB.out)⟩
          ·replace c27 := Bool.eq_false_iff.mpr c27
           subst c27
           have H1 : (none) = some r := by rw [if_neg (show ¬ (false = true) by decide)] at H; exact H
           clear H
           have H := H1
           clear H1
           exact absurd H (by simp)
         ·replace c26 := Bool.eq_false_iff.mpr c26
          subst c26
          have H1 : ((some (([] : List (S36)) : List (S36))).bind fun y385 => (if y385.length + t361.length < 2932031007402 then ((some (y385 ++ t361 : List (S36))).bind fun y388 => (if y388.length + t365.length < 2932031007402 then ((some (y388 ++ t365 : List (S36))).bind fun y391 => (if t382 = 0 then (if (mx (y391.length : Int) 1) = 0 then (none) else (if (wrap64 (1 + (Int.tmod (wrap64 (a2)) (mx (y391.length : Int) 1)))) > (y391.length : Int) then (none) else (if 0 ≤ (wrap64 (1 + (Int.tmod (wrap64 (a2)) (mx (y391.length : Int) 1)))) then (if (wrap64 (1 + (Int.tmod (wrap64 (a2)) (mx (y391.length : Int) 1)))) ≤ (y391.length : Int) then ((text_Write.f kj14 (y391.take ((wrap64 (1 + (Int.tmod (wrap64 (a2)) (mx (y391.length : Int) 1)))) : Int).toNat)).bind fun bt400 => ((text_Write.f kj14 t381).bind fun bt404 => (if bt400.2 = 0 then (if bt404.2 = 0 then (compositorlaw13_TextJoins.j2 kj14 t360 t381 y391 bt400.1 bt404.1 (decide ((bt400.1.length : Int) > (bt404.1.length : Int)))) else (compositorlaw13_TextJoins.j2 kj14 t360 t381 y391 bt400.1 bt404.1 true)) else (compositorlaw13_TextJoins.j2 kj14 t360 t381 y391 bt400.1 bt404.1 true)))) else (none)) else (none)))) else (if t360 = true then ((text_Check.f kj14 y391).bind fun t394 => (some (!t394))) else (none)))) else (none))) else (none))) = some r := by rw [if_neg (show ¬ (false = true) by decide)] at H; exact H
          clear H
          have H := H1
          clear H1
          obtain ⟨y385, hy385⟩ : ∃ y_ : List (S36), y_ = (([] : List (S36))) := ⟨_, rfl⟩
          replace H : (if y385.length + t361.length < 2932031007402 then ((some (y385 ++ t361 : List (S36))).bind fun y388 => (if y388.length + t365.length < 2932031007402 then ((some (y388 ++ t365 : List (S36))).bind fun y391 => (if t382 = 0 then (if (mx (y391.length : Int) 1) = 0 then (none) else (if (wrap64 (1 + (Int.tmod (wrap64 (a2)) (mx (y391.length : Int) 1)))) > (y391.length : Int) then (none) else (if 0 ≤ (wrap64 (1 + (Int.tmod (wrap64 (a2)) (mx (y391.length : Int) 1)))) then (if (wrap64 (1 + (Int.tmod (wrap64 (a2)) (mx (y391.length : Int) 1)))) ≤ (y391.length : Int) then ((text_Write.f kj14 (y391.take ((wrap64 (1 + (Int.tmod (wrap64 (a2)) (mx (y391.length : Int) 1)))) : Int).toNat)).bind fun bt400 => ((text_Write.f kj14 t381).bind fun bt404 => (if bt400.2 = 0 then (if bt404.2 = 0 then (compositorlaw13_TextJoins.j2 kj14 t360 t381 y391 bt400.1 bt404.1 (decide ((bt400.1.length : Int) > (bt404.1.length : Int)))) else (compositorlaw13_TextJoins.j2 kj14 t360 t381 y391 bt400.1 bt404.1 true)) else (compositorlaw13_TextJoins.j2 kj14 t360 t381 y391 bt400.1 bt404.1 true)))) else (none)) else (none)))) else (if t360 = true then ((text_Check.f kj14 y391).bind fun t394 => (some (!t394))) else (none)))) else (none))) else (none)) = some r := by first | (rw [hy385]; with_reducible exact H) | (have H2_ := (Option.bind_some _ _).symm.trans H; rw [hy385]; with_reducible exact H2_) | (have H2_ := (Option.bind_some _ _).symm.trans H; with_reducible exact H2_) | with_reducible exact H | (rw [hy385]; exact H) | exact H
          have Ny385 := Aside0.mk hy385
          clear hy385
          by_cases c30 : y385.length + t361.length < 2932031007402
          ·rw [if_pos c30] at H
           have LMc30 := Aside0.mk c30
           clear c30
           obtain ⟨y388, hy388⟩ : ∃ y_ : List (S36), y_ = (y385 ++ t361) := ⟨_, rfl⟩
           replace H : (if y388.length + t365.length < 2932031007402 then ((some (y388 ++ t365 : List (S36))).bind fun y391 => (if t382 = 0 then (if (mx (y391.length : Int) 1) = 0 then (none) else (if (wrap64 (1 + (Int.tmod (wrap64 (a2)) (mx (y391.length : Int) 1)))) > (y391.length : Int) then (none) else (if 0 ≤ (wrap64 (1 + (Int.tmod (wrap64 (a2)) (mx (y391.length : Int) 1)))) then (if (wrap64 (1 + (Int.tmod (wrap64 (a2)) (mx (y391.length : Int) 1)))) ≤ (y391.length : Int) then ((text_Write.f kj14 (y391.take ((wrap64 (1 + (Int.tmod (wrap64 (a2)) (mx (y391.length : Int) 1)))) : Int).toNat)).bind fun bt400 => ((text_Write.f kj14 t381).bind fun bt404 => (if bt400.2 = 0 then (if bt404.2 = 0 then (compositorlaw13_TextJoins.j2 kj14 t360 t381 y391 bt400.1 bt404.1 (decide ((bt400.1.length : Int) > (bt404.1.length : Int)))) else (compositorlaw13_TextJoins.j2 kj14 t360 t381 y391 bt400.1 bt404.1 true)) else (compositorlaw13_TextJoins.j2 kj14 t360 t381 y391 bt400.1 bt404.1 true)))) else (none)) else (none)))) else (if t360 = true then ((text_Check.f kj14 y391).bind fun t394 => (some (!t394))) else (none)))) else (none)) = some r := by first | (rw [hy388]; with_reducible exact H) | (have H2_ := (Option.bind_some _ _).symm.trans H; rw [hy388]; with_reducible exact H2_) | (have H2_ := (Option.bind_some _ _).symm.trans H; with_reducible exact H2_) | with_reducible exact H | (rw [hy388]; exact H) | exact H
           have Ny388 := Aside0.mk hy388
           clear hy388
           by_cases c31 : y388.length + t365.length < 2932031007402
           ·rw [if_pos c31] at H
            have LMc31 := Aside0.mk c31
            clear c31
            obtain ⟨y391, hy391⟩ : ∃ y_ : List (S36), y_ = (y388 ++ t365) := ⟨_, rfl⟩
            replace H : (if t382 = 0 then (if (mx (y391.length : Int) 1) = 0 then (none) else (if (wrap64 (1 + (Int.tmod (wrap64 (a2)) (mx (y391.length : Int) 1)))) > (y391.length : Int) then (none) else (if 0 ≤ (wrap64 (1 + (Int.tmod (wrap64 (a2)) (mx (y391.length : Int) 1)))) then (if (wrap64 (1 + (Int.tmod (wrap64 (a2)) (mx (y391.length : Int) 1)))) ≤ (y391.length : Int) then ((text_Write.f kj14 (y391.take ((wrap64 (1 + (Int.tmod (wrap64 (a2)) (mx (y391.length : Int) 1)))) : Int).toNat)).bind fun bt400 => ((text_Write.f kj14 t381).bind fun bt404 => (if bt400.2 = 0 then (if bt404.2 = 0 then (compositorlaw13_TextJoins.j2 kj14 t360 t381 y391 bt400.1 bt404.1 (decide ((bt400.1.length : Int) > (bt404.1.length : Int)))) else (compositorlaw13_TextJoins.j2 kj14 t360 t381 y391 bt400.1 bt404.1 true)) else (compositorlaw13_TextJoins.j2 kj14 t360 t381 y391 bt400.1 bt404.1 true)))) else (none)) else (none)))) else (if t360 = true then ((text_Check.f kj14 y391).bind fun t394 => (some (!t394))) else (none))) = some r := by first | (rw [hy391]; with_reducible exact H) | (have H2_ := (Option.bind_some _ _).symm.trans H; rw [hy391]; with_reducible exact H2_) | (have H2_ := (Option.bind_some _ _).symm.trans H; with_reducible exact H2_) | with_reducible exact H | (rw [hy391]; exact H) | exact H
            have Ny391 := Aside0.mk hy391
            clear hy391
            by_cases c32 : t382 = 0
            ·rw [if_pos c32] at H
             have c32b0 : (t382 == 0) = true := beq_iff_eq.mpr c32
             have c32b1 : (t382 != 0) = false := bne_eq_false_iff_eq.mpr c32
             clear c32
             obtain ⟨ji33, hji33⟩ : ∃ j_ : Int, (mx (y391.length : Int) 1) = j_ := ⟨_, rfl⟩
             replace H : (if (ji33) = 0 then (none) else (if (wrap64 (1 + (Int.tmod (wrap64 (a2)) (ji33)))) > (y391.length : Int) then (none) else (if 0 ≤ (wrap64 (1 + (Int.tmod (wrap64 (a2)) (ji33)))) then (if (wrap64 (1 + (Int.tmod (wrap64 (a2)) (ji33)))) ≤ (y391.length : Int) then ((text_Write.f kj14 (y391.take ((wrap64 (1 + (Int.tmod (wrap64 (a2)) (ji33)))) : Int).toNat)).bind fun bt400 => ((text_Write.f kj14 t381).bind fun bt404 => (if bt400.2 = 0 then (if bt404.2 = 0 then (compositorlaw13_TextJoins.j2 kj14 t360 t381 y391 bt400.1 bt404.1 (decide ((bt400.1.length : Int) > (bt404.1.length : Int)))) else (compositorlaw13_TextJoins.j2 kj14 t360 t381 y391 bt400.1 bt404.1 true)) else (compositorlaw13_TextJoins.j2 kj14 t360 t381 y391 bt400.1 bt404.1 true)))) else (none)) else (none)))) = some r := by first | (rw [hji33] at H; exact H) | (simp only [hji33] at H ⊢; exact H)
             (try (have hji33l : 1 ≤ ji33 := by (rw [← hji33]; unfold mx; (repeat' split) <;> omega)))
             (try (have hji33m : 0 ≤ ji33 := by omega))
             have hji33_ : (if (y391.length : Int) < 1 then 1 else (y391.length : Int)) = ji33 := hji33
             by_cases c34 : (ji33) = 0
             ·rw [if_pos c34] at H
              exact absurd H (by simp)
             ·rw [if_neg c34] at H
              have c34b0 : ((ji33) == 0) = false := beq_eq_false_iff_ne.mpr c34
              have c34b1 : ((ji33) != 0) = true := bne_iff_ne.mpr c34
              by_cases c35 : (wrap64 (1 + (Int.tmod (wrap64 (a2)) (ji33)))) > (y391.length : Int)
              ·rw [if_pos c35] at H
               exact absurd H (by simp)
              ·rw [if_neg c35] at H
               have c35b0 : decide ((y391.length : Int) < (wrap64 (1 + (Int.tmod (wrap64 (a2)) (ji33))))) = false := decide_eq_false c35
               (try (have c35b1 : decide ((y391.length : Int) < (IntKind.i64.wrap (1 + (Int.tmod (IntKind.i64.wrap (a2)) (ji33))))) = false := by simp only [i64_w]; exact (decide_eq_false c35)))
               clear c35
               obtain ⟨ji36, hji36⟩ : ∃ j_ : Int, (wrap64 (1 + (Int.tmod (wrap64 (a2)) (ji33)))) = j_ := ⟨_, rfl⟩
               replace H : (if 0 ≤ (ji36) then (if (ji36) ≤ (y391.length : Int) then ((text_Write.f kj14 (y391.take ((ji36) : Int).toNat)).bind fun bt400 => ((text_Write.f kj14 t381).bind fun bt404 => (if bt400.2 = 0 then (if bt404.2 = 0 then (compositorlaw13_TextJoins.j2 kj14 t360 t381 y391 bt400.1 bt404.1 (decide ((bt400.1.length : Int) > (bt404.1.length : Int)))) else (compositorlaw13_TextJoins.j2 kj14 t360 t381 y391 bt400.1 bt404.1 true)) else (compositorlaw13_TextJoins.j2 kj14 t360 t381 y391 bt400.1 bt404.1 true)))) else (none)) else (none)) = some r := by first | (rw [hji36] at H; exact H) | (simp only [hji36] at H ⊢; exact H)
               (try rw [hji36] at c35b0)
               have hji36w : (IntKind.i64.wrap (1 + (Int.tmod (wrap64 (a2)) (ji33)))) = ji36 := (i64_w _).trans hji36
               by_cases c37 : 0 ≤ (ji36)
               ·rw [if_pos c37] at H
                have c37b0 := eq_true c37
                have c37b1 : decide (0 ≤ (ji36)) = true := decide_eq_true c37
                clear c37
                by_cases c38 : (ji36) ≤ (y391.length : Int)
                ·rw [if_pos c38] at H
                 have c38b0 := eq_true c38
                 have c38b1 : decide ((ji36) ≤ (y391.length : Int)) = true := decide_eq_true c38
                 clear c38
                 obtain ⟨y395, hy395⟩ : ∃ y_ : List (S36), y_ = (y391.take ((ji36) : Int).toNat) := ⟨_, rfl⟩
                 replace H : ((text_Write.f kj14 y395).bind fun bt400 => ((text_Write.f kj14 t381).bind fun bt404 => (if bt400.2 = 0 then (if bt404.2 = 0 then (compositorlaw13_TextJoins.j2 kj14 t360 t381 y391 bt400.1 bt404.1 (decide ((bt400.1.length : Int) > (bt404.1.length : Int)))) else (compositorlaw13_TextJoins.j2 kj14 t360 t381 y391 bt400.1 bt404.1 true)) else (compositorlaw13_TextJoins.j2 kj14 t360 t381 y391 bt400.1 bt404.1 true)))) = some r := by first | (rw [hy395]; with_reducible exact H) | (have H2_ := (Option.bind_some _ _).symm.trans H; rw [hy395]; with_reducible exact H2_) | (have H2_ := (Option.bind_some _ _).symm.trans H; with_reducible exact H2_) | with_reducible exact H | (rw [hy395]; exact H) | exact H
                 have Ny395 := Aside0.mk hy395
                 clear hy395
                 replace H := Option.bind_eq_some_iff.mp H
                 obtain ⟨⟨t400, t401⟩, A390, H⟩ := H
                 replace H : ((text_Write.f kj14 t381).bind fun bt404 => (if t401 = 0 then (if bt404.2 = 0 then (compositorlaw13_TextJoins.j2 kj14 t360 t381 y391 t400 bt404.1 (decide ((t400.length : Int) > (bt404.1.length : Int)))) else (compositorlaw13_TextJoins.j2 kj14 t360 t381 y391 t400 bt404.1 true)) else (compositorlaw13_TextJoins.j2 kj14 t360 t381 y391 t400 bt404.1 true))) = some r := H
                 have A39 := Aside0.mk A390
                 clear A390
                 replace H := Option.bind_eq_some_iff.mp H
                 obtain ⟨⟨t404, t405⟩, A400, H⟩ := H
                 replace H : (if t401 = 0 then (if t405 = 0 then (compositorlaw13_TextJoins.j2 kj14 t360 t381 y391 t400 t404 (decide ((t400.length : Int) > (t404.length : Int)))) else (compositorlaw13_TextJoins.j2 kj14 t360 t381 y391 t400 t404 true)) else (compositorlaw13_TextJoins.j2 kj14 t360 t381 y391 t400 t404 true)) = some r := H
                 have A40 := Aside0.mk A400
                 clear A400
                 have HC41 := Aside0.mk H
                 clear H
                 have tk_ : True := trivial
                 go_upto_region 17 with (first | ((with_reducible refine gate_dst (N := 66) rfl ?_); (try (refine gate_guard (by rfl) ?_; dsimp only)); refine Kd.N_lit k36 _ 36 ?hg (N' := 66) ?hd (xs := ([] : List (S36))) (inner := []) (ok := (fun k_ => some k_ ≠ (v363 : Value).ownBlock ∧ some k_ ≠ (v367 : Value).ownBlock ∧ some k_ ≠ (v383 : Value).ownBlock)) (okp := (fun k_ => some k_ ≠ (v363 : Value).ownBlock ∧ some k_ ≠ (v367 : Value).ownBlock ∧ some k_ ≠ (v383 : Value).ownBlock)) ?hr ?hp (fun _ hk => hk) ((show ∀ k_, wc.heap.size ≤ k_ → (fun k_ => some k_ ≠ (v363 : Value).ownBlock ∧ some k_ ≠ (v367 : Value).ownBlock ∧ some k_ ≠ (v383 : Value).ownBlock) k_ from fun k_ hk => ⟨Kd.fresh' (Kd.N_lt (by (with_reducible repeat (first | apply Kd.N_alloc | apply Kd.N_drewN | apply Kd.N_drew)); exact HO_8.out)) k_ hk, Kd.fresh' (Kd.N_lt (by (with_reducible repeat (first | apply Kd.N_alloc | apply Kd.N_drewN | apply Kd.N_drew)); exact HO_10.out)) k_ hk, Kd.fresh' (Kd.N_lt (by (with_reducible repeat (first | apply Kd.N_alloc | apply Kd.N_drewN | apply Kd.N_drew)); exact HO_12.out)) k_ hk⟩) _ (Nat.le_refl _)) (Below.refl _ _) (Nat.le_refl _) (by simp) ?_; (case hd => rfl); (case hg => rfl); (case hr => first | (go_simp; done) | (go_simp; rfl)); (case hp => exact (Reps.none _ _)); intro v386 w42 ho43 hb hg_ hnew_; clear hg_ hnew_; (first | rw [← Ny385.out] at ho43 | (simp only [Int.reduceToNat] at ho43; rw [← Ny385.out] at ho43)); have n0_ := Aside0.mk (Kd.N_elder' (by (with_reducible repeat (first | apply Kd.N_alloc | apply Kd.N_drewN | apply Kd.N_drew)); exact HO_8.out) (Kd.N_base ho43) hb); have n1_ := Aside0.mk (Kd.N_elder' (by (with_reducible repeat (first | apply Kd.N_alloc | apply Kd.N_drewN | apply Kd.N_drew)); exact HO_10.out) (Kd.N_base ho43) hb); have n2_ := Aside0.mk (Kd.N_elder' (by (with_reducible repeat (first | apply Kd.N_alloc | apply Kd.N_drewN | apply Kd.N_drew)); exact HO_12.out) (Kd.N_base ho43) hb); have n3_ := Aside0.mk (Kd.N_lower ho43 (below_size (by repeat (first | (with_reducible first | exact HB.out | apply below_alloc | apply pw_below_drewN | apply below_drew1) | exact HB.out)))); have n4_ := Aside0.mk (below_step (by repeat (first | (with_reducible first | exact HB.out | apply below_alloc | apply pw_below_drewN | apply below_drew1) | exact HB.out)) hb); clear HO_8; clear HO_10; clear HO_12; clear HB; have HO_8 := n0_; have HO_10 := n1_; have HO_12 := n2_; have HO387 := n3_; have HB := n4_; clear n0_ n1_ n2_ n3_ n4_; clear hb ho43; obtain ⟨Ao45, co45, eo45⟩ := Kd.N_slice HO_8.out; subst eo45) | ((with_reducible refine gate_builtin (b := .append) (xs := #[.tmp 66, .tmp 67]) rfl ?_); (try (refine gate_guard (by rfl) ?_; dsimp only)); at_builtin; refine Kd.N_append_rows k36 (w0 := w) w.heap.size rfl (.tmp 66) (.tmp 67) 24 36 (.agg #[(.slice none 0 0), (.slice none 0 0)]) 48 rfl Try.underlying24 info36 rfl (by decide) (by omega) v386 y385 t361 _ _ _ (fun k_ => some k_ ≠ (v367 : Value).ownBlock ∧ some k_ ≠ (v383 : Value).ownBlock) (fun k_ => ((fun k_ => some k_ ≠ (v367 : Value).ownBlock ∧ some k_ ≠ (v383 : Value).ownBlock)) k_ ∧ some k_ ≠ (v386 : Value).ownBlock) rfl rfl ?aO ?aR (fun _ hk => hk) ?aF ?aB ?aS ?aL ?_; (case aR => exact (by skip; exact Kd.N_F (Kd.N_mono (ok' := (fun k_ => ((fun k_ => some k_ ≠ (v367 : Value).ownBlock ∧ some k_ ≠ (v383 : Value).ownBlock)) k_ ∧ some k_ ≠ (v386 : Value).ownBlock)) (HO_8.out) (fun k_ hk => ⟨⟨hk.1.1, hk.1.2⟩, hk.2⟩)))); (case aB => exact (by repeat (first | (with_reducible first | exact HB.out | apply below_alloc | apply pw_below_drewN | apply below_drew1) | exact HB.out))); (case aF => exact (fun k_ hk => ⟨Kd.fresh' (Kd.N_lt (by (with_reducible repeat (first | apply Kd.N_alloc | apply Kd.N_drewN | apply Kd.N_drew)); exact HO_10.out)) k_ hk, Kd.fresh' (Kd.N_lt (by (with_reducible repeat (first | apply Kd.N_alloc | apply Kd.N_drewN | apply Kd.N_drew)); exact HO_12.out)) k_ hk⟩)); (case aO => exact (by (with_reducible repeat (first | apply Kd.N_alloc | apply Kd.N_drewN | apply Kd.N_drew)); exact Kd.N_mono HO387.out (fun _ hk => ⟨hk.2.1, hk.2.2⟩))); (case aS => exact (below_size (by repeat (first | (with_reducible first | exact HB.out | apply below_alloc | apply pw_below_drewN | apply below_drew1) | exact HB.out)))); (case aL => have := LMc30.out; omega); intro v389 w44 ho hb hg hat; rw [← Ny388.out] at ho; have n0_ := Aside0.mk (Kd.N_afterv (ok := (fun k_ => some k_ ≠ (v367 : Value).ownBlock ∧ some k_ ≠ (v383 : Value).ownBlock)) (by (with_reducible repeat (first | apply Kd.N_alloc | apply Kd.N_drewN | apply Kd.N_drew)); exact HO_8.out) hg hat); have n1_ := Aside0.mk (Kd.N_afterv (ok := (fun k_ => some k_ ≠ (.slice Ao45 t361.length co45 : Value).ownBlock ∧ some k_ ≠ (v383 : Value).ownBlock)) (by (with_reducible repeat (first | apply Kd.N_alloc | apply Kd.N_drewN | apply Kd.N_drew)); exact HO_10.out) hg hat); have n2_ := Aside0.mk (Kd.N_afterv (ok := (fun k_ => some k_ ≠ (.slice Ao45 t361.length co45 : Value).ownBlock ∧ some k_ ≠ (v367 : Value).ownBlock)) (by (with_reducible repeat (first | apply Kd.N_alloc | apply Kd.N_drewN | apply Kd.N_drew)); exact HO_12.out) hg hat); have n3_ := Aside0.mk (hb); have n4_ := Aside0.mk (ho); clear HO_8; clear HO_10; clear HO_12; clear HB; clear HO387; have HO_8 := n0_; have HO_10 := n1_; have HO_12 := n2_; have HB := n3_; have HO390 := n4_; clear n0_ n1_ n2_ n3_ n4_; clear ho hb hg hat; obtain ⟨Ao47, co47, eo47⟩ := Kd.N_slice HO_10.out; subst eo47) | ((with_reducible refine gate_builtin (b := .append) (xs := #[.tmp 68, .tmp 69]) rfl ?_); (try (refine gate_guard (by rfl) ?_; dsimp only)); at_builtin; refine Kd.N_append_rows k36 (w0 := w) w.heap.size rfl (.tmp 68) (.tmp 69) 24 36 (.agg #[(.slice none 0 0), (.slice none 0 0)]) 48 rfl Try.underlying24 info36 rfl (by decide) (by omega) v389 y388 t365 _ _ _ (fun k_ => some k_ ≠ (v383 : Value).ownBlock) (fun k_ => ((fun k_ => some k_ ≠ (v383 : Value).ownBlock)) k_ ∧ some k_ ≠ (v389 : Value).ownBlock) rfl rfl ?aO ?aR (fun _ hk => hk) ?aF ?aB ?aS ?aL ?_; (case aR => exact (by skip; exact Kd.N_F (Kd.N_mono (ok' := (fun k_ => ((fun k_ => some k_ ≠ (v383 : Value).ownBlock)) k_ ∧ some k_ ≠ (v389 : Value).ownBlock)) (HO_10.out) (fun k_ hk => ⟨hk.1.2, hk.2⟩)))); (case aB => exact (by repeat (first | (with_reducible first | exact HB.out | apply below_alloc | apply pw_below_drewN | apply below_drew1) | exact HB.out))); (case aF => exact (fun k_ hk => Kd.fresh' (Kd.N_lt (by (with_reducible repeat (first | apply Kd.N_alloc | apply Kd.N_drewN | apply Kd.N_drew)); exact HO_12.out)) k_ hk)); (case aO => exact (by (with_reducible repeat (first | apply Kd.N_alloc | apply Kd.N_drewN | apply Kd.N_drew)); exact Kd.N_mono HO390.out (fun _ hk => hk.2))); (case aS => exact (below_size (by repeat (first | (with_reducible first | exact HB.out | apply below_alloc | apply pw_below_drewN | apply below_drew1) | exact HB.out)))); (case aL => have := LMc31.out; omega); intro v392 w46 ho hb hg hat; rw [← Ny391.out] at ho; have n0_ := Aside0.mk (Kd.N_afterv (ok := (fun k_ => some k_ ≠ (.slice Ao47 t365.length co47 : Value).ownBlock ∧ some k_ ≠ (v383 : Value).ownBlock)) (by (with_reducible repeat (first | apply Kd.N_alloc | apply Kd.N_drewN | apply Kd.N_drew)); exact HO_8.out) hg hat); have n1_ := Aside0.mk (Kd.N_afterv (ok := (fun k_ => some k_ ≠ (.slice Ao45 t361.length co45 : Value).ownBlock ∧ some k_ ≠ (v383 : Value).ownBlock)) (by (with_reducible repeat (first | apply Kd.N_alloc | apply Kd.N_drewN | apply Kd.N_drew)); exact HO_10.out) hg hat); have n2_ := Aside0.mk (Kd.N_afterv (ok := (fun k_ => some k_ ≠ (.slice Ao45 t361.length co45 : Value).ownBlock ∧ some k_ ≠ (.slice Ao47 t365.length co47 : Value).ownBlock)) (by (with_reducible repeat (first | apply Kd.N_alloc | apply Kd.N_drewN | apply Kd.N_drew)); exact HO_12.out) hg hat); have n3_ := Aside0.mk (hb); have n4_ := Aside0.mk (ho); clear HO_8; clear HO_10; clear HO_12; clear HB; clear HO390; have HO_8 := n0_; have HO_10 := n1_; have HO_12 := n2_; have HB := n3_; have HO393 := n4_; clear n0_ n1_ n2_ n3_ n4_; clear ho hb hg hat; obtain ⟨Ao48, co48, eo48⟩ := Kd.N_slice HO393.out; subst eo48; have q49 : ((ji36) : Int) ≤ ((y391.length : Int) : Int) := odt; obtain ⟨i049, hi049, _, hsz49, _⟩ := info_parts info36; have hroom49 : y391.length ≤ co48 := (Kd.N_reads' HO393.out).2.1; have hC49 : Kd.F k36 _ _ Ao48 y391.length y391 := (Kd.V_at (base := w.heap.size) (Kd.N_V HO393.out)).2.2; have hcut49 := cut_to (P := Try.prog) 24 36 .i64 Try.underlying24 hi049 Ao48 y391.length co48 (ji36) (odt) q49 hroom49; have hr49 := Kd.F_take (m := ((ji36) : Int).toNat) hC49 (by omega); have hy49 : y395.length = ((ji36) : Int).toNat := (by rw [Ny395.out, List.length_take]; omega); rw [← Ny395.out] at hr49; rw [← hy49] at hcut49; have HO399 := Aside0.mk (show Kd.V k36 36 _ w.heap.size _ (.slice Ao48 y395.length co48) y395 from Kd.V_mk (by omega) hr49); have HC399 := Aside0.mk (show y395.length ≤ co48 from by omega); clear hr49 hC49 hroom49 hi049 hsz49; have KY49 := Aside0.mk hy49; clear hy49; replace q49 := eq_true q49) | (go_at_call 15; clear tk_; (with_reducible refine (text_Write.calls kj14 _ _ y395 t400 t401 _ ?side1 ?side2 A39.out).mono ?_); (case side1 => repeat (first | exact (Kd.V_reads' HO399.out).2.2 | (with_reducible apply Kd.C_alloc) | (with_reducible apply Kd.C_drewN) | (with_reducible apply Kd.C_drew))); (case side2 => exact (Kd.V_reads' HO399.out).2.1); rintro e w50 ⟨v402, rfl, ho0, hb⟩; have n0_ := Aside0.mk (Kd.N_elder' (by (with_reducible repeat (first | apply Kd.N_alloc | apply Kd.N_drewN | apply Kd.N_drew)); exact HO_8.out) (Kd.R_base ho0) hb); have n1_ := Aside0.mk (Kd.N_elder' (by (with_reducible repeat (first | apply Kd.N_alloc | apply Kd.N_drewN | apply Kd.N_drew)); exact HO_10.out) (Kd.R_base ho0) hb); have n2_ := Aside0.mk (Kd.N_elder' (by (with_reducible repeat (first | apply Kd.N_alloc | apply Kd.N_drewN | apply Kd.N_drew)); exact HO_12.out) (Kd.R_base ho0) hb); have n3_ := Aside0.mk (Kd.N_elder' (by (with_reducible repeat (first | apply Kd.N_alloc | apply Kd.N_drewN | apply Kd.N_drew)); exact HO393.out) (Kd.R_base ho0) hb); have n4_ := Aside0.mk (Kd.V_elder' (by (with_reducible repeat (first | apply Kd.V_alloc | apply Kd.V_drewN | apply Kd.V_drew)); exact HO399.out) (Kd.R_base ho0) hb); have n5_ := Aside0.mk (Kd.R_lower ho0 (below_size (by repeat (first | (with_reducible first | exact HB.out | apply below_alloc | apply pw_below_drewN | apply below_drew1) | exact HB.out)))); have n6_ := Aside0.mk (below_step (by repeat (first | (with_reducible first | exact HB.out | apply below_alloc | apply pw_below_drewN | apply below_drew1) | exact HB.out)) hb); clear HO_8; clear HO_10; clear HO_12; clear HO393; clear HO399; clear HB; have HO_8 := n0_; have HO_10 := n1_; have HO_12 := n2_; have HO393 := n3_; have HO399 := n4_; have HO403 := n5_; have HB := n6_; clear n0_ n1_ n2_ n3_ n4_ n5_ n6_; (try clear hb); (try clear hb2); (try clear hk); (try clear hi); (try clear ho0); obtain ⟨Ao51, co51, eo51⟩ := Kd.N_slice HO_12.out; subst eo51))
                 as_aux_lemma =>
                 have tk_ : True := trivial
                 go_upto_region 17 with (first | (go_at_call 15; clear tk_; (with_reducible refine (text_Write.calls kj14 _ _ t381 t404 t405 _ ?side1 ?side2 A40.out).mono ?_); (case side1 => repeat (first | exact (Kd.N_reads' HO_12.out).2.2 | (with_reducible apply Kd.C_alloc) | (with_reducible apply Kd.C_drewN) | (with_reducible apply Kd.C_drew))); (case side2 => exact (Kd.N_reads' HO_12.out).2.1); rintro e w52 ⟨v406, rfl, ho0, hb⟩; have n0_ := Aside0.mk (Kd.N_elder' (by (with_reducible repeat (first | apply Kd.N_alloc | apply Kd.N_drewN | apply Kd.N_drew)); exact HO_8.out) (Kd.R_base ho0) hb); have n1_ := Aside0.mk (Kd.N_elder' (by (with_reducible repeat (first | apply Kd.N_alloc | apply Kd.N_drewN | apply Kd.N_drew)); exact HO_10.out) (Kd.R_base ho0) hb); have n2_ := Aside0.mk (Kd.N_elder' (by (with_reducible repeat (first | apply Kd.N_alloc | apply Kd.N_drewN | apply Kd.N_drew)); exact HO_12.out) (Kd.R_base ho0) hb); have n3_ := Aside0.mk (Kd.N_elder' (by (with_reducible repeat (first | apply Kd.N_alloc | apply Kd.N_drewN | apply Kd.N_drew)); exact HO393.out) (Kd.R_base ho0) hb); have n4_ := Aside0.mk (Kd.V_elder' (by (with_reducible repeat (first | apply Kd.V_alloc | apply Kd.V_drewN | apply Kd.V_drew)); exact HO399.out) (Kd.R_base ho0) hb); have n5_ := Aside0.mk (Kd.R_elder' (by (with_reducible repeat (first | apply Kd.R_alloc | apply Kd.R_drewN | apply Kd.R_drew)); exact HO403.out) (Kd.R_base ho0) hb); have n6_ := Aside0.mk (Kd.R_lower (Kd.R_new' ho0 (Kd.R_lt (by (with_reducible repeat (first | apply Kd.R_alloc | apply Kd.R_drewN | apply Kd.R_drew)); exact HO403.out))) (below_size (by repeat (first | (with_reducible first | exact HB.out | apply below_alloc | apply pw_below_drewN | apply below_drew1) | exact HB.out)))); have n7_ := Aside0.mk (below_step (by repeat (first | (with_reducible first | exact HB.out | apply below_alloc | apply pw_below_drewN | apply below_drew1) | exact HB.out)) hb); clear HO_8; clear HO_10; clear HO_12; clear HO393; clear HO399; clear HO403; clear HB; have HO_8 := n0_; have HO_10 := n1_; have HO_12 := n2_; have HO393 := n3_; have HO399 := n4_; have HO403 := n5_; have HO407 := n6_; have HB := n7_; clear n0_ n1_ n2_ n3_ n4_ n5_ n6_ n7_; (try clear hb); (try clear hb2); (try clear hk); (try clear hi); (try clear ho0)))
                 (try simp only [Act.put, List.setIfInBounds_toArray, List.set_cons_zero, List.set_cons_succ])
                 go_cut [114] (fun v114 wc => ∃ (kq : Nat) (x114_40 : Bool), v114 = .bool x114_40 ∧ Aside0 (compositorlaw13_TextJoins.j2 kq t360 t381 y391 t400 t404 x114_40 = some r) ∧ Aside0 (kq ≤ kj14) ∧ Aside0 (Kd.N k36 36 wc w.heap.size (fun k_ => some k_ ≠ ((.slice Ao48 y391.length co48) : Value).ownBlock ∧ some k_ ≠ (v402 : Value).ownBlock ∧ some k_ ≠ (v406 : Value).ownBlock) (.slice Ao51 t381.length co51) t381) ∧ Aside0 (Kd.N k36 36 wc w.heap.size (fun k_ => some k_ ≠ ((.slice Ao51 t381.length co51) : Value).ownBlock ∧ some k_ ≠ (v402 : Value).ownBlock ∧ some k_ ≠ (v406 : Value).ownBlock) (.slice Ao48 y391.length co48) y391) ∧ Aside0 (Kd.R (Kd.int .u8) 5 wc w.heap.size (fun k_ => some k_ ≠ (v406 : Value).ownBlock) v402 t400) ∧ Aside0 (Kd.R (Kd.int .u8) 5 wc w.heap.size (fun k_ => some k_ ≠ (v402 : Value).ownBlock) v406 t404) ∧ Aside0 (Below w.heap.size w wc))
                 case first => as_aux_lemma =>
                  have H := HC41.out
                  clear HC41
                  by_cases c53 : t401 = 0
                  ·rw [if_pos c53] at H
                   have c53b0 : (t401 == 0) = true := beq_iff_eq.mpr c53
                   have c53b1 : (t401 != 0) = false := bne_eq_false_iff_eq.mpr c53
                   clear c53
                   (first | rw [c53b0] | (simp only [i64_w, i32_w]; rw [c53b0]) | skip)
                   by_cases c54 : t405 = 0
                   ·rw [if_pos c54] at H
                    have c54b0 : (t405 == 0) = true := beq_iff_eq.mpr c54
                    have c54b1 : (t405 != 0) = false := bne_eq_false_iff_eq.mpr c54
                    clear c54
                    have H' := Aside0.mk H
                    clear H
                    obtain ⟨Ao55, co55, eo55⟩ := Kd.R_slice HO403.out
                    subst eo55
                    obtain ⟨Ao56, co56, eo56⟩ := Kd.R_slice HO407.out
                    subst eo56
                    go_wp2
                    go_meet
                    case rel => exact ⟨_, (decide ((t400.length : Int) > (t404.length : Int))), (by first | rfl | (simp; done) | (simp [*]; done)), H', ⟨by have := HJ4.out; have := HJ14.out; first | omega | exact Nat.le_refl _⟩, ⟨by (with_reducible repeat (first | apply Kd.N_alloc | apply Kd.N_drewN | apply Kd.N_drew)); exact Kd.N_mono HO_12.out (fun _ hk => ⟨hk.1.1.2, ⟨hk.1.2, hk.2⟩⟩)⟩, ⟨by (with_reducible repeat (first | apply Kd.N_alloc | apply Kd.N_drewN | apply Kd.N_drew)); exact Kd.N_mono HO393.out (fun _ hk => ⟨hk.1.1, ⟨hk.1.2, hk.2⟩⟩)⟩, ⟨by (with_reducible repeat (first | apply Kd.R_alloc | apply Kd.R_drewN | apply Kd.R_drew)); exact Kd.R_mono HO403.out (fun _ hk => hk.2)⟩, ⟨by (with_reducible repeat (first | apply Kd.R_alloc | apply Kd.R_drewN | apply Kd.R_drew)); exact Kd.R_mono HO407.out (fun _ hk => hk.2)⟩, ⟨by repeat (first | (with_reducible first | exact HB.out | apply below_alloc | apply pw_below_drewN | apply below_drew1) | exact HB.out)⟩⟩
                   ·rw [if_neg c54] at H
                    have c54b0 : (t405 == 0) = false := beq_eq_false_iff_ne.mpr c54
                    have c54b1 : (t405 != 0) = true := bne_iff_ne.mpr c54
                    have H' := Aside0.mk H
                    clear H
                    go_wp2
                    go_meet
                    case rel => exact ⟨_, (true), (by first | rfl | (simp; done) | (simp [*]; done)), H', ⟨by have := HJ4.out; have := HJ14.out; first | omega | exact Nat.le_refl _⟩, ⟨by (with_reducible repeat (first | apply Kd.N_alloc | apply Kd.N_drewN | apply Kd.N_drew)); exact Kd.N_mono HO_12.out (fun _ hk => ⟨hk.1.1.2, ⟨hk.1.2, hk.2⟩⟩)⟩, ⟨by (with_reducible repeat (first | apply Kd.N_alloc | apply Kd.N_drewN | apply Kd.N_drew)); exact Kd.N_mono HO393.out (fun _ hk => ⟨hk.1.1, ⟨hk.1.2, hk.2⟩⟩)⟩, ⟨by (with_reducible repeat (first | apply Kd.R_alloc | apply Kd.R_drewN | apply Kd.R_drew)); exact Kd.R_mono HO403.out (fun _ hk => hk.2)⟩, ⟨by (with_reducible repeat (first | apply Kd.R_alloc | apply Kd.R_drewN | apply Kd.R_drew)); exact Kd.R_mono HO407.out (fun _ hk => hk.2)⟩, ⟨by repeat (first | (with_reducible first | exact HB.out | apply below_alloc | apply pw_below_drewN | apply below_drew1) | exact HB.out)⟩⟩
                  ·rw [if_neg c53] at H
                   have c53b0 : (t401 == 0) = false := beq_eq_false_iff_ne.mpr c53
                   have c53b1 : (t401 != 0) = true := bne_iff_ne.mpr c53
                   (first | rw [c53b0] | (simp only [i64_w, i32_w]; rw [c53b0]) | skip)
                   have H' := Aside0.mk H
                   clear H
                   go_wp2
                   go_meet
                   case rel => exact ⟨_, (true), (by first | rfl | (simp; done) | (simp [*]; done)), H', ⟨by have := HJ4.out; have := HJ14.out; first | omega | exact Nat.le_refl _⟩, ⟨by (with_reducible repeat (first | apply Kd.N_alloc | apply Kd.N_drewN | apply Kd.N_drew)); exact Kd.N_mono HO_12.out (fun _ hk => ⟨hk.1.1.2, ⟨hk.1.2, hk.2⟩⟩)⟩, ⟨by (with_reducible repeat (first | apply Kd.N_alloc | apply Kd.N_drewN | apply Kd.N_drew)); exact Kd.N_mono HO393.out (fun _ hk => ⟨hk.1.1, ⟨hk.1.2, hk.2⟩⟩)⟩, ⟨by (with_reducible repeat (first | apply Kd.R_alloc | apply Kd.R_drewN | apply Kd.R_drew)); exact Kd.R_mono HO403.out (fun _ hk => hk.2)⟩, ⟨by (with_reducible repeat (first | apply Kd.R_alloc | apply Kd.R_drewN | apply Kd.R_drew)); exact Kd.R_mono HO407.out (fun _ hk => hk.2)⟩, ⟨by repeat (first | (with_reducible first | exact HB.out | apply below_alloc | apply pw_below_drewN | apply below_drew1) | exact HB.out)⟩⟩
                 case rest => as_aux_lemma =>
                  clear HC41
                  try clear c1
                  try clear c2
                  try clear p2
                  try clear c3
                  try clear q4
                  try clear c5
                  try clear p6
                  try clear c7
                  try clear c7b0
                  try clear c7b1
                  try clear c8
                  try clear c10
                  try clear c11
                  try clear c12
                  try clear c13
                  try clear c15
                  try clear c25
                  try clear c25b0
                  try clear c25b1
                  try clear c26
                  try clear c27
                  try clear c30
                  try clear c31
                  try clear c32
                  try clear c32b0
                  try clear c32b1
                  try clear c34
                  try clear c34b0
                  try clear c34b1
                  try clear c35
                  try clear c35b0
                  try clear c35b1
                  try clear c37
                  try clear c37b0
                  try clear c37b1
                  try clear c38
                  try clear c38b0
                  try clear c38b1
                  try clear q49
                  try clear c53
                  try clear c53b0
                  try clear c53b1
                  try clear c54
                  try clear c54b0
                  try clear c54b1
                  try clear p2
                  try clear q49
                  obtain ⟨kq, x114_40, rfl, HA, HJ40, HO_12, HO_14, HO_16, HO_18, HB⟩ := hcut
                  cases kq with
                  | zero => exact absurd HA.out (by simp [compositorlaw13_TextJoins.j2])
                  | succ kj40 =>
                   have H := HA.out
                   clear HA
                   simp only [compositorlaw13_TextJoins.j2] at H
                   by_cases c57 : x114_40 = true
                   ·subst c57
                    have H1 : (none) = some r := by rw [if_pos rfl] at H; exact H
                    clear H
                    have H := H1
                    clear H1
                    exact absurd H (by simp)
                   ·replace c57 := Bool.eq_false_iff.mpr c57
                    subst c57
                    have H1 : (if t360 = true then ((text_Check.f kj40 y391).bind fun t408 => (if t408 = true then ((compositorref13_Same.f kj40 t381 y391).bind fun t409 => (if t409 = true then (if 0 ≤ (t400.length : Int) then (if (t400.length : Int) ≤ (t404.length : Int) then (some ((strOfNums (t404.take ((t400.length : Int) : Int).toNat)).toList == (strOfNums t400).toList)) else (none)) else (none)) else (none))) else (none))) else (none)) = some r := by rw [if_neg (show ¬ (false = true) by decide)] at H; exact H
                    clear H
                    have H := H1
                    clear H1
                    by_cases c58 : t360 = true
                    ·subst c58
                     have H1 : ((text_Check.f kj40 y391).bind fun t408 => (if t408 = true then ((compositorref13_Same.f kj40 t381 y391).bind fun t409 => (if t409 = true then (if 0 ≤ (t400.length : Int) then (if (t400.length : Int) ≤ (t404.length : Int) then (some ((strOfNums (t404.take ((t400.length : Int) : Int).toNat)).toList == (strOfNums t400).toList)) else (none)) else (none)) else (none))) else (none))) = some r := by rw [if_pos rfl] at H; exact H
                     clear H
                     have H := H1
                     clear H1
                     replace H := Option.bind_eq_some_iff.mp H
                     obtain ⟨t408, A590, H⟩ := H
                     replace H : (if t408 = true then ((compositorref13_Same.f kj40 t381 y391).bind fun t409 => (if t409 = true then (if 0 ≤ (t400.length : Int) then (if (t400.length : Int) ≤ (t404.length : Int) then (some ((strOfNums (t404.take ((t400.length : Int) : Int).toNat)).toList == (strOfNums t400).toList)) else (none)) else (none)) else (none))) else (none)) = some r := H
                     have A59 := Aside0.mk A590
                     clear A590
                     by_cases c60 : t408 = true
                     ·subst c60
                      have H1 : ((compositorref13_Same.f kj40 t381 y391).bind fun t409 => (if t409 = true then (if 0 ≤ (t400.length : Int) then (if (t400.length : Int) ≤ (t404.length : Int) then (some ((strOfNums (t404.take ((t400.length : Int) : Int).toNat)).toList == (strOfNums t400).toList)) else (none)) else (none)) else (none))) = some r := by rw [if_pos rfl] at H; exact H
                      clear H
                      have H := H1
                      clear H1
                      replace H := Option.bind_eq_some_iff.mp H
                      obtain ⟨t409, A610, H⟩ := H
                      replace H : (if t409 = true then (if 0 ≤ (t400.length : Int) then (if (t400.length : Int) ≤ (t404.length : Int) then (some ((strOfNums (t404.take ((t400.length : Int) : Int).toNat)).toList == (strOfNums t400).toList)) else (none)) else (none)) else (none)) = some r := H
                      have A61 := Aside0.mk A610
                      clear A610
                      by_cases c62 : t409 = true
                      ·subst c62
                       have H1 : (if 0 ≤ (t400.length : Int) then (if (t400.length : Int) ≤ (t404.length : Int) then (some ((strOfNums (t404.take ((t400.length : Int) : Int).toNat)).toList == (strOfNums t400).toList)) else (none)) else (none)) = some r := by rw [if_pos rfl] at H; exact H
                       clear H
                       have H := H1
                       clear H1
                       by_cases c63 : 0 ≤ (t400.length : Int)
                       ·rw [if_pos c63] at H
                        have c63b0 := eq_true c63
                        have c63b1 : decide (0 ≤ (t400.length : Int)) = true := decide_eq_true c63
                        clear c63
                        by_cases c64 : (t400.length : Int) ≤ (t404.length : Int)
                        ·rw [if_pos c64] at H
                         have c64b0 := eq_true c64
                         have c64b1 : decide ((t400.length : Int) ≤ (t404.length : Int)) = true := decide_eq_true c64
                         clear c64
                         obtain ⟨y410, hy410⟩ : ∃ y_ : List Int, y_ = (t404.take ((t400.length : Int) : Int).toNat) := ⟨_, rfl⟩
                         replace H : (some ((strOfNums y410).toList == (strOfNums t400).toList)) = some r := by first | (rw [hy410]; with_reducible exact H) | (have H2_ := (Option.bind_some _ _).symm.trans H; rw [hy410]; with_reducible exact H2_) | (have H2_ := (Option.bind_some _ _).symm.trans H; with_reducible exact H2_) | with_reducible exact H | (rw [hy410]; exact H) | exact H
                         have Ny410 := Aside0.mk hy410
                         clear hy410
                         obtain rfl := Option.some.inj H
                         try go_wp2
                         have n0_ := Aside0.mk (Kd.N_drew HO_12.out)
                         have n1_ := Aside0.mk (Kd.N_drew HO_14.out)
                         have n2_ := Aside0.mk (Kd.R_drew HO_16.out)
                         have n3_ := Aside0.mk (Kd.R_drew HO_18.out)
                         have n4_ := Aside0.mk (below_drew1 HB.out)
                         clear HO_12
                         clear HO_14
                         clear HO_16
                         clear HO_18
                         clear HB
                         have HO_12 := n0_
                         have HO_14 := n1_
                         have HO_16 := n2_
                         have HO_18 := n3_
                         have HB := n4_
                         clear n0_ n1_ n2_ n3_ n4_
                         refine start_ (n := 21) (S := fun w' => True) (ds := []) #[false, false, false, false, false, false, false, false, false, false, false, false, false, false, false, false, false, false, false, false, false] (by kernel_rfl) rfl rfl trivial (fun hHeld => ?_); refine with_tabW compositorlaw13_TextJoins.tab19 compositorlaw13_TextJoins.bits19 (fun HT_ HW_ => ?_)
                         generalize wc.drew = w65 at HO_12 HO_14 HO_16 HO_18 HB hHeld ⊢
                         refine pure_ (i := 0) (N := some 115) (v := ?_) (a' := ?_) #[true, false, false, false, false, false, false, false, false, false, false, false, false, false, false, false, false, false, false, false, false] rfl rfl (any_of HT_.out (by kernel_rfl)) (fun _ _ _ h => h) (Or.inl ⟨by rfl, ?_⟩) ?_ ?_
                         rotate_left
                         ·intro w'
                          go_simp
                          with_reducible rfl
                         rotate_left
                         ·simp only [Act.put, List.setIfInBounds_toArray, List.set_cons_zero, List.set_cons_succ, i64_w, i32_w]
                          rfl
                         refine pure_ (i := 1) (N := some 116) (v := ?_) (a' := ?_) #[true, true, false, false, false, false, false, false, false, false, false, false, false, false, false, false, false, false, false, false, false] rfl rfl (any_of HT_.out (by kernel_rfl)) (fun _ _ _ h => h) (Or.inl ⟨by rfl, ?_⟩) ?_ ?_
                         rotate_left
                         ·intro w'
                          go_simp
                          with_reducible rfl
                         rotate_left
                         ·simp only [Act.put, List.setIfInBounds_toArray, List.set_cons_zero, List.set_cons_succ, i64_w, i32_w]
                          rfl
                         refine pure_ (i := 2) (N := some 117) (v := ?_) (a' := ?_) #[true, true, true, false, false, false, false, false, false, false, false, false, false, false, false, false, false, false, false, false, false] rfl rfl (any_of HT_.out (by kernel_rfl)) (fun _ _ _ h => h) (Or.inl ⟨by rfl, ?_⟩) ?_ ?_
                         rotate_left
                         ·intro w'
                          go_simp
                          with_reducible rfl
                         rotate_left
                         ·simp only [Act.put, List.setIfInBounds_toArray, List.set_cons_zero, List.set_cons_succ, i64_w, i32_w]
                          rfl
                         refine one_ (i := 3) (N := some 118) #[true, true, true, true, false, false, false, false, false, false, false, false, false, false, false, false, false, false, false, false, false] rfl rfl (one_of HT_.out (by kernel_rfl)) (by decide) (fun K hK => ?_)
                         refine goes_ Try.func17 (by kernel_rfl) rfl #[.slice Ao48 y391.length co48] (by rfl) rfl rfl (by (try simp only [List.map_toArray, List.map_cons, List.map_nil]); first | done | rfl | (simp only [List.length_drop, List.length_take]; rfl)) ?_
                         with_reducible refine (text_Check.calls kj40 _ _ y391 true _ ?side1 ?side2 A59.out).mono ?_
                         (case side1 => repeat (first | exact (Kd.N_reads' HO_14.out).2.2 | (with_reducible apply Kd.C_alloc) | (with_reducible apply Kd.C_drewN) | (with_reducible apply Kd.C_drew)))
                         (case side2 => exact (Kd.N_reads' HO_14.out).2.1)
                         rintro e w66 ⟨rfl, hb⟩
                         refine ⟨_, rfl, ?_⟩
                         have n0_ := Aside0.mk (Kd.N_below (by (with_reducible repeat (first | apply Kd.N_alloc | apply Kd.N_drewN | apply Kd.N_drew)); exact HO_12.out) hb)
                         have n1_ := Aside0.mk (Kd.N_below (by (with_reducible repeat (first | apply Kd.N_alloc | apply Kd.N_drewN | apply Kd.N_drew)); exact HO_14.out) hb)
                         have n2_ := Aside0.mk (Kd.R_below (by (with_reducible repeat (first | apply Kd.R_alloc | apply Kd.R_drewN | apply Kd.R_drew)); exact HO_16.out) hb)
                         have n3_ := Aside0.mk (Kd.R_below (by (with_reducible repeat (first | apply Kd.R_alloc | apply Kd.R_drewN | apply Kd.R_drew)); exact HO_18.out) hb)
                         have n4_ := Aside0.mk (below_step (by repeat (first | (with_reducible first | exact HB.out | apply below_alloc | apply pw_below_drewN | apply below_drew1) | exact HB.out)) hb)
                         clear HO_12
                         clear HO_14
                         clear HO_16
                         clear HO_18
                         clear HB
                         have HO_12 := n0_
                         have HO_14 := n1_
                         have HO_16 := n2_
                         have HO_18 := n3_
                         have HB := n4_
                         clear n0_ n1_ n2_ n3_ n4_
                         (try clear hb)
                         (try clear hb2)
                         (try clear hk)
                         (try clear hi)
                         refine hK.out _ _ trivial (fun hHeld => ?_)
                         clear hK K
                         refine norm_ (a' := ?_) ?_ ?_
                         rotate_left
                         ·show Act.put _ (some 118) _ = _
                          simp only [Act.put, List.setIfInBounds_toArray, List.set_cons_zero, List.set_cons_succ, i64_w, i32_w]
                          rfl
                         refine pure_ (i := 4) (N := some 119) (v := ?_) (a' := ?_) #[true, true, true, true, true, false, false, false, false, false, false, false, false, false, false, false, false, false, false, false, false] rfl rfl (any_of HT_.out (by kernel_rfl)) (fun _ _ _ h => h) (Or.inl ⟨by rfl, ?_⟩) ?_ ?_
                         rotate_left
                         ·intro w'
                          go_simp
                          with_reducible rfl
                         rotate_left
                         ·simp only [Act.put, List.setIfInBounds_toArray, List.set_cons_zero, List.set_cons_succ, i64_w, i32_w]
                          rfl
                         refine pure_ (i := 5) (N := some 120) (v := ?_) (a' := ?_) #[true, true, true, true, true, true, false, false, false, false, false, false, false, false, false, false, false, false, false, false, false] rfl rfl (any_of HT_.out (by kernel_rfl)) (fun _ _ _ h => h) (Or.inl ⟨by rfl, ?_⟩) ?_ ?_
                         rotate_left
                         ·intro w'
                          go_simp
                          with_reducible rfl
                         rotate_left
                         ·simp only [Act.put, List.setIfInBounds_toArray, List.set_cons_zero, List.set_cons_succ, i64_w, i32_w]
                          rfl
                         refine pure_ (i := 6) (N := some 121) (v := ?_) (a' := ?_) #[true, true, true, true, true, true, true, false, false, false, false, false, false, false, false, false, false, false, false, false, false] rfl rfl (any_of HT_.out (by kernel_rfl)) (fun _ _ _ h => h) (Or.inl ⟨by rfl, ?_⟩) ?_ ?_
                         rotate_left
                         ·intro w'
                          go_simp
                          with_reducible rfl
                         rotate_left
                         ·simp only [Act.put, List.setIfInBounds_toArray, List.set_cons_zero, List.set_cons_succ, i64_w, i32_w]
                          rfl
                         refine pure_ (i := 7) (N := some 122) (v := ?_) (a' := ?_) #[true, true, true, true, true, true, true, true, false, false, false, false, false, false, false, false, false, false, false, false, false] rfl rfl (any_of HT_.out (by kernel_rfl)) (fun _ _ _ h => h) (Or.inl ⟨by rfl, ?_⟩) ?_ ?_
                         rotate_left
                         ·intro w'
                          go_simp
                          with_reducible rfl
                         rotate_left
                         ·simp only [Act.put, List.setIfInBounds_toArray, List.set_cons_zero, List.set_cons_succ, i64_w, i32_w]
                          rfl
                         refine one_ (i := 8) (N := some 123) #[true, true, true, true, true, true, true, true, true, false, false, false, false, false, false, false, false, false, false, false, false] rfl rfl (one_of HT_.out (by kernel_rfl)) (by decide) (fun K hK => ?_)
                         refine goes_ Try.func13 (by kernel_rfl) rfl #[.slice Ao51 t381.length co51, .slice Ao48 y391.length co48] (by rfl) rfl rfl (by (try simp only [List.map_toArray, List.map_cons, List.map_nil]); first | done | rfl | (simp only [List.length_drop, List.length_take]; rfl)) ?_
                         with_reducible refine (compositorref13_Same.calls kj40 _ _ t381 _ _ y391 true _ ?side1 ?side2 ?side3 ?side4 A61.out).mono ?_
                         (case side1 => repeat (first | exact (Kd.N_reads' HO_12.out).2.2 | (with_reducible apply Kd.C_alloc) | (with_reducible apply Kd.C_drewN) | (with_reducible apply Kd.C_drew)))
                         (case side2 => exact (Kd.N_reads' HO_12.out).2.1)
                         (case side3 => repeat (first | exact (Kd.N_reads' HO_14.out).2.2 | (with_reducible apply Kd.C_alloc) | (with_reducible apply Kd.C_drewN) | (with_reducible apply Kd.C_drew)))
                         (case side4 => exact (Kd.N_reads' HO_14.out).2.1)
                         rintro e w' ⟨rfl, ⟨nd, rfl⟩⟩
                         refine ⟨_, rfl, ?_⟩
                         obtain ⟨Ao67, co67, eo67⟩ := Kd.R_slice HO_16.out
                         (first | subst eo67 | (injection eo67 with f1_ f2_ f3_; have f4_ := f1_.symm; have f5_ := f3_.symm; clear f1_ f2_ f3_; subst f4_; subst f5_))
                         obtain ⟨Ao69, co69, eo69⟩ := Kd.R_slice HO_18.out
                         (first | subst eo69 | (injection eo69 with f1_ f2_ f3_; have f4_ := f1_.symm; have f5_ := f3_.symm; clear f1_ f2_ f3_; subst f4_; subst f5_))
                         have q68 : ((t400.length : Int) : Int) ≤ ((t404.length : Int) : Int) := odt
                         obtain ⟨i068, hi068, _, hsz68, _⟩ := info_parts info5
                         have hroom68 : t404.length ≤ co69 := (Kd.R_reads' HO_18.out).2.1
                         have hC68 : Kd.F (Kd.int .u8) _ _ Ao69 t404.length t404 := (Kd.V_at (base := w.heap.size) (Kd.R_V (Kd.R_apart' (Kd.R_apart' (HO_18.out) (Kd.N_typed HO_12.out) (by decide)) (Kd.N_typed HO_14.out) (by decide)))).2.2
                         have hcut68 := cut_to (P := Try.prog) 22 5 .i64 Try.underlying22 hi068 Ao69 t404.length co69 (t400.length : Int) (odt) q68 hroom68
                         have hr68 := Kd.F_take (m := ((t400.length : Int) : Int).toNat) hC68 (by omega)
                         have hy68 : y410.length = ((t400.length : Int) : Int).toNat := (by rw [Ny410.out, List.length_take]; omega)
                         rw [← Ny410.out] at hr68
                         rw [← hy68] at hcut68
                         have HO414 := Aside0.mk (show Kd.V (Kd.int .u8) 5 _ w.heap.size _ (.slice Ao69 y410.length co69) y410 from Kd.V_mk (by omega) hr68)
                         have HC414 := Aside0.mk (show y410.length ≤ co69 from by omega)
                         clear hr68 hC68 hroom68 hi068 hsz68
                         have KY68 := Aside0.mk hy68
                         clear hy68
                         replace q68 := eq_true q68
                         refine hK.out _ _ trivial (fun hHeld => ?_)
                         clear hK K
                         refine norm_ (a' := ?_) ?_ ?_
                         rotate_left
                         ·show Act.put _ (some 123) _ = _
                          simp only [Act.put, List.setIfInBounds_toArray, List.set_cons_zero, List.set_cons_succ, i64_w, i32_w]
                          rfl
                         refine pure_ (i := 9) (N := some 124) (v := ?_) (a' := ?_) #[true, true, true, true, true, true, true, true, true, true, false, false, false, false, false, false, false, false, false, false, false] rfl rfl (any_of HT_.out (by kernel_rfl)) (fun _ _ _ h => h) (Or.inl ⟨by rfl, ?_⟩) ?_ ?_
                         rotate_left
                         ·intro w'
                          go_simp
                          with_reducible rfl
                         rotate_left
                         ·simp only [Act.put, List.setIfInBounds_toArray, List.set_cons_zero, List.set_cons_succ, i64_w, i32_w]
                          rfl
                         refine pure_ (i := 10) (N := some 125) (v := ?_) (a' := ?_) #[true, true, true, true, true, true, true, true, true, true, true, false, false, false, false, false, false, false, false, false, false] rfl rfl (any_of HT_.out (by kernel_rfl)) (fun _ _ _ h => h) (Or.inl ⟨by rfl, ?_⟩) ?_ ?_
                         rotate_left
                         ·intro w'
                          go_simp
                          with_reducible rfl
                         rotate_left
                         ·simp only [Act.put, List.setIfInBounds_toArray, List.set_cons_zero, List.set_cons_succ, i64_w, i32_w]
                          rfl
                         refine pure_ (i := 11) (N := some 126) (v := ?_) (a' := ?_) #[true, true, true, true, true, true, true, true, true, true, true, true, false, false, false, false, false, false, false, false, false] rfl rfl (any_of HT_.out (by kernel_rfl)) (fun _ _ _ h => h) (Or.inl ⟨by rfl, ?_⟩) ?_ ?_
                         rotate_left
                         ·intro w'
                          go_simp
                          with_reducible rfl
                         rotate_left
                         ·simp only [Act.put, List.setIfInBounds_toArray, List.set_cons_zero, List.set_cons_succ, i64_w, i32_w]
                          rfl
                         refine pure_ (i := 12) (N := some 127) (v := ?_) (a' := ?_) #[true, true, true, true, true, true, true, true, true, true, true, true, true, false, false, false, false, false, false, false, false] rfl rfl (any_of HT_.out (by kernel_rfl)) (fun _ _ _ h => h) (Or.inl ⟨by rfl, ?_⟩) ?_ ?_
                         rotate_left
                         ·intro w'
                          go_simp
                          with_reducible rfl
                         rotate_left
                         ·simp only [Act.put, List.setIfInBounds_toArray, List.set_cons_zero, List.set_cons_succ, i64_w, i32_w]
                          rfl
                         refine pure_ (i := 13) (N := some 128) (v := ?_) (a' := ?_) #[true, true, true, true, true, true, true, true, true, true, true, true, true, true, false, false, false, false, false, false, false] rfl rfl (any_of HT_.out (by kernel_rfl)) (fun _ _ _ h => h) (Or.inl ⟨by rfl, ?_⟩) ?_ ?_
                         rotate_left
                         ·intro w'
                          go_simp
                          with_reducible rfl
                         rotate_left
                         ·simp only [Act.put, List.setIfInBounds_toArray, List.set_cons_zero, List.set_cons_succ, i64_w, i32_w]
                          rfl
                         refine pure_ (i := 14) (N := some 129) (v := ?_) (a' := ?_) #[true, true, true, true, true, true, true, true, true, true, true, true, true, true, true, false, false, false, false, false, false] rfl rfl (any_of HT_.out (by kernel_rfl)) (fun _ _ _ h => h) (Or.inl ⟨by rfl, ?_⟩) ?_ ?_
                         rotate_left
                         ·intro w'
                          go_simp
                          with_reducible rfl
                         rotate_left
                         ·simp only [Act.put, List.setIfInBounds_toArray, List.set_cons_zero, List.set_cons_succ, i64_w, i32_w]
                          rfl
                         refine pure_ (i := 16) (N := some 131) (v := ?_) (a' := ?_) #[true, true, true, true, true, true, true, true, true, true, true, true, true, true, true, false, true, false, false, false, false] rfl rfl (any_of HT_.out (by kernel_rfl)) (fun _ _ _ h => h) (Or.inl ⟨by rfl, ?_⟩) ?_ ?_
                         rotate_left
                         ·intro w'
                          go_simp
                          with_reducible rfl
                         rotate_left
                         ·simp only [Act.put, List.setIfInBounds_toArray, List.set_cons_zero, List.set_cons_succ, i64_w, i32_w]
                          rfl
                         refine join_ (σ := Unit) 3 #[true, true, true, true, true, true, true, true, true, true, true, true, true, true, true, true, true, true, false, false, false] (fun s_ => [(130, .string (strOfNums y410)), (132, .string (strOfNums t400))]) (fun s_ w' => (Kd.V (Kd.int .u8) 5 w' w.heap.size (fun k_ => some k_ ≠ (.slice Ao51 t381.length co51 : Value).ownBlock ∧ some k_ ≠ (.slice Ao48 y391.length co48 : Value).ownBlock ∧ some k_ ≠ (.slice Ao67 t400.length co67 : Value).ownBlock) (.slice Ao69 y410.length co69) y410) ∧ (Kd.N k36 36 w' w.heap.size (fun k_ => some k_ ≠ (.slice Ao48 y391.length co48 : Value).ownBlock ∧ some k_ ≠ (.slice Ao67 t400.length co67 : Value).ownBlock ∧ some k_ ≠ (.slice Ao69 t404.length co69 : Value).ownBlock) (.slice Ao51 t381.length co51) t381) ∧ (Kd.N k36 36 w' w.heap.size (fun k_ => some k_ ≠ (.slice Ao51 t381.length co51 : Value).ownBlock ∧ some k_ ≠ (.slice Ao67 t400.length co67 : Value).ownBlock ∧ some k_ ≠ (.slice Ao69 t404.length co69 : Value).ownBlock) (.slice Ao48 y391.length co48) y391) ∧ (Kd.R (Kd.int .u8) 5 w' w.heap.size (fun k_ => some k_ ≠ (.slice Ao69 t404.length co69 : Value).ownBlock) (.slice Ao67 t400.length co67) t400) ∧ (Kd.R (Kd.int .u8) 5 w' w.heap.size (fun k_ => some k_ ≠ (.slice Ao67 t400.length co67 : Value).ownBlock) (.slice Ao69 t404.length co69) t404) ∧ (Below w.heap.size w w')) ?_ ?_
                         rotate_left
                         ·intro hCont
                          refine two_ (i := 15) (j := 17) (Ni := some 130) (Nj := some 132) #[true, true, true, true, true, true, true, true, true, true, true, true, true, true, true, true, true, false, false, false, false] #[true, true, true, true, true, true, true, true, true, true, true, true, true, true, true, false, true, true, false, false, false] rfl rfl rfl rfl (two_of HT_.out (by kernel_rfl)) (by decide) (by decide) (fun K hK => ?_) (fun K hK => ?_)
                          ·skip
                           have hcv70 := And.intro (fun c_ : Nat => Kd.C_string (P := Try.prog) (c := c_) Try.underlying22 Try.underlying5 Try.underlying9 (Kd.V_reads' HO414.out).2.2) (fun c_ n_ : Nat => Kd.C_string (P := Try.prog) (c := c_) Try.underlying22 Try.underlying5 Try.underlying9 (Kd.C_drewN (Kd.V_reads' HO414.out).2.2 n_))
                           refine value_ (w1 := ?_) (v := ?_) (by rfl) rfl ?_ ?_
                           rotate_left 2
                           ·go_simp
                            constructor
                            ·rfl
                            ·rfl
                           clear hcv70
                           refine hK.out _ _ trivial (fun hHeld => ?_)
                           clear hK K
                           refine norm_ (a' := ?_) ?_ ?_
                           rotate_left
                           ·show Act.put _ (some 130) _ = _
                            simp only [Act.put, List.setIfInBounds_toArray, List.set_cons_zero, List.set_cons_succ, i64_w, i32_w]
                            rfl
                           refine one_ (i := 17) (N := some 132) #[true, true, true, true, true, true, true, true, true, true, true, true, true, true, true, true, true, true, false, false, false] rfl rfl (one_of HT_.out (by kernel_rfl)) (by decide) (fun K hK => ?_)
                           have hcv71 := And.intro (own_string (P := Try.prog) Try.underlying22 Try.underlying5 Try.underlying9 (Kd.own_of_R HO_16.out)) (fun n_ : Nat => own_string (P := Try.prog) Try.underlying22 Try.underlying5 Try.underlying9 (Kd.own_of_R (Kd.R_drewN HO_16.out n_)))
                           refine value_ (w1 := ?_) (v := ?_) (by rfl) rfl ?_ ?_
                           rotate_left 2
                           ·go_simp
                            constructor
                            ·rfl
                            ·rfl
                           clear hcv71
                           refine hK.out _ _ trivial (fun hHeld => ?_)
                           clear hK K
                           refine norm_ (a' := ?_) ?_ ?_
                           rotate_left
                           ·show Act.put _ (some 132) _ = _
                            simp only [Act.put, List.setIfInBounds_toArray, List.set_cons_zero, List.set_cons_succ, i64_w, i32_w]
                            rfl
                           exact norm_ (by simp only [putAll, Act.put, List.setIfInBounds_toArray, List.set_cons_zero, List.set_cons_succ]) (hCont () _ ⟨(by (with_reducible repeat (first | apply Kd.V_alloc | apply Kd.V_drewN | apply Kd.V_drew)); exact Kd.V_mono HO414.out (fun _ hk => ⟨hk.1.2, ⟨hk.2, hk.1.1⟩⟩)), (by (with_reducible repeat (first | apply Kd.N_alloc | apply Kd.N_drewN | apply Kd.N_drew)); exact HO_12.out), (by (with_reducible repeat (first | apply Kd.N_alloc | apply Kd.N_drewN | apply Kd.N_drew)); exact HO_14.out), (by (with_reducible repeat (first | apply Kd.R_alloc | apply Kd.R_drewN | apply Kd.R_drew)); exact HO_16.out), (by (with_reducible repeat (first | apply Kd.R_alloc | apply Kd.R_drewN | apply Kd.R_drew)); exact HO_18.out), (by repeat (first | (with_reducible first | exact HB.out | apply below_alloc | apply pw_below_drewN | apply below_drew1) | exact HB.out))⟩)
                          ·skip
                           have hcv70 := And.intro (own_string (P := Try.prog) Try.underlying22 Try.underlying5 Try.underlying9 (Kd.own_of_R HO_16.out)) (fun n_ : Nat => own_string (P := Try.prog) Try.underlying22 Try.underlying5 Try.underlying9 (Kd.own_of_R (Kd.R_drewN HO_16.out n_)))
                           refine value_ (w1 := ?_) (v := ?_) (by rfl) rfl ?_ ?_
                           rotate_left 2
                           ·go_simp
                            constructor
                            ·rfl
                            ·rfl
                           clear hcv70
                           refine hK.out _ _ trivial (fun hHeld => ?_)
                           clear hK K
                           refine norm_ (a' := ?_) ?_ ?_
                           rotate_left
                           ·show Act.put _ (some 132) _ = _
                            simp only [Act.put, List.setIfInBounds_toArray, List.set_cons_zero, List.set_cons_succ, i64_w, i32_w]
                            rfl
                           refine one_ (i := 15) (N := some 130) #[true, true, true, true, true, true, true, true, true, true, true, true, true, true, true, true, true, true, false, false, false] rfl rfl (one_of HT_.out (by kernel_rfl)) (by decide) (fun K hK => ?_)
                           have hcv71 := And.intro (fun c_ : Nat => Kd.C_string (P := Try.prog) (c := c_) Try.underlying22 Try.underlying5 Try.underlying9 (Kd.V_reads' HO414.out).2.2) (fun c_ n_ : Nat => Kd.C_string (P := Try.prog) (c := c_) Try.underlying22 Try.underlying5 Try.underlying9 (Kd.C_drewN (Kd.V_reads' HO414.out).2.2 n_))
                           refine value_ (w1 := ?_) (v := ?_) (by rfl) rfl ?_ ?_
                           rotate_left 2
                           ·go_simp
                            constructor
                            ·rfl
                            ·rfl
                           clear hcv71
                           refine hK.out _ _ trivial (fun hHeld => ?_)
                           clear hK K
                           refine norm_ (a' := ?_) ?_ ?_
                           rotate_left
                           ·show Act.put _ (some 130) _ = _
                            simp only [Act.put, List.setIfInBounds_toArray, List.set_cons_zero, List.set_cons_succ, i64_w, i32_w]
                            rfl
                           exact norm_ (by simp only [putAll, Act.put, List.setIfInBounds_toArray, List.set_cons_zero, List.set_cons_succ]) (hCont () _ ⟨(by (with_reducible repeat (first | apply Kd.V_alloc | apply Kd.V_drewN | apply Kd.V_drew)); exact Kd.V_mono HO414.out (fun _ hk => ⟨hk.1.2, ⟨hk.2, hk.1.1⟩⟩)), (by (with_reducible repeat (first | apply Kd.N_alloc | apply Kd.N_drewN | apply Kd.N_drew)); exact HO_12.out), (by (with_reducible repeat (first | apply Kd.N_alloc | apply Kd.N_drewN | apply Kd.N_drew)); exact HO_14.out), (by (with_reducible repeat (first | apply Kd.R_alloc | apply Kd.R_drewN | apply Kd.R_drew)); exact HO_16.out), (by (with_reducible repeat (first | apply Kd.R_alloc | apply Kd.R_drewN | apply Kd.R_drew)); exact HO_18.out), (by repeat (first | (with_reducible first | exact HB.out | apply below_alloc | apply pw_below_drewN | apply below_drew1) | exact HB.out))⟩)
                         rintro _ w72 ⟨h0_, h1_, h2_, h3_, h4_, h5_⟩
                         have n0_ : Aside0 (Kd.V (Kd.int .u8) 5 w72 w.heap.size (fun k_ => some k_ ≠ (.slice Ao51 t381.length co51 : Value).ownBlock ∧ some k_ ≠ (.slice Ao48 y391.length co48 : Value).ownBlock ∧ some k_ ≠ (.slice Ao67 t400.length co67 : Value).ownBlock) (.slice Ao69 y410.length co69) y410) := ⟨h0_⟩
                         have n1_ : Aside0 (Kd.N k36 36 w72 w.heap.size (fun k_ => some k_ ≠ (.slice Ao48 y391.length co48 : Value).ownBlock ∧ some k_ ≠ (.slice Ao67 t400.length co67 : Value).ownBlock ∧ some k_ ≠ (.slice Ao69 t404.length co69 : Value).ownBlock) (.slice Ao51 t381.length co51) t381) := ⟨h1_⟩
                         have n2_ : Aside0 (Kd.N k36 36 w72 w.heap.size (fun k_ => some k_ ≠ (.slice Ao51 t381.length co51 : Value).ownBlock ∧ some k_ ≠ (.slice Ao67 t400.length co67 : Value).ownBlock ∧ some k_ ≠ (.slice Ao69 t404.length co69 : Value).ownBlock) (.slice Ao48 y391.length co48) y391) := ⟨h2_⟩
                         have n3_ : Aside0 (Kd.R (Kd.int .u8) 5 w72 w.heap.size (fun k_ => some k_ ≠ (.slice Ao69 t404.length co69 : Value).ownBlock) (.slice Ao67 t400.length co67) t400) := ⟨h3_⟩
                         have n4_ : Aside0 (Kd.R (Kd.int .u8) 5 w72 w.heap.size (fun k_ => some k_ ≠ (.slice Ao67 t400.length co67 : Value).ownBlock) (.slice Ao69 t404.length co69) t404) := ⟨h4_⟩
                         have n5_ : Aside0 (Below w.heap.size w w72) := ⟨h5_⟩
                         clear HO_12
                         clear HO_14
                         clear HO_16
                         clear HO_18
                         clear HB
                         clear h0_ h1_ h2_ h3_ h4_ h5_
                         have HO414 := n0_
                         have HO_12 := n1_
                         have HO_14 := n2_
                         have HO_16 := n3_
                         have HO_18 := n4_
                         have HB := n5_
                         clear n0_ n1_ n2_ n3_ n4_ n5_
                         have hHeld := trivial
                         refine norm_ (a' := ?_) ?_ ?_
                         rotate_left
                         ·simp only [putAll, Act.put, List.setIfInBounds_toArray, List.set_cons_zero, List.set_cons_succ]
                          rfl
                         refine pure_ (i := 18) (N := some 133) (v := ?_) (a' := ?_) #[true, true, true, true, true, true, true, true, true, true, true, true, true, true, true, true, true, true, true, false, false] rfl rfl (any_of HT_.out (by kernel_rfl)) (fun _ _ _ h => h) (Or.inl ⟨by rfl, ?_⟩) ?_ ?_
                         rotate_left
                         ·intro w'
                          go_simp
                          with_reducible rfl
                         rotate_left
                         ·simp only [Act.put, List.setIfInBounds_toArray, List.set_cons_zero, List.set_cons_succ, i64_w, i32_w]
                          rfl
                         refine pure_ (i := 19) (N := some 134) (v := ?_) (a' := ?_) #[true, true, true, true, true, true, true, true, true, true, true, true, true, true, true, true, true, true, true, true, false] rfl rfl (any_of HT_.out (by kernel_rfl)) (fun _ _ _ h => h) (Or.inl ⟨by rfl, ?_⟩) ?_ ?_
                         rotate_left
                         ·intro w'
                          go_simp
                          with_reducible rfl
                         rotate_left
                         ·simp only [Act.put, List.setIfInBounds_toArray, List.set_cons_zero, List.set_cons_succ, i64_w, i32_w]
                          rfl
                         refine pure_ (i := 20) (N := some 6) (v := ?_) (a' := ?_) #[true, true, true, true, true, true, true, true, true, true, true, true, true, true, true, true, true, true, true, true, true] rfl rfl (any_of HT_.out (by kernel_rfl)) (fun _ _ _ h => h) (Or.inl ⟨by rfl, ?_⟩) ?_ ?_
                         rotate_left
                         ·intro w'
                          go_simp
                          with_reducible rfl
                         rotate_left
                         ·simp only [Act.put, List.setIfInBounds_toArray, List.set_cons_zero, List.set_cons_succ, i64_w, i32_w]
                          rfl
                         refine done_ (done_of HT_.out (by kernel_rfl)) ?_
                         try go_wp2
                         go_ret
                         exact ⟨by first | rfl | (simp [errW_none, errW_some] <;> rfl) | (simp only [← hji33, ← hji36]; first | rfl | (simp [errW_none, errW_some] <;> rfl)) | (simp [*, errW_none, errW_some] <;> rfl), by repeat (first | (with_reducible first | exact HB.out | apply below_alloc | apply pw_below_drewN | apply below_drew1) | exact HB.out)⟩
                        ·rw [if_neg c64] at H
                         exact absurd H (by simp)
                       ·rw [if_neg c63] at H
                        exact absurd H (by simp)
                      ·replace c62 := Bool.eq_false_iff.mpr c62
                       subst c62
                       have H1 : (none) = some r := by rw [if_neg (show ¬ (false = true) by decide)] at H; exact H
                       clear H
                       have H := H1
                       clear H1
                       exact absurd H (by simp)
                     ·replace c60 := Bool.eq_false_iff.mpr c60
                      subst c60
                      have H1 : (none) = some r := by rw [if_neg (show ¬ (false = true) by decide)] at H; exact H
                      clear H
                      have H := H1
                      clear H1
                      exact absurd H (by simp)
                    ·replace c58 := Bool.eq_false_iff.mpr c58
                     subst c58
                     have H1 : (none) = some r := by rw [if_neg (show ¬ (false = true) by decide)] at H; exact H
                     clear H
                     have H := H1
                     clear H1
                     exact absurd H (by simp)
                ·rw [if_neg c38] at H
                 exact absurd H (by simp)
               ·rw [if_neg c37] at H
                exact absurd H (by simp)
            ·rw [if_neg c32] at H
             have c32b0 : (t382 == 0) = false := beq_eq_false_iff_ne.mpr c32
             have c32b1 : (t382 != 0) = true := bne_iff_ne.mpr c32
             by_cases c73 : t360 = true
             ·subst c73
              have H1 : ((text_Check.f kj14 y391).bind fun t394 => (some (!t394))) = some r := by rw [if_pos rfl] at H; exact H
              clear H
              have H := H1
              clear H1
              replace H := Option.bind_eq_some_iff.mp H
              obtain ⟨t394, A740, H⟩ := H
              replace H : (some (!t394)) = some r := H
              have A74 := Aside0.mk A740
              clear A740
              obtain rfl := Option.some.inj H
              go_wp2_with (first | ((with_reducible refine gate_dst (N := 66) rfl ?_); (try (refine gate_guard (by rfl) ?_; dsimp only)); refine Kd.N_lit k36 _ 36 ?hg (N' := 66) ?hd (xs := ([] : List (S36))) (inner := []) (ok := (fun k_ => some k_ ≠ (v363 : Value).ownBlock ∧ some k_ ≠ (v367 : Value).ownBlock ∧ some k_ ≠ (v383 : Value).ownBlock)) (okp := (fun k_ => some k_ ≠ (v363 : Value).ownBlock ∧ some k_ ≠ (v367 : Value).ownBlock ∧ some k_ ≠ (v383 : Value).ownBlock)) ?hr ?hp (fun _ hk => hk) ((show ∀ k_, wc.heap.size ≤ k_ → (fun k_ => some k_ ≠ (v363 : Value).ownBlock ∧ some k_ ≠ (v367 : Value).ownBlock ∧ some k_ ≠ (v383 : Value).ownBlock) k_ from fun k_ hk => ⟨Kd.fresh' (Kd.N_lt (by (with_reducible repeat (first | apply Kd.N_alloc | apply Kd.N_drewN | apply Kd.N_drew)); exact HO_8.out)) k_ hk, Kd.fresh' (Kd.N_lt (by (with_reducible repeat (first | apply Kd.N_alloc | apply Kd.N_drewN | apply Kd.N_drew)); exact HO_10.out)) k_ hk, Kd.fresh' (Kd.N_lt (by (with_reducible repeat (first | apply Kd.N_alloc | apply Kd.N_drewN | apply Kd.N_drew)); exact HO_12.out)) k_ hk⟩) _ (Nat.le_refl _)) (Below.refl _ _) (Nat.le_refl _) (by simp) ?_; (case hd => rfl); (case hg => rfl); (case hr => first | (go_simp; done) | (go_simp; rfl)); (case hp => exact (Reps.none _ _)); intro v386 w75 ho76 hb hg_ hnew_; clear hg_ hnew_; (first | rw [← Ny385.out] at ho76 | (simp only [Int.reduceToNat] at ho76; rw [← Ny385.out] at ho76)); have n0_ := Aside0.mk (Kd.N_elder' (by (with_reducible repeat (first | apply Kd.N_alloc | apply Kd.N_drewN | apply Kd.N_drew)); exact HO_8.out) (Kd.N_base ho76) hb); have n1_ := Aside0.mk (Kd.N_elder' (by (with_reducible repeat (first | apply Kd.N_alloc | apply Kd.N_drewN | apply Kd.N_drew)); exact HO_10.out) (Kd.N_base ho76) hb); have n2_ := Aside0.mk (Kd.N_elder' (by (with_reducible repeat (first | apply Kd.N_alloc | apply Kd.N_drewN | apply Kd.N_drew)); exact HO_12.out) (Kd.N_base ho76) hb); have n3_ := Aside0.mk (Kd.N_lower ho76 (below_size (by repeat (first | (with_reducible first | exact HB.out | apply below_alloc | apply pw_below_drewN | apply below_drew1) | exact HB.out)))); have n4_ := Aside0.mk (below_step (by repeat (first | (with_reducible first | exact HB.out | apply below_alloc | apply pw_below_drewN | apply below_drew1) | exact HB.out)) hb); clear HO_8; clear HO_10; clear HO_12; clear HB; have HO_8 := n0_; have HO_10 := n1_; have HO_12 := n2_; have HO387 := n3_; have HB := n4_; clear n0_ n1_ n2_ n3_ n4_; clear hb ho76; obtain ⟨Ao78, co78, eo78⟩ := Kd.N_slice HO_8.out; subst eo78) | ((with_reducible refine gate_builtin (b := .append) (xs := #[.tmp 66, .tmp 67]) rfl ?_); (try (refine gate_guard (by rfl) ?_; dsimp only)); at_builtin; refine Kd.N_append_rows k36 (w0 := w) w.heap.size rfl (.tmp 66) (.tmp 67) 24 36 (.agg #[(.slice none 0 0), (.slice none 0 0)]) 48 rfl Try.underlying24 info36 rfl (by decide) (by omega) v386 y385 t361 _ _ _ (fun k_ => some k_ ≠ (v367 : Value).ownBlock ∧ some k_ ≠ (v383 : Value).ownBlock) (fun k_ => ((fun k_ => some k_ ≠ (v367 : Value).ownBlock ∧ some k_ ≠ (v383 : Value).ownBlock)) k_ ∧ some k_ ≠ (v386 : Value).ownBlock) rfl rfl ?aO ?aR (fun _ hk => hk) ?aF ?aB ?aS ?aL ?_; (case aR => exact (by skip; exact Kd.N_F (Kd.N_mono (ok' := (fun k_ => ((fun k_ => some k_ ≠ (v367 : Value).ownBlock ∧ some k_ ≠ (v383 : Value).ownBlock)) k_ ∧ some k_ ≠ (v386 : Value).ownBlock)) (HO_8.out) (fun k_ hk => ⟨⟨hk.1.1, hk.1.2⟩, hk.2⟩)))); (case aB => exact (by repeat (first | (with_reducible first | exact HB.out | apply below_alloc | apply pw_below_drewN | apply below_drew1) | exact HB.out))); (case aF => exact (fun k_ hk => ⟨Kd.fresh' (Kd.N_lt (by (with_reducible repeat (first | apply Kd.N_alloc | apply Kd.N_drewN | apply Kd.N_drew)); exact HO_10.out)) k_ hk, Kd.fresh' (Kd.N_lt (by (with_reducible repeat (first | apply Kd.N_alloc | apply Kd.N_drewN | apply Kd.N_drew)); exact HO_12.out)) k_ hk⟩)); (case aO => exact (by (with_reducible repeat (first | apply Kd.N_alloc | apply Kd.N_drewN | apply Kd.N_drew)); exact Kd.N_mono HO387.out (fun _ hk => ⟨hk.2.1, hk.2.2⟩))); (case aS => exact (below_size (by repeat (first | (with_reducible first | exact HB.out | apply below_alloc | apply pw_below_drewN | apply below_drew1) | exact HB.out)))); (case aL => have := LMc30.out; omega); intro v389 w77 ho hb hg hat; rw [← Ny388.out] at ho; have n0_ := Aside0.mk (Kd.N_afterv (ok := (fun k_ => some k_ ≠ (v367 : Value).ownBlock ∧ some k_ ≠ (v383 : Value).ownBlock)) (by (with_reducible repeat (first | apply Kd.N_alloc | apply Kd.N_drewN | apply Kd.N_drew)); exact HO_8.out) hg hat); have n1_ := Aside0.mk (Kd.N_afterv (ok := (fun k_ => some k_ ≠ (.slice Ao78 t361.length co78 : Value).ownBlock ∧ some k_ ≠ (v383 : Value).ownBlock)) (by (with_reducible repeat (first | apply Kd.N_alloc | apply Kd.N_drewN | apply Kd.N_drew)); exact HO_10.out) hg hat); have n2_ := Aside0.mk (Kd.N_afterv (ok := (fun k_ => some k_ ≠ (.slice Ao78 t361.length co78 : Value).ownBlock ∧ some k_ ≠ (v367 : Value).ownBlock)) (by (with_reducible repeat (first | apply Kd.N_alloc | apply Kd.N_drewN | apply Kd.N_drew)); exact HO_12.out) hg hat); have n3_ := Aside0.mk (hb); have n4_ := Aside0.mk (ho); clear HO_8; clear HO_10; clear HO_12; clear HB; clear HO387; have HO_8 := n0_; have HO_10 := n1_; have HO_12 := n2_; have HB := n3_; have HO390 := n4_; clear n0_ n1_ n2_ n3_ n4_; clear ho hb hg hat; obtain ⟨Ao80, co80, eo80⟩ := Kd.N_slice HO_10.out; subst eo80) | ((with_reducible refine gate_builtin (b := .append) (xs := #[.tmp 68, .tmp 69]) rfl ?_); (try (refine gate_guard (by rfl) ?_; dsimp only)); at_builtin; refine Kd.N_append_rows k36 (w0 := w) w.heap.size rfl (.tmp 68) (.tmp 69) 24 36 (.agg #[(.slice none 0 0), (.slice none 0 0)]) 48 rfl Try.underlying24 info36 rfl (by decide) (by omega) v389 y388 t365 _ _ _ (fun k_ => some k_ ≠ (v383 : Value).ownBlock) (fun k_ => ((fun k_ => some k_ ≠ (v383 : Value).ownBlock)) k_ ∧ some k_ ≠ (v389 : Value).ownBlock) rfl rfl ?aO ?aR (fun _ hk => hk) ?aF ?aB ?aS ?aL ?_; (case aR => exact (by skip; exact Kd.N_F (Kd.N_mono (ok' := (fun k_ => ((fun k_ => some k_ ≠ (v383 : Value).ownBlock)) k_ ∧ some k_ ≠ (v389 : Value).ownBlock)) (HO_10.out) (fun k_ hk => ⟨hk.1.2, hk.2⟩)))); (case aB => exact (by repeat (first | (with_reducible first | exact HB.out | apply below_alloc | apply pw_below_drewN | apply below_drew1) | exact HB.out))); (case aF => exact (fun k_ hk => Kd.fresh' (Kd.N_lt (by (with_reducible repeat (first | apply Kd.N_alloc | apply Kd.N_drewN | apply Kd.N_drew)); exact HO_12.out)) k_ hk)); (case aO => exact (by (with_reducible repeat (first | apply Kd.N_alloc | apply Kd.N_drewN | apply Kd.N_drew)); exact Kd.N_mono HO390.out (fun _ hk => hk.2))); (case aS => exact (below_size (by repeat (first | (with_reducible first | exact HB.out | apply below_alloc | apply pw_below_drewN | apply below_drew1) | exact HB.out)))); (case aL => have := LMc31.out; omega); intro v392 w79 ho hb hg hat; rw [← Ny391.out] at ho; have n0_ := Aside0.mk (Kd.N_afterv (ok := (fun k_ => some k_ ≠ (.slice Ao80 t365.length co80 : Value).ownBlock ∧ some k_ ≠ (v383 : Value).ownBlock)) (by (with_reducible repeat (first | apply Kd.N_alloc | apply Kd.N_drewN | apply Kd.N_drew)); exact HO_8.out) hg hat); have n1_ := Aside0.mk (Kd.N_afterv (ok := (fun k_ => some k_ ≠ (.slice Ao78 t361.length co78 : Value).ownBlock ∧ some k_ ≠ (v383 : Value).ownBlock)) (by (with_reducible repeat (first | apply Kd.N_alloc | apply Kd.N_drewN | apply Kd.N_drew)); exact HO_10.out) hg hat); have n2_ := Aside0.mk (Kd.N_afterv (ok := (fun k_ => some k_ ≠ (.slice Ao78 t361.length co78 : Value).ownBlock ∧ some k_ ≠ (.slice Ao80 t365.length co80 : Value).ownBlock)) (by (with_reducible repeat (first | apply Kd.N_alloc | apply Kd.N_drewN | apply Kd.N_drew)); exact HO_12.out) hg hat); have n3_ := Aside0.mk (hb); have n4_ := Aside0.mk (ho); clear HO_8; clear HO_10; clear HO_12; clear HB; clear HO390; have HO_8 := n0_; have HO_10 := n1_; have HO_12 := n2_; have HB := n3_; have HO393 := n4_; clear n0_ n1_ n2_ n3_ n4_; clear ho hb hg hat; obtain ⟨Ao81, co81, eo81⟩ := Kd.N_slice HO393.out; subst eo81) | (go_at_call 17; (with_reducible refine (text_Check.calls kj14 _ _ y391 t394 _ ?side1 ?side2 A74.out).mono ?_); (case side1 => repeat (first | exact (Kd.N_reads' HO393.out).2.2 | (with_reducible apply Kd.C_alloc) | (with_reducible apply Kd.C_drewN) | (with_reducible apply Kd.C_drew))); (case side2 => exact (Kd.N_reads' HO393.out).2.1); rintro e w82 ⟨rfl, hb⟩; have n0_ := Aside0.mk (Kd.N_below (by (with_reducible repeat (first | apply Kd.N_alloc | apply Kd.N_drewN | apply Kd.N_drew)); exact HO_8.out) hb); have n1_ := Aside0.mk (Kd.N_below (by (with_reducible repeat (first | apply Kd.N_alloc | apply Kd.N_drewN | apply Kd.N_drew)); exact HO_10.out) hb); have n2_ := Aside0.mk (Kd.N_below (by (with_reducible repeat (first | apply Kd.N_alloc | apply Kd.N_drewN | apply Kd.N_drew)); exact HO_12.out) hb); have n3_ := Aside0.mk (Kd.N_below (by (with_reducible repeat (first | apply Kd.N_alloc | apply Kd.N_drewN | apply Kd.N_drew)); exact HO393.out) hb); have n4_ := Aside0.mk (below_step (by repeat (first | (with_reducible first | exact HB.out | apply below_alloc | apply pw_below_drewN | apply below_drew1) | exact HB.out)) hb); clear HO_8; clear HO_10; clear HO_12; clear HO393; clear HB; have HO_8 := n0_; have HO_10 := n1_; have HO_12 := n2_; have HO393 := n3_; have HB := n4_; clear n0_ n1_ n2_ n3_ n4_; (try clear hb); (try clear hb2); (try clear hk); (try clear hi)))
              go_ret
              exact ⟨by first | rfl | (simp [errW_none, errW_some] <;> rfl) | (simp [*, errW_none, errW_some] <;> rfl), by repeat (first | (with_reducible first | exact HB.out | apply below_alloc | apply pw_below_drewN | apply below_drew1) | exact HB.out)⟩
             ·replace c73 := Bool.eq_false_iff.mpr c73
              subst c73
              have H1 : (none) = some r := by rw [if_neg (show ¬ (false = true) by decide)] at H; exact H
              clear H
              have H := H1
              clear H1
              exact absurd H (by simp)
           ·rw [if_neg c31] at H
            exact absurd H (by simp)
          ·rw [if_neg c30] at H
           exact absurd H (by simp)
      ·rw [if_neg c13] at H
       exact absurd H (by simp)
     ·rw [if_neg c12] at H
      exact absurd H (by simp)
    ·rw [if_neg c11] at H
     exact absurd H (by simp)

/-- THE ONE PURE STATEMENT of compositorlaw13_TextJoins: yours. -/
def compositorlaw13_TextJoins.PureP : Prop := ∀ (l0 : List Int) (l1 : List Int) (a2 : Int), l0.length ≤ maxLen → l0.length * 1 ≤ 140737488351232 → (∀ x ∈ l0, (Lit.int .u8 x).wf = true) → l1.length ≤ maxLen → l1.length * 1 ≤ 140737488351232 → (∀ x ∈ l1, (Lit.int .u8 x).wf = true) → (Lit.int .u8 a2).wf = true → ∃ k, compositorlaw13_TextJoins.f k l0 l1 a2 = some true
theorem compositorlaw13_TextJoins.walk (P : compositorlaw13_TextJoins.PureP) (a0 : Option Addr) (len0 cap0 : Nat) (z0 : List Int) (a1 : Option Addr) (len1 cap1 : Nat) (z1 : List Int) (a2 : Int) (w : World) (w0 : (a0 = none ∧ len0 = 0 ∧ cap0 = 0 ∧ z0 = []) ∨ ∃ x, a0 = some x ∧ len0 ≤ cap0 ∧ cap0 ≤ maxLen ∧ z0.length = cap0 ∧ (∀ i, i < z0.length → w.cell? (x.add i) = some (.int .u8 (z0.getD i 0))) ∧ ∀ n ∈ z0, (Lit.int .u8 n).wf = true) (y0 : len0 * 1 ≤ 140737488351232) (w1 : (a1 = none ∧ len1 = 0 ∧ cap1 = 0 ∧ z1 = []) ∨ ∃ x, a1 = some x ∧ len1 ≤ cap1 ∧ cap1 ≤ maxLen ∧ z1.length = cap1 ∧ (∀ i, i < z1.length → w.cell? (x.add i) = some (.int .u8 (z1.getD i 0))) ∧ ∀ n ∈ z1, (Lit.int .u8 n).wf = true) (y1 : len1 * 1 ≤ 140737488351232) (w2 : (Lit.int .u8 a2).wf = true) :
  Calls Try.prog 8 #[.slice a0 len0 cap0, .slice a1 len1 cap1, .int .u8 a2] w fun e w' => e = .returned (.bool true) ∧ Below w.heap.size w w' := by
 obtain ⟨l0, rfl, hr0, hm0, hw0, hc0⟩ := ReadsInt.ofRowC w0
 obtain ⟨l1, rfl, hr1, hm1, hw1, hc1⟩ := ReadsInt.ofRowC w1
 obtain ⟨k, h⟩ := P l0 l1 a2 hm0 y0 hw0 hm1 y1 hw1 w2
 refine (compositorlaw13_TextJoins.calls k _ _ l0 _ _ l1 a2 true w (Kd.C_of_reads (d := (0 : Int)) (h1 := fun _ => rfl) hr0) hc0 (Kd.C_of_reads (d := (0 : Int)) (h1 := fun _ => rfl) hr1) hc1 h).mono ?_
 rintro e w' ⟨rfl, hd⟩
 exact ⟨rfl, hd⟩

end Go.Proofs.Ytanhafkoohnjhaa.G
