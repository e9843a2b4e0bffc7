/- Contracts of the functions of this seat: what each call computes, as a plain Lean function. Made by this session's own generator. -/
import Derived.Test.YtlkoaiogdkmglaaGx0
import Derived.Test.YtlkoaiogdkmglaaGx3
import Derived.Test.YtlkoaiogdkmglaaGx5
import Derived.Test.YtlkoaiogdkmglaaGx6
import Derived.Test.YtlkoaiogdkmglaaGx7
import Derived.Test.YtlkoaiogdkmglaaGx8
namespace Go.Proofs.Ytlkoaiogdkmglaa.G
open Go.RowKit Go.Proofs.YtlkoaiogdkmglaaW.PrintWords Go.Proofs.YtlkoaiogdkmglaaW.PrintLast Go.Proofs.YtlkoaiogdkmglaaW.PrintMore
attribute [local go_sem] max2_int min2_int max_two min_two max_three min_three max_four min_four   -- for this text's walks alone
set_option linter.unusedVariables false
set_option linter.unusedSimpArgs false

/-! ### compositorlaw06_PackBack: function 5 -/
def compositorlaw06_PackBack.j0 : Nat → Int → List Int → Bool → Int → Option (Bool)
  | 0, _, _, _, _ => none
  | k + 1, x0, x2, x7, x8 => (pack_PutFix.f k ([] : List Int) (wrap64 (wrap32 (x0)))).bind fun bt242 => ((some (([] : List Int) : List Int)).bind fun y246 => (if y246.length + bt242.1.length < 140737488355328 then ((some (y246 ++ bt242.1 : List Int)).bind fun y249 => (if y249.length + x2.length < 140737488355328 then ((pack_TakeFix.f k (y249 ++ x2)).bind fun bt255 => ((pack_Take.f k x2 x8).bind fun bt260 => ((pack_Put.f k ([] : List Int) bt260.1 x8).bind fun bt265 => (if bt260.2.2 = 0 then (if bt265.2 = 0 then ((some (([] : List Int) : List Int)).bind fun y269 => (if y269.length + bt265.1.length < 140737488355328 then ((some (y269 ++ bt265.1 : List Int)).bind fun y272 => (if y272.length + bt260.2.1.length < 140737488355328 then (if x7 = true then (if bt242.2 = 0 then (if bt255.2.2 = 0 then (if bt255.1 = (wrap64 (wrap32 (x0))) then (if (strOfNums bt255.2.1).toList = (strOfNums x2).toList then (if (strOfNums (y272 ++ bt260.2.1)).toList = (strOfNums x2).toList then (some ((bt260.2.2 == 0) == (decide ((x2.length : Int) ≥ x8)))) else (none)) else (none)) else (none)) else (none)) else (none)) else (none)) else (none))) else (none))) else (if x7 = true then (if bt242.2 = 0 then (if bt255.2.2 = 0 then (if bt255.1 = (wrap64 (wrap32 (x0))) then (if (strOfNums bt255.2.1).toList = (strOfNums x2).toList then (none) else (none)) else (none)) else (none)) else (none)) else (none))) else (if x7 = true then (if bt242.2 = 0 then (if bt255.2.2 = 0 then (if bt255.1 = (wrap64 (wrap32 (x0))) then (if (strOfNums bt255.2.1).toList = (strOfNums x2).toList then (some ((bt260.2.2 == 0) == (decide ((x2.length : Int) ≥ x8)))) else (none)) else (none)) else (none)) else (none)) else (none)))))) else (none))) else (none)))
def compositorlaw06_PackBack.f (k : Nat) (a0 : Int) (a1 : Int) (l2 : List Int) : Option (Bool) := (compositorlaw06_awake.f k).bind fun t223 => (if (l2.length : Int) > 1000 then (some t223) else ((pack_Put.f k ([] : List Int) (wrap64 (a0)) (wrap64 (1 + (wrap64 (Int.tmod a1 4))))).bind fun bt224 => (if bt224.2 = 0 then ((some (([] : List Int) : List Int)).bind fun y228 => (if y228.length + bt224.1.length < 140737488355328 then ((some (y228 ++ bt224.1 : List Int)).bind fun y231 => (if y231.length + l2.length < 140737488355328 then ((pack_Take.f k (y231 ++ l2) (wrap64 (1 + (wrap64 (Int.tmod a1 4))))).bind fun bt237 => (if bt237.2.2 = 0 then (if bt237.1 = (wrap64 (a0)) then (if (strOfNums bt237.2.1).toList = (strOfNums l2).toList then (if (bt224.1.length : Int) = (wrap64 (1 + (wrap64 (Int.tmod a1 4)))) then (compositorlaw06_PackBack.j0 k a0 l2 t223 (wrap64 (1 + (wrap64 (Int.tmod a1 4))))) else (none)) else (none)) else (none)) else (none))) else (none))) else (none))) else (compositorlaw06_PackBack.j0 k a0 l2 t223 (wrap64 (1 + (wrap64 (Int.tmod a1 4))))))))
theorem compositorlaw06_PackBack.mono_l : ∀ k, (∀ y0 y1 y2 y3, LeO (compositorlaw06_PackBack.j0 k y0 y1 y2 y3) (compositorlaw06_PackBack.j0 (k + 1) y0 y1 y2 y3))
  | 0 => fun _ _ _ _ r h => by simp [compositorlaw06_PackBack.j0] at h
  | k + 1 => by
    have ih0 := compositorlaw06_PackBack.mono_l k
    · intro y0 y1 y2 y3
      unfold compositorlaw06_PackBack.j0
      repeat' first
      | (with_reducible exact ih0 _ _ _ _)
      | (with_reducible exact compositorlaw06_awake.mono _)
      | (with_reducible exact pack_Put.mono _ _ _ _)
      | (with_reducible exact pack_PutFix.mono _ _ _)
      | (with_reducible exact pack_Take.mono _ _ _)
      | (with_reducible exact pack_TakeFix.mono _ _)
      | (with_reducible exact LeO.refl _)
      | (with_reducible exact LeO.none _)
      | (with_reducible refine LeO.ite ?_ ?_)
      | (with_reducible refine LeO.bind ?_ (fun _ => ?_))
      | exact ih0 _ _ _ _
      | exact compositorlaw06_awake.mono _
      | exact pack_Put.mono _ _ _ _
      | exact pack_PutFix.mono _ _ _
      | exact pack_Take.mono _ _ _
      | exact pack_TakeFix.mono _ _
      | exact LeO.none _
      | refine LeO.ite ?_ ?_
      | refine LeO.bind ?_ (fun _ => ?_)
theorem compositorlaw06_PackBack.mono : ∀ a0 a1 a2 k, LeO (compositorlaw06_PackBack.f k a0 a1 a2) (compositorlaw06_PackBack.f (k + 1) a0 a1 a2) := by
  intro a0 a1 a2 k
  have ih0 := compositorlaw06_PackBack.mono_l k
  unfold compositorlaw06_PackBack.f
  repeat' first
      | (with_reducible exact ih0 _ _ _ _)
      | (with_reducible exact compositorlaw06_awake.mono _)
      | (with_reducible exact pack_Put.mono _ _ _ _)
      | (with_reducible exact pack_PutFix.mono _ _ _)
      | (with_reducible exact pack_Take.mono _ _ _)
      | (with_reducible exact pack_TakeFix.mono _ _)
      | (with_reducible exact LeO.refl _)
      | (with_reducible exact LeO.none _)
      | (with_reducible refine LeO.ite ?_ ?_)
      | (with_reducible refine LeO.bind ?_ (fun _ => ?_))
      | exact ih0 _ _ _ _
      | exact compositorlaw06_awake.mono _
      | exact pack_Put.mono _ _ _ _
      | exact pack_PutFix.mono _ _ _
      | exact pack_Take.mono _ _ _
      | exact pack_TakeFix.mono _ _
      | exact LeO.none _
      | refine LeO.ite ?_ ?_
      | refine LeO.bind ?_ (fun _ => ?_)
def compositorlaw06_PackBack.T14 : Bool × List (List Nat × List Nat) := (true, [([], []), ([0], [0]), ([1], [1]), ([2], [2]), ([3, 2], [2, 3]), ([4, 2, 2], [2, 4]), ([5], [5]), ([5], [5]), ([6, 7, 5, 5], [5, 6, 7]), ([5], [5]), ([8, 9, 8, 5], [5, 8, 9]), ([10, 5], [5, 10]), ([5], [5]), ([12, 5], [5, 12]), ([11, 13, 5], [5, 11, 13]), ([5, 14, 2], [2, 5, 14]), ([2, 15], [2, 15]), ([16, 10, 0, 1, 2, 3, 4, 5, 6, 7, 8, 9, 10, 11, 12, 13, 14, 15, 16], [16])])
def compositorlaw06_PackBack.B14 : List Nat := [0, 1, 3, 7, 15, 31, 63, 63, 255, 63, 1023, 2047, 63, 4159, 16383, 32767, 65535, 131071]
theorem compositorlaw06_PackBack.tab14 : rtab .any (opsOf Try.f5 14) = compositorlaw06_PackBack.T14 := by kernel_rfl
theorem compositorlaw06_PackBack.bits14 : waitsOk compositorlaw06_PackBack.T14.2 compositorlaw06_PackBack.B14 = true := by kernel_rfl
set_option maxHeartbeats 8000000 in
set_option maxRecDepth 100000 in
theorem compositorlaw06_PackBack.calls (k : Nat) (a0 : Int) (a1 : Int) (A2 : Option Addr) (c2 : Nat) (l2 : List Int) (r : Bool) (w : World) (hr2 : Kd.C (Kd.int .u8) w A2 l2.length l2) (hc2 : l2.length ≤ c2) (h : compositorlaw06_PackBack.f k a0 a1 l2 = some r) :
    Calls Try.prog 5 #[.int .u32 a0, .int .u8 a1, .slice A2 l2.length c2] w fun e w' => e = .returned (.bool r) ∧ Below w.heap.size w w' := by
  have HR2 := Aside0.mk hr2
  have HC2 := Aside0.mk hc2
  clear hr2 hc2
  have HB := Aside0.mk (Below.refl w.heap.size w)
  have H : ((compositorlaw06_awake.f k).bind fun t223 => (if (l2.length : Int) > 1000 then (some t223) else ((pack_Put.f k ([] : List Int) (wrap64 (a0)) (wrap64 (1 + (wrap64 (Int.tmod a1 4))))).bind fun bt224 => (if bt224.2 = 0 then ((some (([] : List Int) : List Int)).bind fun y228 => (if y228.length + bt224.1.length < 140737488355328 then ((some (y228 ++ bt224.1 : List Int)).bind fun y231 => (if y231.length + l2.length < 140737488355328 then ((pack_Take.f k (y231 ++ l2) (wrap64 (1 + (wrap64 (Int.tmod a1 4))))).bind fun bt237 => (if bt237.2.2 = 0 then (if bt237.1 = (wrap64 (a0)) then (if (strOfNums bt237.2.1).toList = (strOfNums l2).toList then (if (bt224.1.length : Int) = (wrap64 (1 + (wrap64 (Int.tmod a1 4)))) then (compositorlaw06_PackBack.j0 k a0 l2 t223 (wrap64 (1 + (wrap64 (Int.tmod a1 4))))) else (none)) else (none)) else (none)) else (none))) else (none))) else (none))) else (compositorlaw06_PackBack.j0 k a0 l2 t223 (wrap64 (1 + (wrap64 (Int.tmod a1 4))))))))) = some r := h
  clear h
  replace H := Option.bind_eq_some_iff.mp H
  obtain ⟨t223, A40, H⟩ := H
  replace H : (if (l2.length : Int) > 1000 then (some t223) else ((pack_Put.f k ([] : List Int) (wrap64 (a0)) (wrap64 (1 + (wrap64 (Int.tmod a1 4))))).bind fun bt224 => (if bt224.2 = 0 then ((some (([] : List Int) : List Int)).bind fun y228 => (if y228.length + bt224.1.length < 140737488355328 then ((some (y228 ++ bt224.1 : List Int)).bind fun y231 => (if y231.length + l2.length < 140737488355328 then ((pack_Take.f k (y231 ++ l2) (wrap64 (1 + (wrap64 (Int.tmod a1 4))))).bind fun bt237 => (if bt237.2.2 = 0 then (if bt237.1 = (wrap64 (a0)) then (if (strOfNums bt237.2.1).toList = (strOfNums l2).toList then (if (bt224.1.length : Int) = (wrap64 (1 + (wrap64 (Int.tmod a1 4)))) then (compositorlaw06_PackBack.j0 k a0 l2 t223 (wrap64 (1 + (wrap64 (Int.tmod a1 4))))) else (none)) else (none)) else (none)) else (none))) else (none))) else (none))) else (compositorlaw06_PackBack.j0 k a0 l2 t223 (wrap64 (1 + (wrap64 (Int.tmod a1 4)))))))) = some r := H
  have A4 := Aside0.mk A40
  clear A40
  by_cases c5 : (l2.length : Int) > 1000
  · rw [if_pos c5] at H
    have c5b0 : decide (1000 < (l2.length : Int)) = true := decide_eq_true c5
    have c5b1 : decide (1000 < l2.length) = true := decide_eq_true (by omega)
    clear c5
    obtain rfl := Option.some.inj H
    go_enter Try.func5, Try.ntmps5
    go_wp2_with (first | ((with_reducible refine gate_callee (f := 9) rfl ?_); refine goesL_ (some 25) rfl rfl Try.func9 (by kernel_rfl) rfl #[] rfl (by (try simp only [List.map_toArray, List.map_cons, List.map_nil]); first | done | rfl | (simp only [List.length_drop, List.length_take]; rfl)) ?_; (with_reducible refine (compositorlaw06_awake.calls k  t223 _ A4.out).mono ?_); rintro e w6 ⟨rfl, hb⟩; refine ⟨_, rfl, ?_⟩; have n0_ := Aside0.mk (below_step (by repeat (first | (with_reducible first | exact HB.out | apply below_alloc | apply pw_below_drewN | apply below_drew1) | exact HB.out)) hb); clear HB; have HB := n0_; clear n0_; (try clear hb); (try clear hb2); (try clear hk); (try clear hi)))
    go_ret
    exact ⟨by first | rfl | (simp [errW_none, errW_some] <;> rfl) | (simp [*, errW_none, errW_some] <;> rfl), by repeat (first | (with_reducible first | exact HB.out | apply below_alloc | apply pw_below_drewN | apply below_drew1) | exact HB.out)⟩
  · rw [if_neg c5] at H
    have c5b0 : decide (1000 < (l2.length : Int)) = false := decide_eq_false c5
    have c5b1 : decide (1000 < l2.length) = false := decide_eq_false (by omega)
    clear c5
    replace H := Option.bind_eq_some_iff.mp H
    obtain ⟨⟨t224, t225⟩, A70, H⟩ := H
    replace H : (if t225 = 0 then ((some (([] : List Int) : List Int)).bind fun y228 => (if y228.length + t224.length < 140737488355328 then ((some (y228 ++ t224 : List Int)).bind fun y231 => (if y231.length + l2.length < 140737488355328 then ((pack_Take.f k (y231 ++ l2) (wrap64 (1 + (wrap64 (Int.tmod a1 4))))).bind fun bt237 => (if bt237.2.2 = 0 then (if bt237.1 = (wrap64 (a0)) then (if (strOfNums bt237.2.1).toList = (strOfNums l2).toList then (if (t224.length : Int) = (wrap64 (1 + (wrap64 (Int.tmod a1 4)))) then (compositorlaw06_PackBack.j0 k a0 l2 t223 (wrap64 (1 + (wrap64 (Int.tmod a1 4))))) else (none)) else (none)) else (none)) else (none))) else (none))) else (none))) else (compositorlaw06_PackBack.j0 k a0 l2 t223 (wrap64 (1 + (wrap64 (Int.tmod a1 4)))))) = some r := H
    have A7 := Aside0.mk A70
    clear A70
    have HC8 := Aside0.mk H
    clear H
    go_enter Try.func5, Try.ntmps5
    go_upto_if 42 with (first | ((with_reducible refine gate_callee (f := 9) rfl ?_); refine goesL_ (some 25) rfl rfl Try.func9 (by kernel_rfl) rfl #[] rfl (by (try simp only [List.map_toArray, List.map_cons, List.map_nil]); first | done | rfl | (simp only [List.length_drop, List.length_take]; rfl)) ?_; (with_reducible refine (compositorlaw06_awake.calls k  t223 _ A4.out).mono ?_); rintro e w9 ⟨rfl, hb⟩; refine ⟨_, rfl, ?_⟩; have n0_ := Aside0.mk (below_step (by repeat (first | (with_reducible first | exact HB.out | apply below_alloc | apply pw_below_drewN | apply below_drew1) | exact HB.out)) hb); clear HB; have HB := n0_; clear n0_; (try clear hb); (try clear hb2); (try clear hk); (try clear hi)) | ((with_reducible refine gate_callee (f := 10) rfl ?_); refine goesL_ (some 38) rfl rfl Try.func10 (by kernel_rfl) rfl #[.slice none 0 0, .int .i64 (wrap64 (a0)), .int .i64 (wrap64 (1 + (wrap64 (Int.tmod a1 4))))] rfl (by (try simp only [List.map_toArray, List.map_cons, List.map_nil]); first | done | rfl | (simp only [List.length_drop, List.length_take]; rfl)) ?_; (refine (pack_Put.calls k _ _ ([] : List Int) (wrap64 (a0)) (wrap64 (1 + (wrap64 (Int.tmod a1 4)))) t224 t225 _ ?side1 ?side2 A7.out).mono ?_); (case side1 => exact Kd.C_nil _ _); (case side2 => exact Nat.le_refl _); rintro e w10 ⟨v226, rfl, ho0, hb⟩; refine ⟨_, rfl, ?_⟩; have n0_ := Aside0.mk (Kd.R_lower ho0 (below_size (by repeat (first | (with_reducible first | exact HB.out | apply below_alloc | apply pw_below_drewN | apply below_drew1) | exact HB.out)))); have n1_ := Aside0.mk (below_step (by repeat (first | (with_reducible first | exact HB.out | apply below_alloc | apply pw_below_drewN | apply below_drew1) | exact HB.out)) hb); clear HB; have HO227 := n0_; have HB := n1_; clear n0_ n1_; (try clear hb); (try clear hb2); (try clear hk); (try clear hi); (try clear ho0)))
    (try simp only [Act.put, List.setIfInBounds_toArray, List.set_cons_zero, List.set_cons_succ])
    go_cut [] (fun wc => ∃ (kq : Nat), Aside0 (compositorlaw06_PackBack.j0 kq a0 l2 t223 (wrap64 (1 + (wrap64 (Int.tmod a1 4)))) = some r) ∧ Aside0 (kq ≤ k) ∧ Aside0 (Below w.heap.size w wc))
    case first =>
      have H := HC8.out
      clear HC8
      by_cases c11 : t225 = 0
      · rw [if_pos c11] at H
        have c11b0 : (t225 == 0) = true := beq_iff_eq.mpr c11
        have c11b1 : (t225 != 0) = false := bne_eq_false_iff_eq.mpr c11
        clear c11
        (first | rw [c11b0] | (simp only [i64_w, i32_w]; rw [c11b0]) | skip)
        obtain ⟨y228, hy228⟩ : ∃ y_ : List Int, y_ = (([] : List Int)) := ⟨_, rfl⟩
        replace H : (if y228.length + t224.length < 140737488355328 then ((some (y228 ++ t224 : List Int)).bind fun y231 => (if y231.length + l2.length < 140737488355328 then ((pack_Take.f k (y231 ++ l2) (wrap64 (1 + (wrap64 (Int.tmod a1 4))))).bind fun bt237 => (if bt237.2.2 = 0 then (if bt237.1 = (wrap64 (a0)) then (if (strOfNums bt237.2.1).toList = (strOfNums l2).toList then (if (t224.length : Int) = (wrap64 (1 + (wrap64 (Int.tmod a1 4)))) then (compositorlaw06_PackBack.j0 k a0 l2 t223 (wrap64 (1 + (wrap64 (Int.tmod a1 4))))) else (none)) else (none)) else (none)) else (none))) else (none))) else (none)) = some r := by first | (rw [hy228]; with_reducible exact H) | (have H2_ := (Option.bind_some _ _).symm.trans H; rw [hy228]; with_reducible exact H2_) | (have H2_ := (Option.bind_some _ _).symm.trans H; with_reducible exact H2_) | with_reducible exact H | (rw [hy228]; exact H) | exact H
        have Ny228 := Aside0.mk hy228
        clear hy228
        by_cases c12 : y228.length + t224.length < 140737488355328
        · rw [if_pos c12] at H
          have LMc12 := Aside0.mk c12
          clear c12
          obtain ⟨y231, hy231⟩ : ∃ y_ : List Int, y_ = (y228 ++ t224) := ⟨_, rfl⟩
          replace H : (if y231.length + l2.length < 140737488355328 then ((pack_Take.f k (y231 ++ l2) (wrap64 (1 + (wrap64 (Int.tmod a1 4))))).bind fun bt237 => (if bt237.2.2 = 0 then (if bt237.1 = (wrap64 (a0)) then (if (strOfNums bt237.2.1).toList = (strOfNums l2).toList then (if (t224.length : Int) = (wrap64 (1 + (wrap64 (Int.tmod a1 4)))) then (compositorlaw06_PackBack.j0 k a0 l2 t223 (wrap64 (1 + (wrap64 (Int.tmod a1 4))))) else (none)) else (none)) else (none)) else (none))) else (none)) = some r := by first | (rw [hy231]; with_reducible exact H) | (have H2_ := (Option.bind_some _ _).symm.trans H; rw [hy231]; with_reducible exact H2_) | (have H2_ := (Option.bind_some _ _).symm.trans H; with_reducible exact H2_) | with_reducible exact H | (rw [hy231]; exact H) | exact H
          have Ny231 := Aside0.mk hy231
          clear hy231
          by_cases c13 : y231.length + l2.length < 140737488355328
          · rw [if_pos c13] at H
            have LMc13 := Aside0.mk c13
            clear c13
            obtain ⟨y234, hy234⟩ : ∃ y_ : List Int, y_ = (y231 ++ l2) := ⟨_, rfl⟩
            replace H : ((pack_Take.f k y234 (wrap64 (1 + (wrap64 (Int.tmod a1 4))))).bind fun bt237 => (if bt237.2.2 = 0 then (if bt237.1 = (wrap64 (a0)) then (if (strOfNums bt237.2.1).toList = (strOfNums l2).toList then (if (t224.length : Int) = (wrap64 (1 + (wrap64 (Int.tmod a1 4)))) then (compositorlaw06_PackBack.j0 k a0 l2 t223 (wrap64 (1 + (wrap64 (Int.tmod a1 4))))) else (none)) else (none)) else (none)) else (none))) = some r := by first | (rw [hy234]; with_reducible exact H) | (have H2_ := (Option.bind_some _ _).symm.trans H; rw [hy234]; with_reducible exact H2_) | (have H2_ := (Option.bind_some _ _).symm.trans H; with_reducible exact H2_) | with_reducible exact H | (rw [hy234]; exact H) | exact H
            have Ny234 := Aside0.mk hy234
            clear hy234
            replace H := Option.bind_eq_some_iff.mp H
            obtain ⟨⟨t237, t238, t239⟩, A140, H⟩ := H
            replace H : (if t239 = 0 then (if t237 = (wrap64 (a0)) then (if (strOfNums t238).toList = (strOfNums l2).toList then (if (t224.length : Int) = (wrap64 (1 + (wrap64 (Int.tmod a1 4)))) then (compositorlaw06_PackBack.j0 k a0 l2 t223 (wrap64 (1 + (wrap64 (Int.tmod a1 4))))) else (none)) else (none)) else (none)) else (none)) = some r := H
            have A14 := Aside0.mk A140
            clear A140
            by_cases c15 : t239 = 0
            · rw [if_pos c15] at H
              have c15b0 : (t239 == 0) = true := beq_iff_eq.mpr c15
              have c15b1 : (t239 != 0) = false := bne_eq_false_iff_eq.mpr c15
              clear c15
              by_cases c16 : t237 = (wrap64 (a0))
              · rw [if_pos c16] at H
                have c16b0 : (t237 == (wrap64 (a0))) = true := beq_iff_eq.mpr c16
                have c16b1 : (t237 != (wrap64 (a0))) = false := bne_eq_false_iff_eq.mpr c16
                (try (have c16b2 : (t237 == (IntKind.i64.wrap (a0))) = true := by simp only [i64_w]; exact (beq_iff_eq.mpr c16)))
                (try (have c16b3 : (t237 != (IntKind.i64.wrap (a0))) = false := by simp only [i64_w]; exact (bne_eq_false_iff_eq.mpr c16)))
                clear c16
                by_cases c17 : (strOfNums t238).toList = (strOfNums l2).toList
                · rw [if_pos c17] at H
                  have c17b0 : ((strOfNums t238).toList == (strOfNums l2).toList) = true := beq_iff_eq.mpr c17
                  have c17b1 : ((strOfNums t238).toList != (strOfNums l2).toList) = false := bne_eq_false_iff_eq.mpr c17
                  clear c17
                  by_cases c18 : (t224.length : Int) = (wrap64 (1 + (wrap64 (Int.tmod a1 4))))
                  · rw [if_pos c18] at H
                    have c18b0 : ((t224.length : Int) == (wrap64 (1 + (wrap64 (Int.tmod a1 4))))) = true := beq_iff_eq.mpr c18
                    have c18b1 : ((t224.length : Int) != (wrap64 (1 + (wrap64 (Int.tmod a1 4))))) = false := bne_eq_false_iff_eq.mpr c18
                    (try (have c18b2 : ((t224.length : Int) == (IntKind.i64.wrap (1 + (IntKind.i64.wrap (Int.tmod a1 4))))) = true := by simp only [i64_w]; exact (beq_iff_eq.mpr c18)))
                    (try (have c18b3 : ((t224.length : Int) != (IntKind.i64.wrap (1 + (IntKind.i64.wrap (Int.tmod a1 4))))) = false := by simp only [i64_w]; exact (bne_eq_false_iff_eq.mpr c18)))
                    clear c18
                    have H' := Aside0.mk H
                    clear H
                    go_wp2_with (first | ((with_reducible refine gate_dst (N := 44) rfl ?_); (try (refine gate_guard (by rfl) ?_; dsimp only)); refine Kd.R_lit (Kd.int .u8) _ 5 ?hg (N := 44) ?hd (xs := ([] : List Int)) (inner := []) (ok := fun _ => True) (okp := fun _ => True) ?hr ?hp (fun _ hk => hk) trivial (Below.refl _ _) (Nat.le_refl _) (by simp) ?_; (case hd => rfl); (case hg => rfl); (case hr => first | (go_simp; done) | (go_simp; rfl)); (case hp => exact (Reps.none _ _)); intro v229 w19 ho20 hb hg_ hnew_; clear hg_ hnew_; (first | rw [← Ny228.out] at ho20 | (simp only [Int.reduceToNat] at ho20; rw [← Ny228.out] at ho20)); have n0_ := Aside0.mk (Kd.R_elder' (by (with_reducible repeat (first | apply Kd.R_alloc | apply Kd.R_drewN | apply Kd.R_drew)); exact HO227.out) (Kd.R_base ho20) hb); have n1_ := Aside0.mk (Kd.R_lower (Kd.R_new' ho20 (Kd.R_lt (by (with_reducible repeat (first | apply Kd.R_alloc | apply Kd.R_drewN | apply Kd.R_drew)); exact HO227.out))) (below_size (by repeat (first | (with_reducible first | exact HB.out | apply below_alloc | apply pw_below_drewN | apply below_drew1) | exact HB.out)))); have n2_ := Aside0.mk (below_step (by repeat (first | (with_reducible first | exact HB.out | apply below_alloc | apply pw_below_drewN | apply below_drew1) | exact HB.out)) hb); clear HO227; clear HB; have HO227 := n0_; have HO230 := n1_; have HB := n2_; clear n0_ n1_ n2_; clear hb ho20; obtain ⟨Ao22, co22, eo22⟩ := Kd.R_slice HO227.out; subst eo22) | ((with_reducible refine gate_builtin (b := .append) (xs := #[.tmp 44, .tmp 45]) rfl ?_); (try (refine gate_guard (by rfl) ?_; dsimp only)); at_builtin; refine Kd.R_append_rows (Kd.int .u8) (w0 := w) w.heap.size rfl (.tmp 44) (.tmp 45) 22 5 (.int .u8 0) 1 rfl Try.underlying22 info5 rfl (by decide) (by omega) v229 y228 t224 _ _ _ (fun k_ => some k_ ≠ (.slice Ao22 t224.length co22 : Value).ownBlock) (fun _ => False) rfl rfl ?aO ?aR (fun _ _ h => h) (fun _ h => h.elim) ?aF ?aB ?aS ?aL ?_; (case aR => repeat (first | exact (Kd.R_reads' HO227.out).2.2 | (with_reducible refine Kd.C_alloc ?_ _) | (with_reducible refine Kd.C_drewN ?_ _) | (with_reducible refine Kd.C_drew ?_))); (case aB => exact (by repeat (first | (with_reducible first | exact HB.out | apply below_alloc | apply pw_below_drewN | apply below_drew1) | exact HB.out))); (case aF => exact (fun k_ hk => Kd.fresh' (Kd.R_lt (by (with_reducible repeat (first | apply Kd.R_alloc | apply Kd.R_drewN | apply Kd.R_drew)); exact HO227.out)) k_ hk)); (case aO => exact (by (with_reducible repeat (first | apply Kd.R_alloc | apply Kd.R_drewN | apply Kd.R_drew)); exact Kd.R_mono HO230.out (fun _ hk => hk.2))); (case aS => exact (below_size (by repeat (first | (with_reducible first | exact HB.out | apply below_alloc | apply pw_below_drewN | apply below_drew1) | exact HB.out)))); (case aL => have := LMc12.out; omega); intro v232 w21 ho hb hg hat; rw [← Ny231.out] at ho; have n0_ := Aside0.mk (Kd.R_after (ok := (fun _ => True)) (by (with_reducible repeat (first | apply Kd.R_alloc | apply Kd.R_drewN | apply Kd.R_drew)); exact HO227.out) hg hat); have n1_ := Aside0.mk (hb); have n2_ := Aside0.mk (ho); clear HO227; clear HB; clear HO230; have HO227 := n0_; have HB := n1_; have HO233 := n2_; clear n0_ n1_ n2_; clear ho hb hg hat) | ((with_reducible refine gate_builtin (b := .append) (xs := #[.tmp 46, .tmp 47]) rfl ?_); (try (refine gate_guard (by rfl) ?_; dsimp only)); at_builtin; refine Kd.R_append_rows (Kd.int .u8) (w0 := w) w.heap.size rfl (.tmp 46) (.tmp 47) 22 5 (.int .u8 0) 1 rfl Try.underlying22 info5 rfl (by decide) (by omega) v232 y231 l2 _ _ _ (fun k_ => some k_ ≠ (.slice Ao22 t224.length co22 : Value).ownBlock) (fun _ => False) rfl rfl ?aO ?aR (fun _ _ h => h) (fun _ h => h.elim) ?aF ?aB ?aS ?aL ?_; (case aR => repeat (first | exact (Kd.C_below HR2.out HB.out) | (with_reducible refine Kd.C_alloc ?_ _) | (with_reducible refine Kd.C_drewN ?_ _) | (with_reducible refine Kd.C_drew ?_))); (case aB => exact (by repeat (first | (with_reducible first | exact HB.out | apply below_alloc | apply pw_below_drewN | apply below_drew1) | exact HB.out))); (case aF => exact (fun k_ hk => Kd.fresh' (Kd.R_lt (by (with_reducible repeat (first | apply Kd.R_alloc | apply Kd.R_drewN | apply Kd.R_drew)); exact HO227.out)) k_ hk)); (case aO => exact (by (with_reducible repeat (first | apply Kd.R_alloc | apply Kd.R_drewN | apply Kd.R_drew)); exact HO233.out)); (case aS => exact (below_size (by repeat (first | (with_reducible first | exact HB.out | apply below_alloc | apply pw_below_drewN | apply below_drew1) | exact HB.out)))); (case aL => have := LMc13.out; omega); intro v235 w23 ho hb hg hat; rw [← Ny234.out] at ho; have n0_ := Aside0.mk (Kd.R_after (ok := (fun _ => True)) (by (with_reducible repeat (first | apply Kd.R_alloc | apply Kd.R_drewN | apply Kd.R_drew)); exact HO227.out) hg hat); have n1_ := Aside0.mk (hb); have n2_ := Aside0.mk (ho); clear HO227; clear HB; clear HO233; have HO227 := n0_; have HB := n1_; have HO236 := n2_; clear n0_ n1_ n2_; clear ho hb hg hat; obtain ⟨Ao24, co24, eo24⟩ := Kd.R_slice HO236.out; subst eo24) | ((with_reducible refine gate_callee (f := 14) rfl ?_); refine goesL_ (some 50) rfl rfl Try.func14 (by kernel_rfl) rfl #[.slice Ao24 y234.length co24, .int .i64 (wrap64 (1 + (wrap64 (Int.tmod a1 4))))] rfl (by (try simp only [List.map_toArray, List.map_cons, List.map_nil]); first | done | rfl | (simp only [List.length_drop, List.length_take]; rfl)) ?_; (with_reducible refine (pack_Take.calls k _ _ y234 (wrap64 (1 + (wrap64 (Int.tmod a1 4)))) t237 t238 t239 _ ?side1 ?side2 A14.out).mono ?_); (case side1 => repeat (first | exact (Kd.R_reads' HO236.out).2.2 | (with_reducible refine Kd.C_alloc ?_ _) | (with_reducible refine Kd.C_drewN ?_ _) | (with_reducible refine Kd.C_drew ?_))); (case side2 => exact (Kd.R_reads' HO236.out).2.1); rintro e w25 ⟨v240, rfl, ho0, hb⟩; refine ⟨_, rfl, ?_⟩; have n0_ := Aside0.mk (Kd.R_elder' (by (with_reducible repeat (first | apply Kd.R_alloc | apply Kd.R_drewN | apply Kd.R_drew)); exact HO227.out) (Kd.R_base ho0) hb); have n1_ := Aside0.mk (Kd.R_elder' (by (with_reducible repeat (first | apply Kd.R_alloc | apply Kd.R_drewN | apply Kd.R_drew)); exact HO236.out) (Kd.R_base ho0) hb); have n2_ := Aside0.mk (Kd.R_lower (Kd.R_new' (Kd.R_new' ho0 (Kd.R_lt (by (with_reducible repeat (first | apply Kd.R_alloc | apply Kd.R_drewN | apply Kd.R_drew)); exact HO227.out))) (Kd.R_lt (by (with_reducible repeat (first | apply Kd.R_alloc | apply Kd.R_drewN | apply Kd.R_drew)); exact HO236.out))) (below_size (by repeat (first | (with_reducible first | exact HB.out | apply below_alloc | apply pw_below_drewN | apply below_drew1) | exact HB.out)))); have n3_ := Aside0.mk (below_step (by repeat (first | (with_reducible first | exact HB.out | apply below_alloc | apply pw_below_drewN | apply below_drew1) | exact HB.out)) hb); clear HO227; clear HO236; clear HB; have HO227 := n0_; have HO236 := n1_; have HO241 := n2_; have HB := n3_; clear n0_ n1_ n2_ n3_; (try clear hb); (try clear hb2); (try clear hk); (try clear hi); (try clear ho0); have hcv26 := own_string (P := Try.prog) Try.underlying22 Try.underlying5 Try.underlying9 (Kd.own_of_R HO241.out); have hcvq26 := fun n_ : Nat => own_string (P := Try.prog) Try.underlying22 Try.underlying5 Try.underlying9 (Kd.own_of_R (Kd.R_drewN HO241.out n_)); have hcv27 := Kd.C_string (P := Try.prog) (A := A2) (c := c2) Try.underlying22 Try.underlying5 Try.underlying9 (Kd.C_below HR2.out HB.out); have hcvq27 := fun n_ : Nat => Kd.C_string (P := Try.prog) (A := A2) (c := c2) Try.underlying22 Try.underlying5 Try.underlying9 (Kd.C_drewN (Kd.C_below HR2.out HB.out) n_)))
                    go_meet
                    case rel => exact ⟨_, H', ⟨by first | omega | exact Nat.le_refl _⟩, ⟨by repeat (first | (with_reducible first | exact HB.out | apply below_alloc | apply pw_below_drewN | apply below_drew1) | exact HB.out)⟩⟩
                  · rw [if_neg c18] at H
                    exact absurd H (by simp)
                · rw [if_neg c17] at H
                  exact absurd H (by simp)
              · rw [if_neg c16] at H
                exact absurd H (by simp)
            · rw [if_neg c15] at H
              exact absurd H (by simp)
          · rw [if_neg c13] at H
            exact absurd H (by simp)
        · rw [if_neg c12] at H
          exact absurd H (by simp)
      · rw [if_neg c11] at H
        have c11b0 : (t225 == 0) = false := beq_eq_false_iff_ne.mpr c11
        have c11b1 : (t225 != 0) = true := bne_iff_ne.mpr c11
        (first | rw [c11b0] | (simp only [i64_w, i32_w]; rw [c11b0]) | skip)
        have H' := Aside0.mk H
        clear H
        go_wp2
        go_meet
        case rel => exact ⟨_, H', ⟨by first | omega | exact Nat.le_refl _⟩, ⟨by repeat (first | (with_reducible first | exact HB.out | apply below_alloc | apply pw_below_drewN | apply below_drew1) | exact HB.out)⟩⟩
    case rest =>
      clear HC8
      try clear c1
      try clear c2
      try clear p2
      try clear q2
      try clear hcv2
      try clear hcvq2
      try clear c5
      try clear c5b0
      try clear c5b1
      try clear p6
      try clear c9
      try clear c10
      try clear c11
      try clear c11b0
      try clear c11b1
      try clear c12
      try clear c13
      try clear c14
      try clear c15
      try clear c15b0
      try clear c15b1
      try clear c16
      try clear c16b0
      try clear c16b1
      try clear c16b2
      try clear c17
      try clear c17b0
      try clear c17b1
      try clear c18
      try clear c18b0
      try clear c18b1
      try clear c18b2
      try clear q26
      try clear hcv26
      try clear hcvq26
      try clear q27
      try clear hcv27
      try clear hcvq27
      obtain ⟨kq, HA, HJ7, HB⟩ := hcut
      cases kq with
      | zero => exact absurd HA.out (by simp [compositorlaw06_PackBack.j0])
      | succ kj7 =>
        have H := HA.out
        clear HA
        simp only [compositorlaw06_PackBack.j0] at H
        replace H := Option.bind_eq_some_iff.mp H
        obtain ⟨⟨t242, t243⟩, A280, H⟩ := H
        replace H : ((some (([] : List Int) : List Int)).bind fun y246 => (if y246.length + t242.length < 140737488355328 then ((some (y246 ++ t242 : List Int)).bind fun y249 => (if y249.length + l2.length < 140737488355328 then ((pack_TakeFix.f kj7 (y249 ++ l2)).bind fun bt255 => ((pack_Take.f kj7 l2 (wrap64 (1 + (wrap64 (Int.tmod a1 4))))).bind fun bt260 => ((pack_Put.f kj7 ([] : List Int) bt260.1 (wrap64 (1 + (wrap64 (Int.tmod a1 4))))).bind fun bt265 => (if bt260.2.2 = 0 then (if bt265.2 = 0 then ((some (([] : List Int) : List Int)).bind fun y269 => (if y269.length + bt265.1.length < 140737488355328 then ((some (y269 ++ bt265.1 : List Int)).bind fun y272 => (if y272.length + bt260.2.1.length < 140737488355328 then (if t223 = true then (if t243 = 0 then (if bt255.2.2 = 0 then (if bt255.1 = (wrap64 (wrap32 (a0))) then (if (strOfNums bt255.2.1).toList = (strOfNums l2).toList then (if (strOfNums (y272 ++ bt260.2.1)).toList = (strOfNums l2).toList then (some ((bt260.2.2 == 0) == (decide ((l2.length : Int) ≥ (wrap64 (1 + (wrap64 (Int.tmod a1 4)))))))) else (none)) else (none)) else (none)) else (none)) else (none)) else (none)) else (none))) else (none))) else (if t223 = true then (if t243 = 0 then (if bt255.2.2 = 0 then (if bt255.1 = (wrap64 (wrap32 (a0))) then (if (strOfNums bt255.2.1).toList = (strOfNums l2).toList then (none) else (none)) else (none)) else (none)) else (none)) else (none))) else (if t223 = true then (if t243 = 0 then (if bt255.2.2 = 0 then (if bt255.1 = (wrap64 (wrap32 (a0))) then (if (strOfNums bt255.2.1).toList = (strOfNums l2).toList then (some ((bt260.2.2 == 0) == (decide ((l2.length : Int) ≥ (wrap64 (1 + (wrap64 (Int.tmod a1 4)))))))) else (none)) else (none)) else (none)) else (none)) else (none)))))) else (none))) else (none))) = some r := H
        have A28 := Aside0.mk A280
        clear A280
        obtain ⟨y246, hy246⟩ : ∃ y_ : List Int, y_ = (([] : List Int)) := ⟨_, rfl⟩
        replace H : (if y246.length + t242.length < 140737488355328 then ((some (y246 ++ t242 : List Int)).bind fun y249 => (if y249.length + l2.length < 140737488355328 then ((pack_TakeFix.f kj7 (y249 ++ l2)).bind fun bt255 => ((pack_Take.f kj7 l2 (wrap64 (1 + (wrap64 (Int.tmod a1 4))))).bind fun bt260 => ((pack_Put.f kj7 ([] : List Int) bt260.1 (wrap64 (1 + (wrap64 (Int.tmod a1 4))))).bind fun bt265 => (if bt260.2.2 = 0 then (if bt265.2 = 0 then ((some (([] : List Int) : List Int)).bind fun y269 => (if y269.length + bt265.1.length < 140737488355328 then ((some (y269 ++ bt265.1 : List Int)).bind fun y272 => (if y272.length + bt260.2.1.length < 140737488355328 then (if t223 = true then (if t243 = 0 then (if bt255.2.2 = 0 then (if bt255.1 = (wrap64 (wrap32 (a0))) then (if (strOfNums bt255.2.1).toList = (strOfNums l2).toList then (if (strOfNums (y272 ++ bt260.2.1)).toList = (strOfNums l2).toList then (some ((bt260.2.2 == 0) == (decide ((l2.length : Int) ≥ (wrap64 (1 + (wrap64 (Int.tmod a1 4)))))))) else (none)) else (none)) else (none)) else (none)) else (none)) else (none)) else (none))) else (none))) else (if t223 = true then (if t243 = 0 then (if bt255.2.2 = 0 then (if bt255.1 = (wrap64 (wrap32 (a0))) then (if (strOfNums bt255.2.1).toList = (strOfNums l2).toList then (none) else (none)) else (none)) else (none)) else (none)) else (none))) else (if t223 = true then (if t243 = 0 then (if bt255.2.2 = 0 then (if bt255.1 = (wrap64 (wrap32 (a0))) then (if (strOfNums bt255.2.1).toList = (strOfNums l2).toList then (some ((bt260.2.2 == 0) == (decide ((l2.length : Int) ≥ (wrap64 (1 + (wrap64 (Int.tmod a1 4)))))))) else (none)) else (none)) else (none)) else (none)) else (none)))))) else (none))) else (none)) = some r := by first | (rw [hy246]; with_reducible exact H) | (have H2_ := (Option.bind_some _ _).symm.trans H; rw [hy246]; with_reducible exact H2_) | (have H2_ := (Option.bind_some _ _).symm.trans H; with_reducible exact H2_) | with_reducible exact H | (rw [hy246]; exact H) | exact H
        have Ny246 := Aside0.mk hy246
        clear hy246
        by_cases c29 : y246.length + t242.length < 140737488355328
        · rw [if_pos c29] at H
          have LMc29 := Aside0.mk c29
          clear c29
          obtain ⟨y249, hy249⟩ : ∃ y_ : List Int, y_ = (y246 ++ t242) := ⟨_, rfl⟩
          replace H : (if y249.length + l2.length < 140737488355328 then ((pack_TakeFix.f kj7 (y249 ++ l2)).bind fun bt255 => ((pack_Take.f kj7 l2 (wrap64 (1 + (wrap64 (Int.tmod a1 4))))).bind fun bt260 => ((pack_Put.f kj7 ([] : List Int) bt260.1 (wrap64 (1 + (wrap64 (Int.tmod a1 4))))).bind fun bt265 => (if bt260.2.2 = 0 then (if bt265.2 = 0 then ((some (([] : List Int) : List Int)).bind fun y269 => (if y269.length + bt265.1.length < 140737488355328 then ((some (y269 ++ bt265.1 : List Int)).bind fun y272 => (if y272.length + bt260.2.1.length < 140737488355328 then (if t223 = true then (if t243 = 0 then (if bt255.2.2 = 0 then (if bt255.1 = (wrap64 (wrap32 (a0))) then (if (strOfNums bt255.2.1).toList = (strOfNums l2).toList then (if (strOfNums (y272 ++ bt260.2.1)).toList = (strOfNums l2).toList then (some ((bt260.2.2 == 0) == (decide ((l2.length : Int) ≥ (wrap64 (1 + (wrap64 (Int.tmod a1 4)))))))) else (none)) else (none)) else (none)) else (none)) else (none)) else (none)) else (none))) else (none))) else (if t223 = true then (if t243 = 0 then (if bt255.2.2 = 0 then (if bt255.1 = (wrap64 (wrap32 (a0))) then (if (strOfNums bt255.2.1).toList = (strOfNums l2).toList then (none) else (none)) else (none)) else (none)) else (none)) else (none))) else (if t223 = true then (if t243 = 0 then (if bt255.2.2 = 0 then (if bt255.1 = (wrap64 (wrap32 (a0))) then (if (strOfNums bt255.2.1).toList = (strOfNums l2).toList then (some ((bt260.2.2 == 0) == (decide ((l2.length : Int) ≥ (wrap64 (1 + (wrap64 (Int.tmod a1 4)))))))) else (none)) else (none)) else (none)) else (none)) else (none)))))) else (none)) = some r := by first | (rw [hy249]; with_reducible exact H) | (have H2_ := (Option.bind_some _ _).symm.trans H; rw [hy249]; with_reducible exact H2_) | (have H2_ := (Option.bind_some _ _).symm.trans H; with_reducible exact H2_) | with_reducible exact H | (rw [hy249]; exact H) | exact H
          have Ny249 := Aside0.mk hy249
          clear hy249
          by_cases c30 : y249.length + l2.length < 140737488355328
          · rw [if_pos c30] at H
            have LMc30 := Aside0.mk c30
            clear c30
            obtain ⟨y252, hy252⟩ : ∃ y_ : List Int, y_ = (y249 ++ l2) := ⟨_, rfl⟩
            replace H : ((pack_TakeFix.f kj7 y252).bind fun bt255 => ((pack_Take.f kj7 l2 (wrap64 (1 + (wrap64 (Int.tmod a1 4))))).bind fun bt260 => ((pack_Put.f kj7 ([] : List Int) bt260.1 (wrap64 (1 + (wrap64 (Int.tmod a1 4))))).bind fun bt265 => (if bt260.2.2 = 0 then (if bt265.2 = 0 then ((some (([] : List Int) : List Int)).bind fun y269 => (if y269.length + bt265.1.length < 140737488355328 then ((some (y269 ++ bt265.1 : List Int)).bind fun y272 => (if y272.length + bt260.2.1.length < 140737488355328 then (if t223 = true then (if t243 = 0 then (if bt255.2.2 = 0 then (if bt255.1 = (wrap64 (wrap32 (a0))) then (if (strOfNums bt255.2.1).toList = (strOfNums l2).toList then (if (strOfNums (y272 ++ bt260.2.1)).toList = (strOfNums l2).toList then (some ((bt260.2.2 == 0) == (decide ((l2.length : Int) ≥ (wrap64 (1 + (wrap64 (Int.tmod a1 4)))))))) else (none)) else (none)) else (none)) else (none)) else (none)) else (none)) else (none))) else (none))) else (if t223 = true then (if t243 = 0 then (if bt255.2.2 = 0 then (if bt255.1 = (wrap64 (wrap32 (a0))) then (if (strOfNums bt255.2.1).toList = (strOfNums l2).toList then (none) else (none)) else (none)) else (none)) else (none)) else (none))) else (if t223 = true then (if t243 = 0 then (if bt255.2.2 = 0 then (if bt255.1 = (wrap64 (wrap32 (a0))) then (if (strOfNums bt255.2.1).toList = (strOfNums l2).toList then (some ((bt260.2.2 == 0) == (decide ((l2.length : Int) ≥ (wrap64 (1 + (wrap64 (Int.tmod a1 4)))))))) else (none)) else (none)) else (none)) else (none)) else (none)))))) = some r := by first | (rw [hy252]; with_reducible exact H) | (have H2_ := (Option.bind_some _ _).symm.trans H; rw [hy252]; with_reducible exact H2_) | (have H2_ := (Option.bind_some _ _).symm.trans H; with_reducible exact H2_) | with_reducible exact H | (rw [hy252]; exact H) | exact H
            have Ny252 := Aside0.mk hy252
            clear hy252
            replace H := Option.bind_eq_some_iff.mp H
            obtain ⟨⟨t255, t256, t257⟩, A310, H⟩ := H
            replace H : ((pack_Take.f kj7 l2 (wrap64 (1 + (wrap64 (Int.tmod a1 4))))).bind fun bt260 => ((pack_Put.f kj7 ([] : List Int) bt260.1 (wrap64 (1 + (wrap64 (Int.tmod a1 4))))).bind fun bt265 => (if bt260.2.2 = 0 then (if bt265.2 = 0 then ((some (([] : List Int) : List Int)).bind fun y269 => (if y269.length + bt265.1.length < 140737488355328 then ((some (y269 ++ bt265.1 : List Int)).bind fun y272 => (if y272.length + bt260.2.1.length < 140737488355328 then (if t223 = true then (if t243 = 0 then (if t257 = 0 then (if t255 = (wrap64 (wrap32 (a0))) then (if (strOfNums t256).toList = (strOfNums l2).toList then (if (strOfNums (y272 ++ bt260.2.1)).toList = (strOfNums l2).toList then (some ((bt260.2.2 == 0) == (decide ((l2.length : Int) ≥ (wrap64 (1 + (wrap64 (Int.tmod a1 4)))))))) else (none)) else (none)) else (none)) else (none)) else (none)) else (none)) else (none))) else (none))) else (if t223 = true then (if t243 = 0 then (if t257 = 0 then (if t255 = (wrap64 (wrap32 (a0))) then (if (strOfNums t256).toList = (strOfNums l2).toList then (none) else (none)) else (none)) else (none)) else (none)) else (none))) else (if t223 = true then (if t243 = 0 then (if t257 = 0 then (if t255 = (wrap64 (wrap32 (a0))) then (if (strOfNums t256).toList = (strOfNums l2).toList then (some ((bt260.2.2 == 0) == (decide ((l2.length : Int) ≥ (wrap64 (1 + (wrap64 (Int.tmod a1 4)))))))) else (none)) else (none)) else (none)) else (none)) else (none))))) = some r := H
            have A31 := Aside0.mk A310
            clear A310
            replace H := Option.bind_eq_some_iff.mp H
            obtain ⟨⟨t260, t261, t262⟩, A320, H⟩ := H
            replace H : ((pack_Put.f kj7 ([] : List Int) t260 (wrap64 (1 + (wrap64 (Int.tmod a1 4))))).bind fun bt265 => (if t262 = 0 then (if bt265.2 = 0 then ((some (([] : List Int) : List Int)).bind fun y269 => (if y269.length + bt265.1.length < 140737488355328 then ((some (y269 ++ bt265.1 : List Int)).bind fun y272 => (if y272.length + t261.length < 140737488355328 then (if t223 = true then (if t243 = 0 then (if t257 = 0 then (if t255 = (wrap64 (wrap32 (a0))) then (if (strOfNums t256).toList = (strOfNums l2).toList then (if (strOfNums (y272 ++ t261)).toList = (strOfNums l2).toList then (some ((t262 == 0) == (decide ((l2.length : Int) ≥ (wrap64 (1 + (wrap64 (Int.tmod a1 4)))))))) else (none)) else (none)) else (none)) else (none)) else (none)) else (none)) else (none))) else (none))) else (if t223 = true then (if t243 = 0 then (if t257 = 0 then (if t255 = (wrap64 (wrap32 (a0))) then (if (strOfNums t256).toList = (strOfNums l2).toList then (none) else (none)) else (none)) else (none)) else (none)) else (none))) else (if t223 = true then (if t243 = 0 then (if t257 = 0 then (if t255 = (wrap64 (wrap32 (a0))) then (if (strOfNums t256).toList = (strOfNums l2).toList then (some ((t262 == 0) == (decide ((l2.length : Int) ≥ (wrap64 (1 + (wrap64 (Int.tmod a1 4)))))))) else (none)) else (none)) else (none)) else (none)) else (none)))) = some r := H
            have A32 := Aside0.mk A320
            clear A320
            replace H := Option.bind_eq_some_iff.mp H
            obtain ⟨⟨t265, t266⟩, A330, H⟩ := H
            replace H : (if t262 = 0 then (if t266 = 0 then ((some (([] : List Int) : List Int)).bind fun y269 => (if y269.length + t265.length < 140737488355328 then ((some (y269 ++ t265 : List Int)).bind fun y272 => (if y272.length + t261.length < 140737488355328 then (if t223 = true then (if t243 = 0 then (if t257 = 0 then (if t255 = (wrap64 (wrap32 (a0))) then (if (strOfNums t256).toList = (strOfNums l2).toList then (if (strOfNums (y272 ++ t261)).toList = (strOfNums l2).toList then (some ((t262 == 0) == (decide ((l2.length : Int) ≥ (wrap64 (1 + (wrap64 (Int.tmod a1 4)))))))) else (none)) else (none)) else (none)) else (none)) else (none)) else (none)) else (none))) else (none))) else (if t223 = true then (if t243 = 0 then (if t257 = 0 then (if t255 = (wrap64 (wrap32 (a0))) then (if (strOfNums t256).toList = (strOfNums l2).toList then (none) else (none)) else (none)) else (none)) else (none)) else (none))) else (if t223 = true then (if t243 = 0 then (if t257 = 0 then (if t255 = (wrap64 (wrap32 (a0))) then (if (strOfNums t256).toList = (strOfNums l2).toList then (some ((t262 == 0) == (decide ((l2.length : Int) ≥ (wrap64 (1 + (wrap64 (Int.tmod a1 4)))))))) else (none)) else (none)) else (none)) else (none)) else (none))) = some r := H
            have A33 := Aside0.mk A330
            clear A330
            by_cases c34 : t262 = 0
            · rw [if_pos c34] at H
              have c34b0 : (t262 == 0) = true := beq_iff_eq.mpr c34
              have c34b1 : (t262 != 0) = false := bne_eq_false_iff_eq.mpr c34
              clear c34
              by_cases c35 : t266 = 0
              · rw [if_pos c35] at H
                have c35b0 : (t266 == 0) = true := beq_iff_eq.mpr c35
                have c35b1 : (t266 != 0) = false := bne_eq_false_iff_eq.mpr c35
                clear c35
                obtain ⟨y269, hy269⟩ : ∃ y_ : List Int, y_ = (([] : List Int)) := ⟨_, rfl⟩
                replace H : (if y269.length + t265.length < 140737488355328 then ((some (y269 ++ t265 : List Int)).bind fun y272 => (if y272.length + t261.length < 140737488355328 then (if t223 = true then (if t243 = 0 then (if t257 = 0 then (if t255 = (wrap64 (wrap32 (a0))) then (if (strOfNums t256).toList = (strOfNums l2).toList then (if (strOfNums (y272 ++ t261)).toList = (strOfNums l2).toList then (some ((t262 == 0) == (decide ((l2.length : Int) ≥ (wrap64 (1 + (wrap64 (Int.tmod a1 4)))))))) else (none)) else (none)) else (none)) else (none)) else (none)) else (none)) else (none))) else (none)) = some r := by first | (rw [hy269]; with_reducible exact H) | (have H2_ := (Option.bind_some _ _).symm.trans H; rw [hy269]; with_reducible exact H2_) | (have H2_ := (Option.bind_some _ _).symm.trans H; with_reducible exact H2_) | with_reducible exact H | (rw [hy269]; exact H) | exact H
                have Ny269 := Aside0.mk hy269
                clear hy269
                by_cases c36 : y269.length + t265.length < 140737488355328
                · rw [if_pos c36] at H
                  have LMc36 := Aside0.mk c36
                  clear c36
                  obtain ⟨y272, hy272⟩ : ∃ y_ : List Int, y_ = (y269 ++ t265) := ⟨_, rfl⟩
                  replace H : (if y272.length + t261.length < 140737488355328 then (if t223 = true then (if t243 = 0 then (if t257 = 0 then (if t255 = (wrap64 (wrap32 (a0))) then (if (strOfNums t256).toList = (strOfNums l2).toList then (if (strOfNums (y272 ++ t261)).toList = (strOfNums l2).toList then (some ((t262 == 0) == (decide ((l2.length : Int) ≥ (wrap64 (1 + (wrap64 (Int.tmod a1 4)))))))) else (none)) else (none)) else (none)) else (none)) else (none)) else (none)) else (none)) = some r := by first | (rw [hy272]; with_reducible exact H) | (have H2_ := (Option.bind_some _ _).symm.trans H; rw [hy272]; with_reducible exact H2_) | (have H2_ := (Option.bind_some _ _).symm.trans H; with_reducible exact H2_) | with_reducible exact H | (rw [hy272]; exact H) | exact H
                  have Ny272 := Aside0.mk hy272
                  clear hy272
                  by_cases c37 : y272.length + t261.length < 140737488355328
                  · rw [if_pos c37] at H
                    have LMc37 := Aside0.mk c37
                    clear c37
                    obtain ⟨y275, hy275⟩ : ∃ y_ : List Int, y_ = (y272 ++ t261) := ⟨_, rfl⟩
                    replace H : (if t223 = true then (if t243 = 0 then (if t257 = 0 then (if t255 = (wrap64 (wrap32 (a0))) then (if (strOfNums t256).toList = (strOfNums l2).toList then (if (strOfNums y275).toList = (strOfNums l2).toList then (some ((t262 == 0) == (decide ((l2.length : Int) ≥ (wrap64 (1 + (wrap64 (Int.tmod a1 4)))))))) else (none)) else (none)) else (none)) else (none)) else (none)) else (none)) = some r := by first | (rw [hy275]; with_reducible exact H) | (have H2_ := (Option.bind_some _ _).symm.trans H; rw [hy275]; with_reducible exact H2_) | (have H2_ := (Option.bind_some _ _).symm.trans H; with_reducible exact H2_) | with_reducible exact H | (rw [hy275]; exact H) | exact H
                    have Ny275 := Aside0.mk hy275
                    clear hy275
                    by_cases c38 : t223 = true
                    · subst c38
                      have H1 : (if t243 = 0 then (if t257 = 0 then (if t255 = (wrap64 (wrap32 (a0))) then (if (strOfNums t256).toList = (strOfNums l2).toList then (if (strOfNums y275).toList = (strOfNums l2).toList then (some ((t262 == 0) == (decide ((l2.length : Int) ≥ (wrap64 (1 + (wrap64 (Int.tmod a1 4)))))))) else (none)) else (none)) else (none)) else (none)) else (none)) = some r := by rw [if_pos rfl] at H; exact H
                      clear H
                      have H := H1
                      clear H1
                      by_cases c39 : t243 = 0
                      · rw [if_pos c39] at H
                        have c39b0 : (t243 == 0) = true := beq_iff_eq.mpr c39
                        have c39b1 : (t243 != 0) = false := bne_eq_false_iff_eq.mpr c39
                        clear c39
                        by_cases c40 : t257 = 0
                        · rw [if_pos c40] at H
                          have c40b0 : (t257 == 0) = true := beq_iff_eq.mpr c40
                          have c40b1 : (t257 != 0) = false := bne_eq_false_iff_eq.mpr c40
                          clear c40
                          by_cases c41 : t255 = (wrap64 (wrap32 (a0)))
                          · rw [if_pos c41] at H
                            have c41b0 : (t255 == (wrap64 (wrap32 (a0)))) = true := beq_iff_eq.mpr c41
                            have c41b1 : (t255 != (wrap64 (wrap32 (a0)))) = false := bne_eq_false_iff_eq.mpr c41
                            (try (have c41b2 : (t255 == (IntKind.i64.wrap (wrap32 (a0)))) = true := by simp only [i64_w]; exact (beq_iff_eq.mpr c41)))
                            (try (have c41b3 : (t255 != (IntKind.i64.wrap (wrap32 (a0)))) = false := by simp only [i64_w]; exact (bne_eq_false_iff_eq.mpr c41)))
                            clear c41
                            by_cases c42 : (strOfNums t256).toList = (strOfNums l2).toList
                            · rw [if_pos c42] at H
                              have c42b0 : ((strOfNums t256).toList == (strOfNums l2).toList) = true := beq_iff_eq.mpr c42
                              have c42b1 : ((strOfNums t256).toList != (strOfNums l2).toList) = false := bne_eq_false_iff_eq.mpr c42
                              clear c42
                              by_cases c43 : (strOfNums y275).toList = (strOfNums l2).toList
                              · rw [if_pos c43] at H
                                have c43b0 : ((strOfNums y275).toList == (strOfNums l2).toList) = true := beq_iff_eq.mpr c43
                                have c43b1 : ((strOfNums y275).toList != (strOfNums l2).toList) = false := bne_eq_false_iff_eq.mpr c43
                                clear c43
                                obtain rfl := Option.some.inj H
                                try go_wp2_with (first | ((with_reducible refine gate_callee (f := 12) rfl ?_); refine goesL_ (some 79) rfl rfl Try.func12 (by kernel_rfl) rfl #[.slice none 0 0, .int .i64 (wrap64 (wrap32 (a0)))] rfl (by (try simp only [List.map_toArray, List.map_cons, List.map_nil]); first | done | rfl | (simp only [List.length_drop, List.length_take]; rfl)) ?_; (refine (pack_PutFix.calls kj7 _ _ ([] : List Int) (wrap64 (wrap32 (a0))) t242 t243 _ ?side1 ?side2 A28.out).mono ?_); (case side1 => exact Kd.C_nil _ _); (case side2 => exact Nat.le_refl _); rintro e w44 ⟨v244, rfl, ho0, hb⟩; refine ⟨_, rfl, ?_⟩; have n0_ := Aside0.mk (Kd.R_lower ho0 (below_size (by repeat (first | (with_reducible first | exact HB.out | apply below_alloc | apply pw_below_drewN | apply below_drew1) | exact HB.out)))); have n1_ := Aside0.mk (below_step (by repeat (first | (with_reducible first | exact HB.out | apply below_alloc | apply pw_below_drewN | apply below_drew1) | exact HB.out)) hb); clear HB; have HO245 := n0_; have HB := n1_; clear n0_ n1_; (try clear hb); (try clear hb2); (try clear hk); (try clear hi); (try clear ho0)) | ((with_reducible refine gate_dst (N := 83) rfl ?_); (try (refine gate_guard (by rfl) ?_; dsimp only)); refine Kd.R_lit (Kd.int .u8) _ 5 ?hg (N := 83) ?hd (xs := ([] : List Int)) (inner := []) (ok := fun _ => True) (okp := fun _ => True) ?hr ?hp (fun _ hk => hk) trivial (Below.refl _ _) (Nat.le_refl _) (by simp) ?_; (case hd => rfl); (case hg => rfl); (case hr => first | (go_simp; done) | (go_simp; rfl)); (case hp => exact (Reps.none _ _)); intro v247 w45 ho46 hb hg_ hnew_; clear hg_ hnew_; (first | rw [← Ny246.out] at ho46 | (simp only [Int.reduceToNat] at ho46; rw [← Ny246.out] at ho46)); have n0_ := Aside0.mk (Kd.R_elder' (by (with_reducible repeat (first | apply Kd.R_alloc | apply Kd.R_drewN | apply Kd.R_drew)); exact HO245.out) (Kd.R_base ho46) hb); have n1_ := Aside0.mk (Kd.R_lower (Kd.R_new' ho46 (Kd.R_lt (by (with_reducible repeat (first | apply Kd.R_alloc | apply Kd.R_drewN | apply Kd.R_drew)); exact HO245.out))) (below_size (by repeat (first | (with_reducible first | exact HB.out | apply below_alloc | apply pw_below_drewN | apply below_drew1) | exact HB.out)))); have n2_ := Aside0.mk (below_step (by repeat (first | (with_reducible first | exact HB.out | apply below_alloc | apply pw_below_drewN | apply below_drew1) | exact HB.out)) hb); clear HO245; clear HB; have HO245 := n0_; have HO248 := n1_; have HB := n2_; clear n0_ n1_ n2_; clear hb ho46; obtain ⟨Ao48, co48, eo48⟩ := Kd.R_slice HO245.out; subst eo48) | ((with_reducible refine gate_builtin (b := .append) (xs := #[.tmp 83, .tmp 84]) rfl ?_); (try (refine gate_guard (by rfl) ?_; dsimp only)); at_builtin; refine Kd.R_append_rows (Kd.int .u8) (w0 := w) w.heap.size rfl (.tmp 83) (.tmp 84) 22 5 (.int .u8 0) 1 rfl Try.underlying22 info5 rfl (by decide) (by omega) v247 y246 t242 _ _ _ (fun k_ => some k_ ≠ (.slice Ao48 t242.length co48 : Value).ownBlock) (fun _ => False) rfl rfl ?aO ?aR (fun _ _ h => h) (fun _ h => h.elim) ?aF ?aB ?aS ?aL ?_; (case aR => repeat (first | exact (Kd.R_reads' HO245.out).2.2 | (with_reducible refine Kd.C_alloc ?_ _) | (with_reducible refine Kd.C_drewN ?_ _) | (with_reducible refine Kd.C_drew ?_))); (case aB => exact (by repeat (first | (with_reducible first | exact HB.out | apply below_alloc | apply pw_below_drewN | apply below_drew1) | exact HB.out))); (case aF => exact (fun k_ hk => Kd.fresh' (Kd.R_lt (by (with_reducible repeat (first | apply Kd.R_alloc | apply Kd.R_drewN | apply Kd.R_drew)); exact HO245.out)) k_ hk)); (case aO => exact (by (with_reducible repeat (first | apply Kd.R_alloc | apply Kd.R_drewN | apply Kd.R_drew)); exact Kd.R_mono HO248.out (fun _ hk => hk.2))); (case aS => exact (below_size (by repeat (first | (with_reducible first | exact HB.out | apply below_alloc | apply pw_below_drewN | apply below_drew1) | exact HB.out)))); (case aL => have := LMc29.out; omega); intro v250 w47 ho hb hg hat; rw [← Ny249.out] at ho; have n0_ := Aside0.mk (Kd.R_after (ok := (fun _ => True)) (by (with_reducible repeat (first | apply Kd.R_alloc | apply Kd.R_drewN | apply Kd.R_drew)); exact HO245.out) hg hat); have n1_ := Aside0.mk (hb); have n2_ := Aside0.mk (ho); clear HO245; clear HB; clear HO248; have HO245 := n0_; have HB := n1_; have HO251 := n2_; clear n0_ n1_ n2_; clear ho hb hg hat) | ((with_reducible refine gate_builtin (b := .append) (xs := #[.tmp 85, .tmp 86]) rfl ?_); (try (refine gate_guard (by rfl) ?_; dsimp only)); at_builtin; refine Kd.R_append_rows (Kd.int .u8) (w0 := w) w.heap.size rfl (.tmp 85) (.tmp 86) 22 5 (.int .u8 0) 1 rfl Try.underlying22 info5 rfl (by decide) (by omega) v250 y249 l2 _ _ _ (fun k_ => some k_ ≠ (.slice Ao48 t242.length co48 : Value).ownBlock) (fun _ => False) rfl rfl ?aO ?aR (fun _ _ h => h) (fun _ h => h.elim) ?aF ?aB ?aS ?aL ?_; (case aR => repeat (first | exact (Kd.C_below HR2.out HB.out) | (with_reducible refine Kd.C_alloc ?_ _) | (with_reducible refine Kd.C_drewN ?_ _) | (with_reducible refine Kd.C_drew ?_))); (case aB => exact (by repeat (first | (with_reducible first | exact HB.out | apply below_alloc | apply pw_below_drewN | apply below_drew1) | exact HB.out))); (case aF => exact (fun k_ hk => Kd.fresh' (Kd.R_lt (by (with_reducible repeat (first | apply Kd.R_alloc | apply Kd.R_drewN | apply Kd.R_drew)); exact HO245.out)) k_ hk)); (case aO => exact (by (with_reducible repeat (first | apply Kd.R_alloc | apply Kd.R_drewN | apply Kd.R_drew)); exact HO251.out)); (case aS => exact (below_size (by repeat (first | (with_reducible first | exact HB.out | apply below_alloc | apply pw_below_drewN | apply below_drew1) | exact HB.out)))); (case aL => have := LMc30.out; omega); intro v253 w49 ho hb hg hat; rw [← Ny252.out] at ho; have n0_ := Aside0.mk (Kd.R_after (ok := (fun _ => True)) (by (with_reducible repeat (first | apply Kd.R_alloc | apply Kd.R_drewN | apply Kd.R_drew)); exact HO245.out) hg hat); have n1_ := Aside0.mk (hb); have n2_ := Aside0.mk (ho); clear HO245; clear HB; clear HO251; have HO245 := n0_; have HB := n1_; have HO254 := n2_; clear n0_ n1_ n2_; clear ho hb hg hat; obtain ⟨Ao50, co50, eo50⟩ := Kd.R_slice HO254.out; subst eo50) | ((with_reducible refine gate_callee (f := 16) rfl ?_); refine goesL_ (some 88) rfl rfl Try.func16 (by kernel_rfl) rfl #[.slice Ao50 y252.length co50] rfl (by (try simp only [List.map_toArray, List.map_cons, List.map_nil]); first | done | rfl | (simp only [List.length_drop, List.length_take]; rfl)) ?_; (with_reducible refine (pack_TakeFix.calls kj7 _ _ y252 t255 t256 t257 _ ?side1 ?side2 A31.out).mono ?_); (case side1 => repeat (first | exact (Kd.R_reads' HO254.out).2.2 | (with_reducible refine Kd.C_alloc ?_ _) | (with_reducible refine Kd.C_drewN ?_ _) | (with_reducible refine Kd.C_drew ?_))); (case side2 => exact (Kd.R_reads' HO254.out).2.1); rintro e w51 ⟨v258, rfl, ho0, hb⟩; refine ⟨_, rfl, ?_⟩; have n0_ := Aside0.mk (Kd.R_elder' (by (with_reducible repeat (first | apply Kd.R_alloc | apply Kd.R_drewN | apply Kd.R_drew)); exact HO245.out) (Kd.R_base ho0) hb); have n1_ := Aside0.mk (Kd.R_elder' (by (with_reducible repeat (first | apply Kd.R_alloc | apply Kd.R_drewN | apply Kd.R_drew)); exact HO254.out) (Kd.R_base ho0) hb); have n2_ := Aside0.mk (Kd.R_lower (Kd.R_new' (Kd.R_new' ho0 (Kd.R_lt (by (with_reducible repeat (first | apply Kd.R_alloc | apply Kd.R_drewN | apply Kd.R_drew)); exact HO245.out))) (Kd.R_lt (by (with_reducible repeat (first | apply Kd.R_alloc | apply Kd.R_drewN | apply Kd.R_drew)); exact HO254.out))) (below_size (by repeat (first | (with_reducible first | exact HB.out | apply below_alloc | apply pw_below_drewN | apply below_drew1) | exact HB.out)))); have n3_ := Aside0.mk (below_step (by repeat (first | (with_reducible first | exact HB.out | apply below_alloc | apply pw_below_drewN | apply below_drew1) | exact HB.out)) hb); clear HO245; clear HO254; clear HB; have HO245 := n0_; have HO254 := n1_; have HO259 := n2_; have HB := n3_; clear n0_ n1_ n2_ n3_; (try clear hb); (try clear hb2); (try clear hk); (try clear hi); (try clear ho0)) | ((with_reducible refine gate_callee (f := 14) rfl ?_); refine goesL_ (some 95) rfl rfl Try.func14 (by kernel_rfl) rfl #[.slice A2 l2.length c2, .int .i64 (wrap64 (1 + (wrap64 (Int.tmod a1 4))))] rfl (by (try simp only [List.map_toArray, List.map_cons, List.map_nil]); first | done | rfl | (simp only [List.length_drop, List.length_take]; rfl)) ?_; (with_reducible refine (pack_Take.calls kj7 _ _ l2 (wrap64 (1 + (wrap64 (Int.tmod a1 4)))) t260 t261 t262 _ ?side1 ?side2 A32.out).mono ?_); (case side1 => repeat (first | exact (Kd.C_below HR2.out HB.out) | (with_reducible refine Kd.C_alloc ?_ _) | (with_reducible refine Kd.C_drewN ?_ _) | (with_reducible refine Kd.C_drew ?_))); (case side2 => exact HC2.out); rintro e w52 ⟨v263, rfl, ho0, hb⟩; refine ⟨_, rfl, ?_⟩; have n0_ := Aside0.mk (Kd.R_elder' (by (with_reducible repeat (first | apply Kd.R_alloc | apply Kd.R_drewN | apply Kd.R_drew)); exact HO245.out) (Kd.R_base ho0) hb); have n1_ := Aside0.mk (Kd.R_elder' (by (with_reducible repeat (first | apply Kd.R_alloc | apply Kd.R_drewN | apply Kd.R_drew)); exact HO254.out) (Kd.R_base ho0) hb); have n2_ := Aside0.mk (Kd.R_elder' (by (with_reducible repeat (first | apply Kd.R_alloc | apply Kd.R_drewN | apply Kd.R_drew)); exact HO259.out) (Kd.R_base ho0) hb); have n3_ := Aside0.mk (Kd.R_lower (Kd.R_new' (Kd.R_new' (Kd.R_new' ho0 (Kd.R_lt (by (with_reducible repeat (first | apply Kd.R_alloc | apply Kd.R_drewN | apply Kd.R_drew)); exact HO245.out))) (Kd.R_lt (by (with_reducible repeat (first | apply Kd.R_alloc | apply Kd.R_drewN | apply Kd.R_drew)); exact HO254.out))) (Kd.R_lt (by (with_reducible repeat (first | apply Kd.R_alloc | apply Kd.R_drewN | apply Kd.R_drew)); exact HO259.out))) (below_size (by repeat (first | (with_reducible first | exact HB.out | apply below_alloc | apply pw_below_drewN | apply below_drew1) | exact HB.out)))); have n4_ := Aside0.mk (below_step (by repeat (first | (with_reducible first | exact HB.out | apply below_alloc | apply pw_below_drewN | apply below_drew1) | exact HB.out)) hb); clear HO245; clear HO254; clear HO259; clear HB; have HO245 := n0_; have HO254 := n1_; have HO259 := n2_; have HO264 := n3_; have HB := n4_; clear n0_ n1_ n2_ n3_ n4_; (try clear hb); (try clear hb2); (try clear hk); (try clear hi); (try clear ho0)) | ((with_reducible refine gate_callee (f := 10) rfl ?_); refine goesL_ (some 102) rfl rfl Try.func10 (by kernel_rfl) rfl #[.slice none 0 0, .int .i64 t260, .int .i64 (wrap64 (1 + (wrap64 (Int.tmod a1 4))))] rfl (by (try simp only [List.map_toArray, List.map_cons, List.map_nil]); first | done | rfl | (simp only [List.length_drop, List.length_take]; rfl)) ?_; (refine (pack_Put.calls kj7 _ _ ([] : List Int) t260 (wrap64 (1 + (wrap64 (Int.tmod a1 4)))) t265 t266 _ ?side1 ?side2 A33.out).mono ?_); (case side1 => exact Kd.C_nil _ _); (case side2 => exact Nat.le_refl _); rintro e w53 ⟨v267, rfl, ho0, hb⟩; refine ⟨_, rfl, ?_⟩; have n0_ := Aside0.mk (Kd.R_elder' (by (with_reducible repeat (first | apply Kd.R_alloc | apply Kd.R_drewN | apply Kd.R_drew)); exact HO245.out) (Kd.R_base ho0) hb); have n1_ := Aside0.mk (Kd.R_elder' (by (with_reducible repeat (first | apply Kd.R_alloc | apply Kd.R_drewN | apply Kd.R_drew)); exact HO254.out) (Kd.R_base ho0) hb); have n2_ := Aside0.mk (Kd.R_elder' (by (with_reducible repeat (first | apply Kd.R_alloc | apply Kd.R_drewN | apply Kd.R_drew)); exact HO259.out) (Kd.R_base ho0) hb); have n3_ := Aside0.mk (Kd.R_elder' (by (with_reducible repeat (first | apply Kd.R_alloc | apply Kd.R_drewN | apply Kd.R_drew)); exact HO264.out) (Kd.R_base ho0) hb); have n4_ := Aside0.mk (Kd.R_lower (Kd.R_new' (Kd.R_new' (Kd.R_new' (Kd.R_new' ho0 (Kd.R_lt (by (with_reducible repeat (first | apply Kd.R_alloc | apply Kd.R_drewN | apply Kd.R_drew)); exact HO245.out))) (Kd.R_lt (by (with_reducible repeat (first | apply Kd.R_alloc | apply Kd.R_drewN | apply Kd.R_drew)); exact HO254.out))) (Kd.R_lt (by (with_reducible repeat (first | apply Kd.R_alloc | apply Kd.R_drewN | apply Kd.R_drew)); exact HO259.out))) (Kd.R_lt (by (with_reducible repeat (first | apply Kd.R_alloc | apply Kd.R_drewN | apply Kd.R_drew)); exact HO264.out))) (below_size (by repeat (first | (with_reducible first | exact HB.out | apply below_alloc | apply pw_below_drewN | apply below_drew1) | exact HB.out)))); have n5_ := Aside0.mk (below_step (by repeat (first | (with_reducible first | exact HB.out | apply below_alloc | apply pw_below_drewN | apply below_drew1) | exact HB.out)) hb); clear HO245; clear HO254; clear HO259; clear HO264; clear HB; have HO245 := n0_; have HO254 := n1_; have HO259 := n2_; have HO264 := n3_; have HO268 := n4_; have HB := n5_; clear n0_ n1_ n2_ n3_ n4_ n5_; (try clear hb); (try clear hb2); (try clear hk); (try clear hi); (try clear ho0); obtain ⟨Ao54, co54, eo54⟩ := Kd.R_slice HO268.out; subst eo54; obtain ⟨Ao55, co55, eo55⟩ := Kd.R_slice HO264.out; subst eo55))
                                have n0_ := Aside0.mk (Kd.R_drew HO245.out)
                                have n1_ := Aside0.mk (Kd.R_drew HO254.out)
                                have n2_ := Aside0.mk (Kd.R_drew HO259.out)
                                have n3_ := Aside0.mk (Kd.R_drew HO264.out)
                                have n4_ := Aside0.mk (Kd.R_drew HO268.out)
                                have n5_ := Aside0.mk (below_drew1 HB.out)
                                clear HO245
                                clear HO254
                                clear HO259
                                clear HO264
                                clear HO268
                                clear HB
                                have HO245 := n0_
                                have HO254 := n1_
                                have HO259 := n2_
                                have HO264 := n3_
                                have HO268 := n4_
                                have HB := n5_
                                clear n0_ n1_ n2_ n3_ n4_ n5_
                                refine start_ (n := 18) (S := fun w' => True) (ds := []) #[false, false, false, false, false, false, false, false, false, false, false, false, false, false, false, false, false, false] (by kernel_rfl) rfl rfl trivial (fun hHeld => ?_); refine with_tabW compositorlaw06_PackBack.tab14 compositorlaw06_PackBack.bits14 (fun HT_ HW_ => ?_)
                                generalize w53.drew = w56 at HO245 HO254 HO259 HO264 HO268 HB hHeld ⊢
                                refine pure_ (i := 0) (N := some 105) (v := ?_) (a' := ?_) #[true, false, false, false, false, false, false, false, false, false, false, false, false, false, false, false, false, false] rfl rfl (any_of HT_.out (by kernel_rfl)) (fun _ _ _ h => h) (Or.inl ⟨by rfl, ?_⟩) ?_ ?_
                                rotate_left
                                · intro w'
                                  go_simp
                                  with_reducible rfl
                                rotate_left
                                · simp only [Act.put, List.setIfInBounds_toArray, List.set_cons_zero, List.set_cons_succ, i64_w, i32_w]
                                  rfl
                                refine pure_ (i := 1) (N := some 106) (v := ?_) (a' := ?_) #[true, true, false, false, false, false, false, false, false, false, false, false, false, false, false, false, false, false] rfl rfl (any_of HT_.out (by kernel_rfl)) (fun _ _ _ h => h) (Or.inl ⟨by rfl, ?_⟩) ?_ ?_
                                rotate_left
                                · intro w'
                                  go_simp
                                  with_reducible rfl
                                rotate_left
                                · simp only [Act.put, List.setIfInBounds_toArray, List.set_cons_zero, List.set_cons_succ, i64_w, i32_w]
                                  rfl
                                refine pure_ (i := 2) (N := some 107) (v := ?_) (a' := ?_) #[true, true, true, false, false, false, false, false, false, false, false, false, false, false, false, false, false, false] rfl rfl (any_of HT_.out (by kernel_rfl)) (fun _ _ _ h => h) (Or.inl ⟨by rfl, ?_⟩) ?_ ?_
                                rotate_left
                                · intro w'
                                  go_simp
                                  with_reducible rfl
                                rotate_left
                                · simp only [Act.put, List.setIfInBounds_toArray, List.set_cons_zero, List.set_cons_succ, i64_w, i32_w]
                                  rfl
                                refine pure_ (i := 3) (N := some 108) (v := ?_) (a' := ?_) #[true, true, true, true, false, false, false, false, false, false, false, false, false, false, false, false, false, false] rfl rfl (any_of HT_.out (by kernel_rfl)) (fun _ _ _ h => h) (Or.inl ⟨by rfl, ?_⟩) ?_ ?_
                                rotate_left
                                · intro w'
                                  go_simp
                                  with_reducible rfl
                                rotate_left
                                · simp only [Act.put, List.setIfInBounds_toArray, List.set_cons_zero, List.set_cons_succ, i64_w, i32_w]
                                  rfl
                                refine pure_ (i := 4) (N := some 109) (v := ?_) (a' := ?_) #[true, true, true, true, true, false, false, false, false, false, false, false, false, false, false, false, false, false] rfl rfl (any_of HT_.out (by kernel_rfl)) (fun _ _ _ h => h) (Or.inl ⟨by rfl, ?_⟩) ?_ ?_
                                rotate_left
                                · intro w'
                                  go_simp
                                  with_reducible rfl
                                rotate_left
                                · simp only [Act.put, List.setIfInBounds_toArray, List.set_cons_zero, List.set_cons_succ, i64_w, i32_w]
                                  rfl
                                refine pure_ (i := 5) (N := some 110) (v := ?_) (a' := ?_) #[true, true, true, true, true, true, false, false, false, false, false, false, false, false, false, false, false, false] rfl rfl (any_of HT_.out (by kernel_rfl)) (fun _ _ _ h => h) (Or.inl ⟨by rfl, ?_⟩) ?_ ?_
                                rotate_left
                                · intro w'
                                  go_simp
                                  with_reducible rfl
                                rotate_left
                                · simp only [Act.put, List.setIfInBounds_toArray, List.set_cons_zero, List.set_cons_succ, i64_w, i32_w]
                                  rfl
                                refine pure_ (i := 7) (N := some 112) (v := ?_) (a' := ?_) #[true, true, true, true, true, true, false, true, false, false, false, false, false, false, false, false, false, false] rfl rfl (any_of HT_.out (by kernel_rfl)) (fun _ _ _ h => h) (Or.inl ⟨by rfl, ?_⟩) ?_ ?_
                                rotate_left
                                · intro w'
                                  go_simp
                                  with_reducible rfl
                                rotate_left
                                · simp only [Act.put, List.setIfInBounds_toArray, List.set_cons_zero, List.set_cons_succ, i64_w, i32_w]
                                  rfl
                                refine pure_ (i := 9) (N := some 114) (v := ?_) (a' := ?_) #[true, true, true, true, true, true, false, true, false, true, false, false, false, false, false, false, false, false] rfl rfl (any_of HT_.out (by kernel_rfl)) (fun _ _ _ h => h) (Or.inl ⟨by rfl, ?_⟩) ?_ ?_
                                rotate_left
                                · intro w'
                                  go_simp
                                  with_reducible rfl
                                rotate_left
                                · simp only [Act.put, List.setIfInBounds_toArray, List.set_cons_zero, List.set_cons_succ, i64_w, i32_w]
                                  rfl
                                refine pure_ (i := 12) (N := some 117) (v := ?_) (a' := ?_) #[true, true, true, true, true, true, false, true, false, true, false, false, true, false, false, false, false, false] rfl rfl (any_of HT_.out (by kernel_rfl)) (fun _ _ _ h => h) (Or.inl ⟨by rfl, ?_⟩) ?_ ?_
                                rotate_left
                                · intro w'
                                  go_simp
                                  with_reducible rfl
                                rotate_left
                                · simp only [Act.put, List.setIfInBounds_toArray, List.set_cons_zero, List.set_cons_succ, i64_w, i32_w]
                                  rfl
                                refine join_ (σ := Value × Value × Value) 4 #[true, true, true, true, true, true, true, true, true, true, true, true, true, true, false, false, false, false] (fun s_ => [(111, s_.1), (113, s_.2.1), (115, s_.2.2), (116, .string (strOfNums y275)), (118, .string (strOfNums l2))]) (fun s_ w' => (Kd.R (Kd.int .u8) 5 w' w.heap.size (fun k_ => some k_ ≠ (.slice Ao50 y252.length co50 : Value).ownBlock ∧ some k_ ≠ (v258 : Value).ownBlock ∧ some k_ ≠ (.slice Ao55 t261.length co55 : Value).ownBlock ∧ some k_ ≠ (.slice Ao54 t265.length co54 : Value).ownBlock ∧ some k_ ≠ (s_.2.2 : Value).ownBlock) (.slice Ao48 t242.length co48) t242) ∧ (Kd.R (Kd.int .u8) 5 w' w.heap.size (fun k_ => some k_ ≠ (.slice Ao48 t242.length co48 : Value).ownBlock ∧ some k_ ≠ (v258 : Value).ownBlock ∧ some k_ ≠ (.slice Ao55 t261.length co55 : Value).ownBlock ∧ some k_ ≠ (.slice Ao54 t265.length co54 : Value).ownBlock ∧ some k_ ≠ (s_.2.2 : Value).ownBlock) (.slice Ao50 y252.length co50) y252) ∧ (Kd.R (Kd.int .u8) 5 w' w.heap.size (fun k_ => some k_ ≠ (.slice Ao48 t242.length co48 : Value).ownBlock ∧ some k_ ≠ (.slice Ao50 y252.length co50 : Value).ownBlock ∧ some k_ ≠ (.slice Ao55 t261.length co55 : Value).ownBlock ∧ some k_ ≠ (.slice Ao54 t265.length co54 : Value).ownBlock ∧ some k_ ≠ (s_.2.2 : Value).ownBlock) v258 t256) ∧ (Kd.R (Kd.int .u8) 5 w' w.heap.size (fun k_ => some k_ ≠ (.slice Ao48 t242.length co48 : Value).ownBlock ∧ some k_ ≠ (.slice Ao50 y252.length co50 : Value).ownBlock ∧ some k_ ≠ (v258 : Value).ownBlock ∧ some k_ ≠ (.slice Ao54 t265.length co54 : Value).ownBlock ∧ some k_ ≠ (s_.2.2 : Value).ownBlock) (.slice Ao55 t261.length co55) t261) ∧ (Kd.R (Kd.int .u8) 5 w' w.heap.size (fun k_ => some k_ ≠ (.slice Ao48 t242.length co48 : Value).ownBlock ∧ some k_ ≠ (.slice Ao50 y252.length co50 : Value).ownBlock ∧ some k_ ≠ (v258 : Value).ownBlock ∧ some k_ ≠ (.slice Ao55 t261.length co55 : Value).ownBlock ∧ some k_ ≠ (s_.2.2 : Value).ownBlock) (.slice Ao54 t265.length co54) t265) ∧ (Kd.R (Kd.int .u8) 5 w' w.heap.size (fun k_ => some k_ ≠ (.slice Ao48 t242.length co48 : Value).ownBlock ∧ some k_ ≠ (.slice Ao50 y252.length co50 : Value).ownBlock ∧ some k_ ≠ (v258 : Value).ownBlock ∧ some k_ ≠ (.slice Ao55 t261.length co55 : Value).ownBlock ∧ some k_ ≠ (.slice Ao54 t265.length co54 : Value).ownBlock) s_.2.2 y275) ∧ (Below w.heap.size w w')) ?_ ?_
                                rotate_left
                                · intro hJ6_8_10_11_13
                                  refine join_ (σ := Value × Value × Value) 5 #[true, true, true, true, true, true, true, true, true, true, true, true, true, false, false, false, false, false] (fun s_ => [(111, s_.1), (113, s_.2.1), (115, s_.2.2), (116, .string (strOfNums y275))]) (fun s_ w' => (Kd.R (Kd.int .u8) 5 w' w.heap.size (fun k_ => some k_ ≠ (.slice Ao50 y252.length co50 : Value).ownBlock ∧ some k_ ≠ (v258 : Value).ownBlock ∧ some k_ ≠ (.slice Ao55 t261.length co55 : Value).ownBlock ∧ some k_ ≠ (.slice Ao54 t265.length co54 : Value).ownBlock ∧ some k_ ≠ (s_.2.2 : Value).ownBlock) (.slice Ao48 t242.length co48) t242) ∧ (Kd.R (Kd.int .u8) 5 w' w.heap.size (fun k_ => some k_ ≠ (.slice Ao48 t242.length co48 : Value).ownBlock ∧ some k_ ≠ (v258 : Value).ownBlock ∧ some k_ ≠ (.slice Ao55 t261.length co55 : Value).ownBlock ∧ some k_ ≠ (.slice Ao54 t265.length co54 : Value).ownBlock ∧ some k_ ≠ (s_.2.2 : Value).ownBlock) (.slice Ao50 y252.length co50) y252) ∧ (Kd.R (Kd.int .u8) 5 w' w.heap.size (fun k_ => some k_ ≠ (.slice Ao48 t242.length co48 : Value).ownBlock ∧ some k_ ≠ (.slice Ao50 y252.length co50 : Value).ownBlock ∧ some k_ ≠ (.slice Ao55 t261.length co55 : Value).ownBlock ∧ some k_ ≠ (.slice Ao54 t265.length co54 : Value).ownBlock ∧ some k_ ≠ (s_.2.2 : Value).ownBlock) v258 t256) ∧ (Kd.R (Kd.int .u8) 5 w' w.heap.size (fun k_ => some k_ ≠ (.slice Ao48 t242.length co48 : Value).ownBlock ∧ some k_ ≠ (.slice Ao50 y252.length co50 : Value).ownBlock ∧ some k_ ≠ (v258 : Value).ownBlock ∧ some k_ ≠ (.slice Ao54 t265.length co54 : Value).ownBlock ∧ some k_ ≠ (s_.2.2 : Value).ownBlock) (.slice Ao55 t261.length co55) t261) ∧ (Kd.R (Kd.int .u8) 5 w' w.heap.size (fun k_ => some k_ ≠ (.slice Ao48 t242.length co48 : Value).ownBlock ∧ some k_ ≠ (.slice Ao50 y252.length co50 : Value).ownBlock ∧ some k_ ≠ (v258 : Value).ownBlock ∧ some k_ ≠ (.slice Ao55 t261.length co55 : Value).ownBlock ∧ some k_ ≠ (s_.2.2 : Value).ownBlock) (.slice Ao54 t265.length co54) t265) ∧ (Kd.R (Kd.int .u8) 5 w' w.heap.size (fun k_ => some k_ ≠ (.slice Ao48 t242.length co48 : Value).ownBlock ∧ some k_ ≠ (.slice Ao50 y252.length co50 : Value).ownBlock ∧ some k_ ≠ (v258 : Value).ownBlock ∧ some k_ ≠ (.slice Ao55 t261.length co55 : Value).ownBlock ∧ some k_ ≠ (.slice Ao54 t265.length co54 : Value).ownBlock) s_.2.2 y275) ∧ (Below w.heap.size w w')) ?_ ?_
                                  rotate_left
                                  · intro hJ6_8_10_11
                                    refine join_ (σ := Value × Value × Value) 5 #[true, true, true, true, true, true, true, true, true, true, true, false, true, true, false, false, false, false] (fun s_ => [(111, s_.1), (113, s_.2.1), (115, s_.2.2), (118, .string (strOfNums l2))]) (fun s_ w' => (Kd.R (Kd.int .u8) 5 w' w.heap.size (fun k_ => some k_ ≠ (.slice Ao50 y252.length co50 : Value).ownBlock ∧ some k_ ≠ (v258 : Value).ownBlock ∧ some k_ ≠ (.slice Ao55 t261.length co55 : Value).ownBlock ∧ some k_ ≠ (.slice Ao54 t265.length co54 : Value).ownBlock ∧ some k_ ≠ (s_.2.2 : Value).ownBlock) (.slice Ao48 t242.length co48) t242) ∧ (Kd.R (Kd.int .u8) 5 w' w.heap.size (fun k_ => some k_ ≠ (.slice Ao48 t242.length co48 : Value).ownBlock ∧ some k_ ≠ (v258 : Value).ownBlock ∧ some k_ ≠ (.slice Ao55 t261.length co55 : Value).ownBlock ∧ some k_ ≠ (.slice Ao54 t265.length co54 : Value).ownBlock ∧ some k_ ≠ (s_.2.2 : Value).ownBlock) (.slice Ao50 y252.length co50) y252) ∧ (Kd.R (Kd.int .u8) 5 w' w.heap.size (fun k_ => some k_ ≠ (.slice Ao48 t242.length co48 : Value).ownBlock ∧ some k_ ≠ (.slice Ao50 y252.length co50 : Value).ownBlock ∧ some k_ ≠ (.slice Ao55 t261.length co55 : Value).ownBlock ∧ some k_ ≠ (.slice Ao54 t265.length co54 : Value).ownBlock ∧ some k_ ≠ (s_.2.2 : Value).ownBlock) v258 t256) ∧ (Kd.R (Kd.int .u8) 5 w' w.heap.size (fun k_ => some k_ ≠ (.slice Ao48 t242.length co48 : Value).ownBlock ∧ some k_ ≠ (.slice Ao50 y252.length co50 : Value).ownBlock ∧ some k_ ≠ (v258 : Value).ownBlock ∧ some k_ ≠ (.slice Ao54 t265.length co54 : Value).ownBlock ∧ some k_ ≠ (s_.2.2 : Value).ownBlock) (.slice Ao55 t261.length co55) t261) ∧ (Kd.R (Kd.int .u8) 5 w' w.heap.size (fun k_ => some k_ ≠ (.slice Ao48 t242.length co48 : Value).ownBlock ∧ some k_ ≠ (.slice Ao50 y252.length co50 : Value).ownBlock ∧ some k_ ≠ (v258 : Value).ownBlock ∧ some k_ ≠ (.slice Ao55 t261.length co55 : Value).ownBlock ∧ some k_ ≠ (s_.2.2 : Value).ownBlock) (.slice Ao54 t265.length co54) t265) ∧ (Kd.R (Kd.int .u8) 5 w' w.heap.size (fun k_ => some k_ ≠ (.slice Ao48 t242.length co48 : Value).ownBlock ∧ some k_ ≠ (.slice Ao50 y252.length co50 : Value).ownBlock ∧ some k_ ≠ (v258 : Value).ownBlock ∧ some k_ ≠ (.slice Ao55 t261.length co55 : Value).ownBlock ∧ some k_ ≠ (.slice Ao54 t265.length co54 : Value).ownBlock) s_.2.2 y275) ∧ (Below w.heap.size w w')) ?_ ?_
                                    rotate_left
                                    · intro hJ6_8_10_13
                                      refine join_ (σ := Value × Value × Value) 6 #[true, true, true, true, true, true, true, true, true, true, true, false, true, false, false, false, false, false] (fun s_ => [(111, s_.1), (113, s_.2.1), (115, s_.2.2)]) (fun s_ w' => (Kd.R (Kd.int .u8) 5 w' w.heap.size (fun k_ => some k_ ≠ (.slice Ao50 y252.length co50 : Value).ownBlock ∧ some k_ ≠ (v258 : Value).ownBlock ∧ some k_ ≠ (.slice Ao55 t261.length co55 : Value).ownBlock ∧ some k_ ≠ (.slice Ao54 t265.length co54 : Value).ownBlock ∧ some k_ ≠ (s_.2.2 : Value).ownBlock) (.slice Ao48 t242.length co48) t242) ∧ (Kd.R (Kd.int .u8) 5 w' w.heap.size (fun k_ => some k_ ≠ (.slice Ao48 t242.length co48 : Value).ownBlock ∧ some k_ ≠ (v258 : Value).ownBlock ∧ some k_ ≠ (.slice Ao55 t261.length co55 : Value).ownBlock ∧ some k_ ≠ (.slice Ao54 t265.length co54 : Value).ownBlock ∧ some k_ ≠ (s_.2.2 : Value).ownBlock) (.slice Ao50 y252.length co50) y252) ∧ (Kd.R (Kd.int .u8) 5 w' w.heap.size (fun k_ => some k_ ≠ (.slice Ao48 t242.length co48 : Value).ownBlock ∧ some k_ ≠ (.slice Ao50 y252.length co50 : Value).ownBlock ∧ some k_ ≠ (.slice Ao55 t261.length co55 : Value).ownBlock ∧ some k_ ≠ (.slice Ao54 t265.length co54 : Value).ownBlock ∧ some k_ ≠ (s_.2.2 : Value).ownBlock) v258 t256) ∧ (Kd.R (Kd.int .u8) 5 w' w.heap.size (fun k_ => some k_ ≠ (.slice Ao48 t242.length co48 : Value).ownBlock ∧ some k_ ≠ (.slice Ao50 y252.length co50 : Value).ownBlock ∧ some k_ ≠ (v258 : Value).ownBlock ∧ some k_ ≠ (.slice Ao54 t265.length co54 : Value).ownBlock ∧ some k_ ≠ (s_.2.2 : Value).ownBlock) (.slice Ao55 t261.length co55) t261) ∧ (Kd.R (Kd.int .u8) 5 w' w.heap.size (fun k_ => some k_ ≠ (.slice Ao48 t242.length co48 : Value).ownBlock ∧ some k_ ≠ (.slice Ao50 y252.length co50 : Value).ownBlock ∧ some k_ ≠ (v258 : Value).ownBlock ∧ some k_ ≠ (.slice Ao55 t261.length co55 : Value).ownBlock ∧ some k_ ≠ (s_.2.2 : Value).ownBlock) (.slice Ao54 t265.length co54) t265) ∧ (Kd.R (Kd.int .u8) 5 w' w.heap.size (fun k_ => some k_ ≠ (.slice Ao48 t242.length co48 : Value).ownBlock ∧ some k_ ≠ (.slice Ao50 y252.length co50 : Value).ownBlock ∧ some k_ ≠ (v258 : Value).ownBlock ∧ some k_ ≠ (.slice Ao55 t261.length co55 : Value).ownBlock ∧ some k_ ≠ (.slice Ao54 t265.length co54 : Value).ownBlock) s_.2.2 y275) ∧ (Below w.heap.size w w')) ?_ ?_
                                      rotate_left
                                      · intro hJ6_8_10
                                        refine join_ (σ := Value × Value) 6 #[true, true, true, true, true, true, true, true, true, true, false, false, true, true, false, false, false, false] (fun s_ => [(111, s_.1), (113, s_.2), (118, .string (strOfNums l2))]) (fun s_ w' => (Kd.R (Kd.int .u8) 5 w' w.heap.size (fun k_ => some k_ ≠ (.slice Ao50 y252.length co50 : Value).ownBlock ∧ some k_ ≠ (v258 : Value).ownBlock ∧ some k_ ≠ (.slice Ao55 t261.length co55 : Value).ownBlock ∧ some k_ ≠ (.slice Ao54 t265.length co54 : Value).ownBlock ∧ some k_ ≠ (s_.2 : Value).ownBlock) (.slice Ao48 t242.length co48) t242) ∧ (Kd.R (Kd.int .u8) 5 w' w.heap.size (fun k_ => some k_ ≠ (.slice Ao48 t242.length co48 : Value).ownBlock ∧ some k_ ≠ (v258 : Value).ownBlock ∧ some k_ ≠ (.slice Ao55 t261.length co55 : Value).ownBlock ∧ some k_ ≠ (.slice Ao54 t265.length co54 : Value).ownBlock ∧ some k_ ≠ (s_.2 : Value).ownBlock) (.slice Ao50 y252.length co50) y252) ∧ (Kd.R (Kd.int .u8) 5 w' w.heap.size (fun k_ => some k_ ≠ (.slice Ao48 t242.length co48 : Value).ownBlock ∧ some k_ ≠ (.slice Ao50 y252.length co50 : Value).ownBlock ∧ some k_ ≠ (.slice Ao55 t261.length co55 : Value).ownBlock ∧ some k_ ≠ (.slice Ao54 t265.length co54 : Value).ownBlock ∧ some k_ ≠ (s_.2 : Value).ownBlock) v258 t256) ∧ (Kd.R (Kd.int .u8) 5 w' w.heap.size (fun k_ => some k_ ≠ (.slice Ao48 t242.length co48 : Value).ownBlock ∧ some k_ ≠ (.slice Ao50 y252.length co50 : Value).ownBlock ∧ some k_ ≠ (v258 : Value).ownBlock ∧ some k_ ≠ (.slice Ao54 t265.length co54 : Value).ownBlock ∧ some k_ ≠ (s_.2 : Value).ownBlock) (.slice Ao55 t261.length co55) t261) ∧ (Kd.R (Kd.int .u8) 5 w' w.heap.size (fun k_ => some k_ ≠ (.slice Ao48 t242.length co48 : Value).ownBlock ∧ some k_ ≠ (.slice Ao50 y252.length co50 : Value).ownBlock ∧ some k_ ≠ (v258 : Value).ownBlock ∧ some k_ ≠ (.slice Ao55 t261.length co55 : Value).ownBlock ∧ some k_ ≠ (s_.2 : Value).ownBlock) (.slice Ao54 t265.length co54) t265) ∧ (Kd.R (Kd.int .u8) 5 w' w.heap.size (fun k_ => some k_ ≠ (.slice Ao48 t242.length co48 : Value).ownBlock ∧ some k_ ≠ (.slice Ao50 y252.length co50 : Value).ownBlock ∧ some k_ ≠ (v258 : Value).ownBlock ∧ some k_ ≠ (.slice Ao55 t261.length co55 : Value).ownBlock ∧ some k_ ≠ (.slice Ao54 t265.length co54 : Value).ownBlock) s_.2 y272) ∧ (Below w.heap.size w w')) ?_ ?_
                                        rotate_left
                                        · intro hJ6_8_13
                                          refine join_ (σ := Value × Value) 7 #[true, true, true, true, true, true, true, true, true, true, false, false, true, false, false, false, false, false] (fun s_ => [(111, s_.1), (113, s_.2)]) (fun s_ w' => (Kd.R (Kd.int .u8) 5 w' w.heap.size (fun k_ => some k_ ≠ (.slice Ao50 y252.length co50 : Value).ownBlock ∧ some k_ ≠ (v258 : Value).ownBlock ∧ some k_ ≠ (.slice Ao55 t261.length co55 : Value).ownBlock ∧ some k_ ≠ (.slice Ao54 t265.length co54 : Value).ownBlock ∧ some k_ ≠ (s_.2 : Value).ownBlock) (.slice Ao48 t242.length co48) t242) ∧ (Kd.R (Kd.int .u8) 5 w' w.heap.size (fun k_ => some k_ ≠ (.slice Ao48 t242.length co48 : Value).ownBlock ∧ some k_ ≠ (v258 : Value).ownBlock ∧ some k_ ≠ (.slice Ao55 t261.length co55 : Value).ownBlock ∧ some k_ ≠ (.slice Ao54 t265.length co54 : Value).ownBlock ∧ some k_ ≠ (s_.2 : Value).ownBlock) (.slice Ao50 y252.length co50) y252) ∧ (Kd.R (Kd.int .u8) 5 w' w.heap.size (fun k_ => some k_ ≠ (.slice Ao48 t242.length co48 : Value).ownBlock ∧ some k_ ≠ (.slice Ao50 y252.length co50 : Value).ownBlock ∧ some k_ ≠ (.slice Ao55 t261.length co55 : Value).ownBlock ∧ some k_ ≠ (.slice Ao54 t265.length co54 : Value).ownBlock ∧ some k_ ≠ (s_.2 : Value).ownBlock) v258 t256) ∧ (Kd.R (Kd.int .u8) 5 w' w.heap.size (fun k_ => some k_ ≠ (.slice Ao48 t242.length co48 : Value).ownBlock ∧ some k_ ≠ (.slice Ao50 y252.length co50 : Value).ownBlock ∧ some k_ ≠ (v258 : Value).ownBlock ∧ some k_ ≠ (.slice Ao54 t265.length co54 : Value).ownBlock ∧ some k_ ≠ (s_.2 : Value).ownBlock) (.slice Ao55 t261.length co55) t261) ∧ (Kd.R (Kd.int .u8) 5 w' w.heap.size (fun k_ => some k_ ≠ (.slice Ao48 t242.length co48 : Value).ownBlock ∧ some k_ ≠ (.slice Ao50 y252.length co50 : Value).ownBlock ∧ some k_ ≠ (v258 : Value).ownBlock ∧ some k_ ≠ (.slice Ao55 t261.length co55 : Value).ownBlock ∧ some k_ ≠ (s_.2 : Value).ownBlock) (.slice Ao54 t265.length co54) t265) ∧ (Kd.R (Kd.int .u8) 5 w' w.heap.size (fun k_ => some k_ ≠ (.slice Ao48 t242.length co48 : Value).ownBlock ∧ some k_ ≠ (.slice Ao50 y252.length co50 : Value).ownBlock ∧ some k_ ≠ (v258 : Value).ownBlock ∧ some k_ ≠ (.slice Ao55 t261.length co55 : Value).ownBlock ∧ some k_ ≠ (.slice Ao54 t265.length co54 : Value).ownBlock) s_.2 y272) ∧ (Below w.heap.size w w')) ?_ ?_
                                          rotate_left
                                          · intro hJ6_8
                                            refine join_ (σ := Value) 7 #[true, true, true, true, true, true, true, true, false, true, false, false, true, true, false, false, false, false] (fun s_ => [(111, s_), (118, .string (strOfNums l2))]) (fun s_ w' => (Kd.R (Kd.int .u8) 5 w' w.heap.size (fun k_ => some k_ ≠ (.slice Ao50 y252.length co50 : Value).ownBlock ∧ some k_ ≠ (v258 : Value).ownBlock ∧ some k_ ≠ (.slice Ao55 t261.length co55 : Value).ownBlock ∧ some k_ ≠ (.slice Ao54 t265.length co54 : Value).ownBlock ∧ some k_ ≠ (s_ : Value).ownBlock) (.slice Ao48 t242.length co48) t242) ∧ (Kd.R (Kd.int .u8) 5 w' w.heap.size (fun k_ => some k_ ≠ (.slice Ao48 t242.length co48 : Value).ownBlock ∧ some k_ ≠ (v258 : Value).ownBlock ∧ some k_ ≠ (.slice Ao55 t261.length co55 : Value).ownBlock ∧ some k_ ≠ (.slice Ao54 t265.length co54 : Value).ownBlock ∧ some k_ ≠ (s_ : Value).ownBlock) (.slice Ao50 y252.length co50) y252) ∧ (Kd.R (Kd.int .u8) 5 w' w.heap.size (fun k_ => some k_ ≠ (.slice Ao48 t242.length co48 : Value).ownBlock ∧ some k_ ≠ (.slice Ao50 y252.length co50 : Value).ownBlock ∧ some k_ ≠ (.slice Ao55 t261.length co55 : Value).ownBlock ∧ some k_ ≠ (.slice Ao54 t265.length co54 : Value).ownBlock ∧ some k_ ≠ (s_ : Value).ownBlock) v258 t256) ∧ (Kd.R (Kd.int .u8) 5 w' w.heap.size (fun k_ => some k_ ≠ (.slice Ao48 t242.length co48 : Value).ownBlock ∧ some k_ ≠ (.slice Ao50 y252.length co50 : Value).ownBlock ∧ some k_ ≠ (v258 : Value).ownBlock ∧ some k_ ≠ (.slice Ao54 t265.length co54 : Value).ownBlock ∧ some k_ ≠ (s_ : Value).ownBlock) (.slice Ao55 t261.length co55) t261) ∧ (Kd.R (Kd.int .u8) 5 w' w.heap.size (fun k_ => some k_ ≠ (.slice Ao48 t242.length co48 : Value).ownBlock ∧ some k_ ≠ (.slice Ao50 y252.length co50 : Value).ownBlock ∧ some k_ ≠ (v258 : Value).ownBlock ∧ some k_ ≠ (.slice Ao55 t261.length co55 : Value).ownBlock ∧ some k_ ≠ (s_ : Value).ownBlock) (.slice Ao54 t265.length co54) t265) ∧ (Kd.R (Kd.int .u8) 5 w' w.heap.size (fun k_ => some k_ ≠ (.slice Ao48 t242.length co48 : Value).ownBlock ∧ some k_ ≠ (.slice Ao50 y252.length co50 : Value).ownBlock ∧ some k_ ≠ (v258 : Value).ownBlock ∧ some k_ ≠ (.slice Ao55 t261.length co55 : Value).ownBlock ∧ some k_ ≠ (.slice Ao54 t265.length co54 : Value).ownBlock) s_ y269) ∧ (Below w.heap.size w w')) ?_ ?_
                                            rotate_left
                                            · intro hJ6_13
                                              refine join_ (σ := Value) 8 #[true, true, true, true, true, true, true, true, false, true, false, false, true, false, false, false, false, false] (fun s_ => [(111, s_)]) (fun s_ w' => (Kd.R (Kd.int .u8) 5 w' w.heap.size (fun k_ => some k_ ≠ (.slice Ao50 y252.length co50 : Value).ownBlock ∧ some k_ ≠ (v258 : Value).ownBlock ∧ some k_ ≠ (.slice Ao55 t261.length co55 : Value).ownBlock ∧ some k_ ≠ (.slice Ao54 t265.length co54 : Value).ownBlock ∧ some k_ ≠ (s_ : Value).ownBlock) (.slice Ao48 t242.length co48) t242) ∧ (Kd.R (Kd.int .u8) 5 w' w.heap.size (fun k_ => some k_ ≠ (.slice Ao48 t242.length co48 : Value).ownBlock ∧ some k_ ≠ (v258 : Value).ownBlock ∧ some k_ ≠ (.slice Ao55 t261.length co55 : Value).ownBlock ∧ some k_ ≠ (.slice Ao54 t265.length co54 : Value).ownBlock ∧ some k_ ≠ (s_ : Value).ownBlock) (.slice Ao50 y252.length co50) y252) ∧ (Kd.R (Kd.int .u8) 5 w' w.heap.size (fun k_ => some k_ ≠ (.slice Ao48 t242.length co48 : Value).ownBlock ∧ some k_ ≠ (.slice Ao50 y252.length co50 : Value).ownBlock ∧ some k_ ≠ (.slice Ao55 t261.length co55 : Value).ownBlock ∧ some k_ ≠ (.slice Ao54 t265.length co54 : Value).ownBlock ∧ some k_ ≠ (s_ : Value).ownBlock) v258 t256) ∧ (Kd.R (Kd.int .u8) 5 w' w.heap.size (fun k_ => some k_ ≠ (.slice Ao48 t242.length co48 : Value).ownBlock ∧ some k_ ≠ (.slice Ao50 y252.length co50 : Value).ownBlock ∧ some k_ ≠ (v258 : Value).ownBlock ∧ some k_ ≠ (.slice Ao54 t265.length co54 : Value).ownBlock ∧ some k_ ≠ (s_ : Value).ownBlock) (.slice Ao55 t261.length co55) t261) ∧ (Kd.R (Kd.int .u8) 5 w' w.heap.size (fun k_ => some k_ ≠ (.slice Ao48 t242.length co48 : Value).ownBlock ∧ some k_ ≠ (.slice Ao50 y252.length co50 : Value).ownBlock ∧ some k_ ≠ (v258 : Value).ownBlock ∧ some k_ ≠ (.slice Ao55 t261.length co55 : Value).ownBlock ∧ some k_ ≠ (s_ : Value).ownBlock) (.slice Ao54 t265.length co54) t265) ∧ (Kd.R (Kd.int .u8) 5 w' w.heap.size (fun k_ => some k_ ≠ (.slice Ao48 t242.length co48 : Value).ownBlock ∧ some k_ ≠ (.slice Ao50 y252.length co50 : Value).ownBlock ∧ some k_ ≠ (v258 : Value).ownBlock ∧ some k_ ≠ (.slice Ao55 t261.length co55 : Value).ownBlock ∧ some k_ ≠ (.slice Ao54 t265.length co54 : Value).ownBlock) s_ y269) ∧ (Below w.heap.size w w')) ?_ ?_
                                              rotate_left
                                              · intro hJ6
                                                refine join_ (σ := Unit) 8 #[true, true, true, true, true, true, false, true, false, true, false, false, true, true, false, false, false, false] (fun s_ => [(118, .string (strOfNums l2))]) (fun s_ w' => (Kd.R (Kd.int .u8) 5 w' w.heap.size (fun k_ => some k_ ≠ (.slice Ao50 y252.length co50 : Value).ownBlock ∧ some k_ ≠ (v258 : Value).ownBlock ∧ some k_ ≠ (.slice Ao55 t261.length co55 : Value).ownBlock ∧ some k_ ≠ (.slice Ao54 t265.length co54 : Value).ownBlock) (.slice Ao48 t242.length co48) t242) ∧ (Kd.R (Kd.int .u8) 5 w' w.heap.size (fun k_ => some k_ ≠ (.slice Ao48 t242.length co48 : Value).ownBlock ∧ some k_ ≠ (v258 : Value).ownBlock ∧ some k_ ≠ (.slice Ao55 t261.length co55 : Value).ownBlock ∧ some k_ ≠ (.slice Ao54 t265.length co54 : Value).ownBlock) (.slice Ao50 y252.length co50) y252) ∧ (Kd.R (Kd.int .u8) 5 w' w.heap.size (fun k_ => some k_ ≠ (.slice Ao48 t242.length co48 : Value).ownBlock ∧ some k_ ≠ (.slice Ao50 y252.length co50 : Value).ownBlock ∧ some k_ ≠ (.slice Ao55 t261.length co55 : Value).ownBlock ∧ some k_ ≠ (.slice Ao54 t265.length co54 : Value).ownBlock) v258 t256) ∧ (Kd.R (Kd.int .u8) 5 w' w.heap.size (fun k_ => some k_ ≠ (.slice Ao48 t242.length co48 : Value).ownBlock ∧ some k_ ≠ (.slice Ao50 y252.length co50 : Value).ownBlock ∧ some k_ ≠ (v258 : Value).ownBlock ∧ some k_ ≠ (.slice Ao54 t265.length co54 : Value).ownBlock) (.slice Ao55 t261.length co55) t261) ∧ (Kd.R (Kd.int .u8) 5 w' w.heap.size (fun k_ => some k_ ≠ (.slice Ao48 t242.length co48 : Value).ownBlock ∧ some k_ ≠ (.slice Ao50 y252.length co50 : Value).ownBlock ∧ some k_ ≠ (v258 : Value).ownBlock ∧ some k_ ≠ (.slice Ao55 t261.length co55 : Value).ownBlock) (.slice Ao54 t265.length co54) t265) ∧ (Below w.heap.size w w')) ?_ ?_
                                                rotate_left
                                                · intro hJ13
                                                  refine two_ (i := 6) (j := 13) (Ni := some 111) (Nj := some 118) #[true, true, true, true, true, true, true, true, false, true, false, false, true, false, false, false, false, false] #[true, true, true, true, true, true, false, true, false, true, false, false, true, true, false, false, false, false] rfl rfl rfl rfl (two_of HT_.out (by kernel_rfl)) (by decide) (by decide) (fun K hK => ?_) (fun K hK => ?_)
                                                  · skip
                                                    refine Kd.R_lit_step (Kd.int .u8) _ 5 ?hg (N := 111) ?hd (xs := ([] : List Int)) (inner := []) (ok := fun _ => True) (okp := fun _ => True) ?hr ?hp (fun _ hk => hk) trivial (Below.refl _ _) (Nat.le_refl _) (by simp) ?_; (case hd => rfl); (case hg => rfl); (case hr => first | (go_simp; done) | (go_simp; rfl)); (case hp => exact (Reps.none _ _))
                                                    intro v270 w57 ho58 hb hg_ hnew_
                                                    clear hg_ hnew_
                                                    (first | rw [← Ny269.out] at ho58 | (simp only [Int.reduceToNat] at ho58; rw [← Ny269.out] at ho58))
                                                    have n0_ := Aside0.mk (Kd.R_elder' (by (with_reducible repeat (first | apply Kd.R_alloc | apply Kd.R_drewN | apply Kd.R_drew)); exact HO245.out) (Kd.R_base ho58) hb)
                                                    have n1_ := Aside0.mk (Kd.R_elder' (by (with_reducible repeat (first | apply Kd.R_alloc | apply Kd.R_drewN | apply Kd.R_drew)); exact HO254.out) (Kd.R_base ho58) hb)
                                                    have n2_ := Aside0.mk (Kd.R_elder' (by (with_reducible repeat (first | apply Kd.R_alloc | apply Kd.R_drewN | apply Kd.R_drew)); exact HO259.out) (Kd.R_base ho58) hb)
                                                    have n3_ := Aside0.mk (Kd.R_elder' (by (with_reducible repeat (first | apply Kd.R_alloc | apply Kd.R_drewN | apply Kd.R_drew)); exact HO264.out) (Kd.R_base ho58) hb)
                                                    have n4_ := Aside0.mk (Kd.R_elder' (by (with_reducible repeat (first | apply Kd.R_alloc | apply Kd.R_drewN | apply Kd.R_drew)); exact HO268.out) (Kd.R_base ho58) hb)
                                                    have n5_ := Aside0.mk (Kd.R_lower (Kd.R_new' (Kd.R_new' (Kd.R_new' (Kd.R_new' (Kd.R_new' ho58 (Kd.R_lt (by (with_reducible repeat (first | apply Kd.R_alloc | apply Kd.R_drewN | apply Kd.R_drew)); exact HO245.out))) (Kd.R_lt (by (with_reducible repeat (first | apply Kd.R_alloc | apply Kd.R_drewN | apply Kd.R_drew)); exact HO254.out))) (Kd.R_lt (by (with_reducible repeat (first | apply Kd.R_alloc | apply Kd.R_drewN | apply Kd.R_drew)); exact HO259.out))) (Kd.R_lt (by (with_reducible repeat (first | apply Kd.R_alloc | apply Kd.R_drewN | apply Kd.R_drew)); exact HO264.out))) (Kd.R_lt (by (with_reducible repeat (first | apply Kd.R_alloc | apply Kd.R_drewN | apply Kd.R_drew)); exact HO268.out))) (below_size (by repeat (first | (with_reducible first | exact HB.out | apply below_alloc | apply pw_below_drewN | apply below_drew1) | exact HB.out))))
                                                    have n6_ := Aside0.mk (below_step (by repeat (first | (with_reducible first | exact HB.out | apply below_alloc | apply pw_below_drewN | apply below_drew1) | exact HB.out)) hb)
                                                    clear HO245
                                                    clear HO254
                                                    clear HO259
                                                    clear HO264
                                                    clear HO268
                                                    clear HB
                                                    have HO245 := n0_
                                                    have HO254 := n1_
                                                    have HO259 := n2_
                                                    have HO264 := n3_
                                                    have HO268 := n4_
                                                    have HO271 := n5_
                                                    have HB := n6_
                                                    clear n0_ n1_ n2_ n3_ n4_ n5_ n6_
                                                    clear hb ho58
                                                    refine hK.out _ _ trivial (fun hHeld => ?_)
                                                    clear hK K
                                                    refine norm_ (a' := ?_) ?_ ?_
                                                    rotate_left
                                                    · show Act.put _ (some 111) _ = _
                                                      simp only [Act.put, List.setIfInBounds_toArray, List.set_cons_zero, List.set_cons_succ, i64_w, i32_w]
                                                      rfl
                                                    exact norm_ (by first | (simp only [putAll, Act.put, List.setIfInBounds_toArray, List.set_cons_zero, List.set_cons_succ]; done) | (simp only [putAll, Act.put, List.setIfInBounds_toArray, List.set_cons_zero, List.set_cons_succ]; rfl)) (hJ6 (v270) _ ⟨(by (with_reducible repeat (first | apply Kd.R_alloc | apply Kd.R_drewN | apply Kd.R_drew)); exact Kd.R_mono HO245.out (fun _ hk => ⟨hk.1.1.1.1.2, ⟨hk.1.1.1.2, ⟨hk.1.1.2, ⟨hk.1.2, hk.2⟩⟩⟩⟩)), (by (with_reducible repeat (first | apply Kd.R_alloc | apply Kd.R_drewN | apply Kd.R_drew)); exact Kd.R_mono HO254.out (fun _ hk => ⟨hk.1.1.1.1, ⟨hk.1.1.1.2, ⟨hk.1.1.2, ⟨hk.1.2, hk.2⟩⟩⟩⟩)), (by (with_reducible repeat (first | apply Kd.R_alloc | apply Kd.R_drewN | apply Kd.R_drew)); exact Kd.R_mono HO259.out (fun _ hk => ⟨hk.1.1.1.1.2, ⟨hk.1.1.1.2, ⟨hk.1.1.2, ⟨hk.1.2, hk.2⟩⟩⟩⟩)), (by (with_reducible repeat (first | apply Kd.R_alloc | apply Kd.R_drewN | apply Kd.R_drew)); exact Kd.R_mono HO264.out (fun _ hk => ⟨hk.1.1.1.1.2, ⟨hk.1.1.1.2, ⟨hk.1.1.2, ⟨hk.1.2, hk.2⟩⟩⟩⟩)), (by (with_reducible repeat (first | apply Kd.R_alloc | apply Kd.R_drewN | apply Kd.R_drew)); exact Kd.R_mono HO268.out (fun _ hk => ⟨hk.1.1.1.1.2, ⟨hk.1.1.1.2, ⟨hk.1.1.2, ⟨hk.1.2, hk.2⟩⟩⟩⟩)), (by (with_reducible repeat (first | apply Kd.R_alloc | apply Kd.R_drewN | apply Kd.R_drew)); exact Kd.R_mono HO271.out (fun _ hk => ⟨hk.1.1.1.1.2, ⟨hk.1.1.1.2, ⟨hk.1.1.2, ⟨hk.1.2, hk.2⟩⟩⟩⟩)), (by repeat (first | (with_reducible first | exact HB.out | apply below_alloc | apply pw_below_drewN | apply below_drew1) | exact HB.out))⟩)
                                                  · skip
                                                    have hcv57 := Kd.C_string (P := Try.prog) (A := A2) (c := c2) Try.underlying22 Try.underlying5 Try.underlying9 (Kd.C_below HR2.out HB.out)
                                                    refine value_ (w1 := ?_) (v := ?_) (by rfl) rfl ?_ ?_
                                                    rotate_left 2
                                                    · go_simp
                                                      constructor
                                                      · rfl
                                                      · rfl
                                                    clear hcv57
                                                    refine hK.out _ _ trivial (fun hHeld => ?_)
                                                    clear hK K
                                                    refine norm_ (a' := ?_) ?_ ?_
                                                    rotate_left
                                                    · show Act.put _ (some 118) _ = _
                                                      simp only [Act.put, List.setIfInBounds_toArray, List.set_cons_zero, List.set_cons_succ, i64_w, i32_w]
                                                      rfl
                                                    exact norm_ (by first | (simp only [putAll, Act.put, List.setIfInBounds_toArray, List.set_cons_zero, List.set_cons_succ]; done) | (simp only [putAll, Act.put, List.setIfInBounds_toArray, List.set_cons_zero, List.set_cons_succ]; rfl)) (hJ13 () _ ⟨(by (with_reducible repeat (first | apply Kd.R_alloc | apply Kd.R_drewN | apply Kd.R_drew)); exact Kd.R_mono HO245.out (fun _ hk => ⟨hk.1.1.1.2, ⟨hk.1.1.2, ⟨hk.1.2, hk.2⟩⟩⟩)), (by (with_reducible repeat (first | apply Kd.R_alloc | apply Kd.R_drewN | apply Kd.R_drew)); exact Kd.R_mono HO254.out (fun _ hk => ⟨hk.1.1.1, ⟨hk.1.1.2, ⟨hk.1.2, hk.2⟩⟩⟩)), (by (with_reducible repeat (first | apply Kd.R_alloc | apply Kd.R_drewN | apply Kd.R_drew)); exact Kd.R_mono HO259.out (fun _ hk => ⟨hk.1.1.1.2, ⟨hk.1.1.2, ⟨hk.1.2, hk.2⟩⟩⟩)), (by (with_reducible repeat (first | apply Kd.R_alloc | apply Kd.R_drewN | apply Kd.R_drew)); exact Kd.R_mono HO264.out (fun _ hk => ⟨hk.1.1.1.2, ⟨hk.1.1.2, ⟨hk.1.2, hk.2⟩⟩⟩)), (by (with_reducible repeat (first | apply Kd.R_alloc | apply Kd.R_drewN | apply Kd.R_drew)); exact Kd.R_mono HO268.out (fun _ hk => ⟨hk.1.1.1.2, ⟨hk.1.1.2, ⟨hk.1.2, hk.2⟩⟩⟩)), (by repeat (first | (with_reducible first | exact HB.out | apply below_alloc | apply pw_below_drewN | apply below_drew1) | exact HB.out))⟩)
                                                · skip
                                                  rintro _ w58 ⟨h0_, h1_, h2_, h3_, h4_, h5_⟩
                                                  have n0_ : Aside0 (Kd.R (Kd.int .u8) 5 w58 w.heap.size (fun k_ => some k_ ≠ (.slice Ao50 y252.length co50 : Value).ownBlock ∧ some k_ ≠ (v258 : Value).ownBlock ∧ some k_ ≠ (.slice Ao55 t261.length co55 : Value).ownBlock ∧ some k_ ≠ (.slice Ao54 t265.length co54 : Value).ownBlock) (.slice Ao48 t242.length co48) t242) := ⟨h0_⟩
                                                  have n1_ : Aside0 (Kd.R (Kd.int .u8) 5 w58 w.heap.size (fun k_ => some k_ ≠ (.slice Ao48 t242.length co48 : Value).ownBlock ∧ some k_ ≠ (v258 : Value).ownBlock ∧ some k_ ≠ (.slice Ao55 t261.length co55 : Value).ownBlock ∧ some k_ ≠ (.slice Ao54 t265.length co54 : Value).ownBlock) (.slice Ao50 y252.length co50) y252) := ⟨h1_⟩
                                                  have n2_ : Aside0 (Kd.R (Kd.int .u8) 5 w58 w.heap.size (fun k_ => some k_ ≠ (.slice Ao48 t242.length co48 : Value).ownBlock ∧ some k_ ≠ (.slice Ao50 y252.length co50 : Value).ownBlock ∧ some k_ ≠ (.slice Ao55 t261.length co55 : Value).ownBlock ∧ some k_ ≠ (.slice Ao54 t265.length co54 : Value).ownBlock) v258 t256) := ⟨h2_⟩
                                                  have n3_ : Aside0 (Kd.R (Kd.int .u8) 5 w58 w.heap.size (fun k_ => some k_ ≠ (.slice Ao48 t242.length co48 : Value).ownBlock ∧ some k_ ≠ (.slice Ao50 y252.length co50 : Value).ownBlock ∧ some k_ ≠ (v258 : Value).ownBlock ∧ some k_ ≠ (.slice Ao54 t265.length co54 : Value).ownBlock) (.slice Ao55 t261.length co55) t261) := ⟨h3_⟩
                                                  have n4_ : Aside0 (Kd.R (Kd.int .u8) 5 w58 w.heap.size (fun k_ => some k_ ≠ (.slice Ao48 t242.length co48 : Value).ownBlock ∧ some k_ ≠ (.slice Ao50 y252.length co50 : Value).ownBlock ∧ some k_ ≠ (v258 : Value).ownBlock ∧ some k_ ≠ (.slice Ao55 t261.length co55 : Value).ownBlock) (.slice Ao54 t265.length co54) t265) := ⟨h4_⟩
                                                  have n5_ : Aside0 (Below w.heap.size w w58) := ⟨h5_⟩
                                                  clear HO245
                                                  clear HO254
                                                  clear HO259
                                                  clear HO264
                                                  clear HO268
                                                  clear HB
                                                  clear h0_ h1_ h2_ h3_ h4_ h5_
                                                  have HO245 := n0_
                                                  have HO254 := n1_
                                                  have HO259 := n2_
                                                  have HO264 := n3_
                                                  have HO268 := n4_
                                                  have HB := n5_
                                                  clear n0_ n1_ n2_ n3_ n4_ n5_
                                                  have hHeld := trivial
                                                  refine norm_ (a' := ?_) ?_ ?_
                                                  rotate_left
                                                  · simp only [putAll, Act.put, List.setIfInBounds_toArray, List.set_cons_zero, List.set_cons_succ]
                                                    rfl
                                                  refine one_ (i := 6) (N := some 111) #[true, true, true, true, true, true, true, true, false, true, false, false, true, true, false, false, false, false] rfl rfl (one_of HT_.out (by kernel_rfl)) (by decide) (fun K hK => ?_)
                                                  refine Kd.R_lit_step (Kd.int .u8) _ 5 ?hg (N := 111) ?hd (xs := ([] : List Int)) (inner := []) (ok := fun _ => True) (okp := fun _ => True) ?hr ?hp (fun _ hk => hk) trivial (Below.refl _ _) (Nat.le_refl _) (by simp) ?_; (case hd => rfl); (case hg => rfl); (case hr => first | (go_simp; done) | (go_simp; rfl)); (case hp => exact (Reps.none _ _))
                                                  intro v270 w59 ho60 hb hg_ hnew_
                                                  clear hg_ hnew_
                                                  (first | rw [← Ny269.out] at ho60 | (simp only [Int.reduceToNat] at ho60; rw [← Ny269.out] at ho60))
                                                  have n0_ := Aside0.mk (Kd.R_elder' (by (with_reducible repeat (first | apply Kd.R_alloc | apply Kd.R_drewN | apply Kd.R_drew)); exact HO245.out) (Kd.R_base ho60) hb)
                                                  have n1_ := Aside0.mk (Kd.R_elder' (by (with_reducible repeat (first | apply Kd.R_alloc | apply Kd.R_drewN | apply Kd.R_drew)); exact HO254.out) (Kd.R_base ho60) hb)
                                                  have n2_ := Aside0.mk (Kd.R_elder' (by (with_reducible repeat (first | apply Kd.R_alloc | apply Kd.R_drewN | apply Kd.R_drew)); exact HO259.out) (Kd.R_base ho60) hb)
                                                  have n3_ := Aside0.mk (Kd.R_elder' (by (with_reducible repeat (first | apply Kd.R_alloc | apply Kd.R_drewN | apply Kd.R_drew)); exact HO264.out) (Kd.R_base ho60) hb)
                                                  have n4_ := Aside0.mk (Kd.R_elder' (by (with_reducible repeat (first | apply Kd.R_alloc | apply Kd.R_drewN | apply Kd.R_drew)); exact HO268.out) (Kd.R_base ho60) hb)
                                                  have n5_ := Aside0.mk (Kd.R_lower (Kd.R_new' (Kd.R_new' (Kd.R_new' (Kd.R_new' (Kd.R_new' ho60 (Kd.R_lt (by (with_reducible repeat (first | apply Kd.R_alloc | apply Kd.R_drewN | apply Kd.R_drew)); exact HO245.out))) (Kd.R_lt (by (with_reducible repeat (first | apply Kd.R_alloc | apply Kd.R_drewN | apply Kd.R_drew)); exact HO254.out))) (Kd.R_lt (by (with_reducible repeat (first | apply Kd.R_alloc | apply Kd.R_drewN | apply Kd.R_drew)); exact HO259.out))) (Kd.R_lt (by (with_reducible repeat (first | apply Kd.R_alloc | apply Kd.R_drewN | apply Kd.R_drew)); exact HO264.out))) (Kd.R_lt (by (with_reducible repeat (first | apply Kd.R_alloc | apply Kd.R_drewN | apply Kd.R_drew)); exact HO268.out))) (below_size (by repeat (first | (with_reducible first | exact HB.out | apply below_alloc | apply pw_below_drewN | apply below_drew1) | exact HB.out))))
                                                  have n6_ := Aside0.mk (below_step (by repeat (first | (with_reducible first | exact HB.out | apply below_alloc | apply pw_below_drewN | apply below_drew1) | exact HB.out)) hb)
                                                  clear HO245
                                                  clear HO254
                                                  clear HO259
                                                  clear HO264
                                                  clear HO268
                                                  clear HB
                                                  have HO245 := n0_
                                                  have HO254 := n1_
                                                  have HO259 := n2_
                                                  have HO264 := n3_
                                                  have HO268 := n4_
                                                  have HO271 := n5_
                                                  have HB := n6_
                                                  clear n0_ n1_ n2_ n3_ n4_ n5_ n6_
                                                  clear hb ho60
                                                  refine hK.out _ _ trivial (fun hHeld => ?_)
                                                  clear hK K
                                                  refine norm_ (a' := ?_) ?_ ?_
                                                  rotate_left
                                                  · show Act.put _ (some 111) _ = _
                                                    simp only [Act.put, List.setIfInBounds_toArray, List.set_cons_zero, List.set_cons_succ, i64_w, i32_w]
                                                    rfl
                                                  exact norm_ (by first | (simp only [putAll, Act.put, List.setIfInBounds_toArray, List.set_cons_zero, List.set_cons_succ]; done) | (simp only [putAll, Act.put, List.setIfInBounds_toArray, List.set_cons_zero, List.set_cons_succ]; rfl)) (hJ6_13 (v270) _ ⟨(by (with_reducible repeat (first | apply Kd.R_alloc | apply Kd.R_drewN | apply Kd.R_drew)); exact Kd.R_mono HO245.out (fun _ hk => ⟨hk.1.1, ⟨hk.1.2.1, ⟨hk.1.2.2.1, ⟨hk.1.2.2.2, hk.2⟩⟩⟩⟩)), (by (with_reducible repeat (first | apply Kd.R_alloc | apply Kd.R_drewN | apply Kd.R_drew)); exact Kd.R_mono HO254.out (fun _ hk => ⟨hk.1.1, ⟨hk.1.2.1, ⟨hk.1.2.2.1, ⟨hk.1.2.2.2, hk.2⟩⟩⟩⟩)), (by (with_reducible repeat (first | apply Kd.R_alloc | apply Kd.R_drewN | apply Kd.R_drew)); exact Kd.R_mono HO259.out (fun _ hk => ⟨hk.1.1, ⟨hk.1.2.1, ⟨hk.1.2.2.1, ⟨hk.1.2.2.2, hk.2⟩⟩⟩⟩)), (by (with_reducible repeat (first | apply Kd.R_alloc | apply Kd.R_drewN | apply Kd.R_drew)); exact Kd.R_mono HO264.out (fun _ hk => ⟨hk.1.1, ⟨hk.1.2.1, ⟨hk.1.2.2.1, ⟨hk.1.2.2.2, hk.2⟩⟩⟩⟩)), (by (with_reducible repeat (first | apply Kd.R_alloc | apply Kd.R_drewN | apply Kd.R_drew)); exact Kd.R_mono HO268.out (fun _ hk => ⟨hk.1.1, ⟨hk.1.2.1, ⟨hk.1.2.2.1, ⟨hk.1.2.2.2, hk.2⟩⟩⟩⟩)), (by (with_reducible repeat (first | apply Kd.R_alloc | apply Kd.R_drewN | apply Kd.R_drew)); exact Kd.R_mono HO271.out (fun _ hk => ⟨hk.1.1.1.1.2, ⟨hk.1.1.1.2, ⟨hk.1.1.2, ⟨hk.1.2, hk.2⟩⟩⟩⟩)), (by repeat (first | (with_reducible first | exact HB.out | apply below_alloc | apply pw_below_drewN | apply below_drew1) | exact HB.out))⟩)
                                              · skip
                                                rintro v270 w59 ⟨h0_, h1_, h2_, h3_, h4_, h5_, h6_⟩
                                                have n0_ : Aside0 (Kd.R (Kd.int .u8) 5 w59 w.heap.size (fun k_ => some k_ ≠ (.slice Ao50 y252.length co50 : Value).ownBlock ∧ some k_ ≠ (v258 : Value).ownBlock ∧ some k_ ≠ (.slice Ao55 t261.length co55 : Value).ownBlock ∧ some k_ ≠ (.slice Ao54 t265.length co54 : Value).ownBlock ∧ some k_ ≠ (v270 : Value).ownBlock) (.slice Ao48 t242.length co48) t242) := ⟨h0_⟩
                                                have n1_ : Aside0 (Kd.R (Kd.int .u8) 5 w59 w.heap.size (fun k_ => some k_ ≠ (.slice Ao48 t242.length co48 : Value).ownBlock ∧ some k_ ≠ (v258 : Value).ownBlock ∧ some k_ ≠ (.slice Ao55 t261.length co55 : Value).ownBlock ∧ some k_ ≠ (.slice Ao54 t265.length co54 : Value).ownBlock ∧ some k_ ≠ (v270 : Value).ownBlock) (.slice Ao50 y252.length co50) y252) := ⟨h1_⟩
                                                have n2_ : Aside0 (Kd.R (Kd.int .u8) 5 w59 w.heap.size (fun k_ => some k_ ≠ (.slice Ao48 t242.length co48 : Value).ownBlock ∧ some k_ ≠ (.slice Ao50 y252.length co50 : Value).ownBlock ∧ some k_ ≠ (.slice Ao55 t261.length co55 : Value).ownBlock ∧ some k_ ≠ (.slice Ao54 t265.length co54 : Value).ownBlock ∧ some k_ ≠ (v270 : Value).ownBlock) v258 t256) := ⟨h2_⟩
                                                have n3_ : Aside0 (Kd.R (Kd.int .u8) 5 w59 w.heap.size (fun k_ => some k_ ≠ (.slice Ao48 t242.length co48 : Value).ownBlock ∧ some k_ ≠ (.slice Ao50 y252.length co50 : Value).ownBlock ∧ some k_ ≠ (v258 : Value).ownBlock ∧ some k_ ≠ (.slice Ao54 t265.length co54 : Value).ownBlock ∧ some k_ ≠ (v270 : Value).ownBlock) (.slice Ao55 t261.length co55) t261) := ⟨h3_⟩
                                                have n4_ : Aside0 (Kd.R (Kd.int .u8) 5 w59 w.heap.size (fun k_ => some k_ ≠ (.slice Ao48 t242.length co48 : Value).ownBlock ∧ some k_ ≠ (.slice Ao50 y252.length co50 : Value).ownBlock ∧ some k_ ≠ (v258 : Value).ownBlock ∧ some k_ ≠ (.slice Ao55 t261.length co55 : Value).ownBlock ∧ some k_ ≠ (v270 : Value).ownBlock) (.slice Ao54 t265.length co54) t265) := ⟨h4_⟩
                                                have n5_ : Aside0 (Kd.R (Kd.int .u8) 5 w59 w.heap.size (fun k_ => some k_ ≠ (.slice Ao48 t242.length co48 : Value).ownBlock ∧ some k_ ≠ (.slice Ao50 y252.length co50 : Value).ownBlock ∧ some k_ ≠ (v258 : Value).ownBlock ∧ some k_ ≠ (.slice Ao55 t261.length co55 : Value).ownBlock ∧ some k_ ≠ (.slice Ao54 t265.length co54 : Value).ownBlock) v270 y269) := ⟨h5_⟩
                                                have n6_ : Aside0 (Below w.heap.size w w59) := ⟨h6_⟩
                                                clear HO245
                                                clear HO254
                                                clear HO259
                                                clear HO264
                                                clear HO268
                                                clear HB
                                                clear h0_ h1_ h2_ h3_ h4_ h5_ h6_
                                                have HO245 := n0_
                                                have HO254 := n1_
                                                have HO259 := n2_
                                                have HO264 := n3_
                                                have HO268 := n4_
                                                have HO271 := n5_
                                                have HB := n6_
                                                clear n0_ n1_ n2_ n3_ n4_ n5_ n6_
                                                have hHeld := trivial
                                                refine norm_ (a' := ?_) ?_ ?_
                                                rotate_left
                                                · simp only [putAll, Act.put, List.setIfInBounds_toArray, List.set_cons_zero, List.set_cons_succ]
                                                  rfl
                                                refine two_ (i := 8) (j := 13) (Ni := some 113) (Nj := some 118) #[true, true, true, true, true, true, true, true, true, true, false, false, true, false, false, false, false, false] #[true, true, true, true, true, true, true, true, false, true, false, false, true, true, false, false, false, false] rfl rfl rfl rfl (two_of HT_.out (by kernel_rfl)) (by decide) (by decide) (fun K hK => ?_) (fun K hK => ?_)
                                                · skip
                                                  refine Kd.R_append_rows_step (Kd.int .u8) (w0 := w) w.heap.size (by rfl) (.tmp 111) (.tmp 112) 22 5 (.int .u8 0) 1 rfl Try.underlying22 info5 rfl (by decide) (by omega) v270 y269 t265 _ _ _ (fun k_ => some k_ ≠ (.slice Ao48 t242.length co48 : Value).ownBlock ∧ some k_ ≠ (.slice Ao50 y252.length co50 : Value).ownBlock ∧ some k_ ≠ (v258 : Value).ownBlock ∧ some k_ ≠ (.slice Ao55 t261.length co55 : Value).ownBlock ∧ some k_ ≠ (.slice Ao54 t265.length co54 : Value).ownBlock) (fun _ => False) rfl rfl ?aO ?aR (fun _ _ h => h) (fun _ h => h.elim) ?aF ?aB ?aS ?aL ?_
                                                  (case aR => repeat (first | exact (Kd.R_reads' HO268.out).2.2 | (with_reducible refine Kd.C_alloc ?_ _) | (with_reducible refine Kd.C_drewN ?_ _) | (with_reducible refine Kd.C_drew ?_)))
                                                  (case aB => exact (by repeat (first | (with_reducible first | exact HB.out | apply below_alloc | apply pw_below_drewN | apply below_drew1) | exact HB.out)))
                                                  (case aF => exact (fun k_ hk => ⟨Kd.fresh' (Kd.R_lt (by (with_reducible repeat (first | apply Kd.R_alloc | apply Kd.R_drewN | apply Kd.R_drew)); exact HO245.out)) k_ hk, Kd.fresh' (Kd.R_lt (by (with_reducible repeat (first | apply Kd.R_alloc | apply Kd.R_drewN | apply Kd.R_drew)); exact HO254.out)) k_ hk, Kd.fresh' (Kd.R_lt (by (with_reducible repeat (first | apply Kd.R_alloc | apply Kd.R_drewN | apply Kd.R_drew)); exact HO259.out)) k_ hk, Kd.fresh' (Kd.R_lt (by (with_reducible repeat (first | apply Kd.R_alloc | apply Kd.R_drewN | apply Kd.R_drew)); exact HO264.out)) k_ hk, Kd.fresh' (Kd.R_lt (by (with_reducible repeat (first | apply Kd.R_alloc | apply Kd.R_drewN | apply Kd.R_drew)); exact HO268.out)) k_ hk⟩))
                                                  (case aO => exact (by (with_reducible repeat (first | apply Kd.R_alloc | apply Kd.R_drewN | apply Kd.R_drew)); exact HO271.out))
                                                  (case aS => exact (below_size (by repeat (first | (with_reducible first | exact HB.out | apply below_alloc | apply pw_below_drewN | apply below_drew1) | exact HB.out))))
                                                  (case aL => have := LMc36.out; omega)
                                                  intro v273 w60 ho hb hg hat
                                                  rw [← Ny272.out] at ho
                                                  have n0_ := Aside0.mk (Kd.R_after (ok := (fun k_ => some k_ ≠ (.slice Ao50 y252.length co50 : Value).ownBlock ∧ some k_ ≠ (v258 : Value).ownBlock ∧ some k_ ≠ (.slice Ao55 t261.length co55 : Value).ownBlock ∧ some k_ ≠ (.slice Ao54 t265.length co54 : Value).ownBlock)) (by (with_reducible repeat (first | apply Kd.R_alloc | apply Kd.R_drewN | apply Kd.R_drew)); exact Kd.R_mono HO245.out (fun _ hk => ⟨⟨hk.1, ⟨hk.2.1, ⟨hk.2.2.1, hk.2.2.2.1⟩⟩⟩, hk.2.2.2.2⟩)) hg hat)
                                                  have n1_ := Aside0.mk (Kd.R_after (ok := (fun k_ => some k_ ≠ (.slice Ao48 t242.length co48 : Value).ownBlock ∧ some k_ ≠ (v258 : Value).ownBlock ∧ some k_ ≠ (.slice Ao55 t261.length co55 : Value).ownBlock ∧ some k_ ≠ (.slice Ao54 t265.length co54 : Value).ownBlock)) (by (with_reducible repeat (first | apply Kd.R_alloc | apply Kd.R_drewN | apply Kd.R_drew)); exact Kd.R_mono HO254.out (fun _ hk => ⟨⟨hk.1, ⟨hk.2.1, ⟨hk.2.2.1, hk.2.2.2.1⟩⟩⟩, hk.2.2.2.2⟩)) hg hat)
                                                  have n2_ := Aside0.mk (Kd.R_after (ok := (fun k_ => some k_ ≠ (.slice Ao48 t242.length co48 : Value).ownBlock ∧ some k_ ≠ (.slice Ao50 y252.length co50 : Value).ownBlock ∧ some k_ ≠ (.slice Ao55 t261.length co55 : Value).ownBlock ∧ some k_ ≠ (.slice Ao54 t265.length co54 : Value).ownBlock)) (by (with_reducible repeat (first | apply Kd.R_alloc | apply Kd.R_drewN | apply Kd.R_drew)); exact Kd.R_mono HO259.out (fun _ hk => ⟨⟨hk.1, ⟨hk.2.1, ⟨hk.2.2.1, hk.2.2.2.1⟩⟩⟩, hk.2.2.2.2⟩)) hg hat)
                                                  have n3_ := Aside0.mk (Kd.R_after (ok := (fun k_ => some k_ ≠ (.slice Ao48 t242.length co48 : Value).ownBlock ∧ some k_ ≠ (.slice Ao50 y252.length co50 : Value).ownBlock ∧ some k_ ≠ (v258 : Value).ownBlock ∧ some k_ ≠ (.slice Ao54 t265.length co54 : Value).ownBlock)) (by (with_reducible repeat (first | apply Kd.R_alloc | apply Kd.R_drewN | apply Kd.R_drew)); exact Kd.R_mono HO264.out (fun _ hk => ⟨⟨hk.1, ⟨hk.2.1, ⟨hk.2.2.1, hk.2.2.2.1⟩⟩⟩, hk.2.2.2.2⟩)) hg hat)
                                                  have n4_ := Aside0.mk (Kd.R_after (ok := (fun k_ => some k_ ≠ (.slice Ao48 t242.length co48 : Value).ownBlock ∧ some k_ ≠ (.slice Ao50 y252.length co50 : Value).ownBlock ∧ some k_ ≠ (v258 : Value).ownBlock ∧ some k_ ≠ (.slice Ao55 t261.length co55 : Value).ownBlock)) (by (with_reducible repeat (first | apply Kd.R_alloc | apply Kd.R_drewN | apply Kd.R_drew)); exact Kd.R_mono HO268.out (fun _ hk => ⟨⟨hk.1, ⟨hk.2.1, ⟨hk.2.2.1, hk.2.2.2.1⟩⟩⟩, hk.2.2.2.2⟩)) hg hat)
                                                  have n5_ := Aside0.mk (hb)
                                                  have n6_ := Aside0.mk (ho)
                                                  clear HO245
                                                  clear HO254
                                                  clear HO259
                                                  clear HO264
                                                  clear HO268
                                                  clear HB
                                                  clear HO271
                                                  have HO245 := n0_
                                                  have HO254 := n1_
                                                  have HO259 := n2_
                                                  have HO264 := n3_
                                                  have HO268 := n4_
                                                  have HB := n5_
                                                  have HO274 := n6_
                                                  clear n0_ n1_ n2_ n3_ n4_ n5_ n6_
                                                  clear ho hb hg hat
                                                  refine hK.out _ _ trivial (fun hHeld => ?_)
                                                  clear hK K
                                                  refine norm_ (a' := ?_) ?_ ?_
                                                  rotate_left
                                                  · show Act.put _ (some 113) _ = _
                                                    simp only [Act.put, List.setIfInBounds_toArray, List.set_cons_zero, List.set_cons_succ, i64_w, i32_w]
                                                    rfl
                                                  exact norm_ (by first | (simp only [putAll, Act.put, List.setIfInBounds_toArray, List.set_cons_zero, List.set_cons_succ]; done) | (simp only [putAll, Act.put, List.setIfInBounds_toArray, List.set_cons_zero, List.set_cons_succ]; rfl)) (hJ6_8 (v270, v273) _ ⟨(by (with_reducible repeat (first | apply Kd.R_alloc | apply Kd.R_drewN | apply Kd.R_drew)); exact Kd.R_mono HO245.out (fun _ hk => ⟨hk.1.1, ⟨hk.1.2.1, ⟨hk.1.2.2.1, ⟨hk.1.2.2.2, hk.2⟩⟩⟩⟩)), (by (with_reducible repeat (first | apply Kd.R_alloc | apply Kd.R_drewN | apply Kd.R_drew)); exact Kd.R_mono HO254.out (fun _ hk => ⟨hk.1.1, ⟨hk.1.2.1, ⟨hk.1.2.2.1, ⟨hk.1.2.2.2, hk.2⟩⟩⟩⟩)), (by (with_reducible repeat (first | apply Kd.R_alloc | apply Kd.R_drewN | apply Kd.R_drew)); exact Kd.R_mono HO259.out (fun _ hk => ⟨hk.1.1, ⟨hk.1.2.1, ⟨hk.1.2.2.1, ⟨hk.1.2.2.2, hk.2⟩⟩⟩⟩)), (by (with_reducible repeat (first | apply Kd.R_alloc | apply Kd.R_drewN | apply Kd.R_drew)); exact Kd.R_mono HO264.out (fun _ hk => ⟨hk.1.1, ⟨hk.1.2.1, ⟨hk.1.2.2.1, ⟨hk.1.2.2.2, hk.2⟩⟩⟩⟩)), (by (with_reducible repeat (first | apply Kd.R_alloc | apply Kd.R_drewN | apply Kd.R_drew)); exact Kd.R_mono HO268.out (fun _ hk => ⟨hk.1.1, ⟨hk.1.2.1, ⟨hk.1.2.2.1, ⟨hk.1.2.2.2, hk.2⟩⟩⟩⟩)), (by (with_reducible repeat (first | apply Kd.R_alloc | apply Kd.R_drewN | apply Kd.R_drew)); exact HO274.out), (by repeat (first | (with_reducible first | exact HB.out | apply below_alloc | apply pw_below_drewN | apply below_drew1) | exact HB.out))⟩)
                                                · skip
                                                  have hcv60 := Kd.C_string (P := Try.prog) (A := A2) (c := c2) Try.underlying22 Try.underlying5 Try.underlying9 (Kd.C_below HR2.out HB.out)
                                                  refine value_ (w1 := ?_) (v := ?_) (by rfl) rfl ?_ ?_
                                                  rotate_left 2
                                                  · go_simp
                                                    constructor
                                                    · rfl
                                                    · rfl
                                                  clear hcv60
                                                  refine hK.out _ _ trivial (fun hHeld => ?_)
                                                  clear hK K
                                                  refine norm_ (a' := ?_) ?_ ?_
                                                  rotate_left
                                                  · show Act.put _ (some 118) _ = _
                                                    simp only [Act.put, List.setIfInBounds_toArray, List.set_cons_zero, List.set_cons_succ, i64_w, i32_w]
                                                    rfl
                                                  exact norm_ (by first | (simp only [putAll, Act.put, List.setIfInBounds_toArray, List.set_cons_zero, List.set_cons_succ]; done) | (simp only [putAll, Act.put, List.setIfInBounds_toArray, List.set_cons_zero, List.set_cons_succ]; rfl)) (hJ6_13 (v270) _ ⟨(by (with_reducible repeat (first | apply Kd.R_alloc | apply Kd.R_drewN | apply Kd.R_drew)); exact HO245.out), (by (with_reducible repeat (first | apply Kd.R_alloc | apply Kd.R_drewN | apply Kd.R_drew)); exact HO254.out), (by (with_reducible repeat (first | apply Kd.R_alloc | apply Kd.R_drewN | apply Kd.R_drew)); exact HO259.out), (by (with_reducible repeat (first | apply Kd.R_alloc | apply Kd.R_drewN | apply Kd.R_drew)); exact HO264.out), (by (with_reducible repeat (first | apply Kd.R_alloc | apply Kd.R_drewN | apply Kd.R_drew)); exact HO268.out), (by (with_reducible repeat (first | apply Kd.R_alloc | apply Kd.R_drewN | apply Kd.R_drew)); exact HO271.out), (by repeat (first | (with_reducible first | exact HB.out | apply below_alloc | apply pw_below_drewN | apply below_drew1) | exact HB.out))⟩)
                                            · skip
                                              rintro v270 w60 ⟨h0_, h1_, h2_, h3_, h4_, h5_, h6_⟩
                                              have n0_ : Aside0 (Kd.R (Kd.int .u8) 5 w60 w.heap.size (fun k_ => some k_ ≠ (.slice Ao50 y252.length co50 : Value).ownBlock ∧ some k_ ≠ (v258 : Value).ownBlock ∧ some k_ ≠ (.slice Ao55 t261.length co55 : Value).ownBlock ∧ some k_ ≠ (.slice Ao54 t265.length co54 : Value).ownBlock ∧ some k_ ≠ (v270 : Value).ownBlock) (.slice Ao48 t242.length co48) t242) := ⟨h0_⟩
                                              have n1_ : Aside0 (Kd.R (Kd.int .u8) 5 w60 w.heap.size (fun k_ => some k_ ≠ (.slice Ao48 t242.length co48 : Value).ownBlock ∧ some k_ ≠ (v258 : Value).ownBlock ∧ some k_ ≠ (.slice Ao55 t261.length co55 : Value).ownBlock ∧ some k_ ≠ (.slice Ao54 t265.length co54 : Value).ownBlock ∧ some k_ ≠ (v270 : Value).ownBlock) (.slice Ao50 y252.length co50) y252) := ⟨h1_⟩
                                              have n2_ : Aside0 (Kd.R (Kd.int .u8) 5 w60 w.heap.size (fun k_ => some k_ ≠ (.slice Ao48 t242.length co48 : Value).ownBlock ∧ some k_ ≠ (.slice Ao50 y252.length co50 : Value).ownBlock ∧ some k_ ≠ (.slice Ao55 t261.length co55 : Value).ownBlock ∧ some k_ ≠ (.slice Ao54 t265.length co54 : Value).ownBlock ∧ some k_ ≠ (v270 : Value).ownBlock) v258 t256) := ⟨h2_⟩
                                              have n3_ : Aside0 (Kd.R (Kd.int .u8) 5 w60 w.heap.size (fun k_ => some k_ ≠ (.slice Ao48 t242.length co48 : Value).ownBlock ∧ some k_ ≠ (.slice Ao50 y252.length co50 : Value).ownBlock ∧ some k_ ≠ (v258 : Value).ownBlock ∧ some k_ ≠ (.slice Ao54 t265.length co54 : Value).ownBlock ∧ some k_ ≠ (v270 : Value).ownBlock) (.slice Ao55 t261.length co55) t261) := ⟨h3_⟩
                                              have n4_ : Aside0 (Kd.R (Kd.int .u8) 5 w60 w.heap.size (fun k_ => some k_ ≠ (.slice Ao48 t242.length co48 : Value).ownBlock ∧ some k_ ≠ (.slice Ao50 y252.length co50 : Value).ownBlock ∧ some k_ ≠ (v258 : Value).ownBlock ∧ some k_ ≠ (.slice Ao55 t261.length co55 : Value).ownBlock ∧ some k_ ≠ (v270 : Value).ownBlock) (.slice Ao54 t265.length co54) t265) := ⟨h4_⟩
                                              have n5_ : Aside0 (Kd.R (Kd.int .u8) 5 w60 w.heap.size (fun k_ => some k_ ≠ (.slice Ao48 t242.length co48 : Value).ownBlock ∧ some k_ ≠ (.slice Ao50 y252.length co50 : Value).ownBlock ∧ some k_ ≠ (v258 : Value).ownBlock ∧ some k_ ≠ (.slice Ao55 t261.length co55 : Value).ownBlock ∧ some k_ ≠ (.slice Ao54 t265.length co54 : Value).ownBlock) v270 y269) := ⟨h5_⟩
                                              have n6_ : Aside0 (Below w.heap.size w w60) := ⟨h6_⟩
                                              clear HO245
                                              clear HO254
                                              clear HO259
                                              clear HO264
                                              clear HO268
                                              clear HB
                                              clear h0_ h1_ h2_ h3_ h4_ h5_ h6_
                                              have HO245 := n0_
                                              have HO254 := n1_
                                              have HO259 := n2_
                                              have HO264 := n3_
                                              have HO268 := n4_
                                              have HO271 := n5_
                                              have HB := n6_
                                              clear n0_ n1_ n2_ n3_ n4_ n5_ n6_
                                              have hHeld := trivial
                                              refine norm_ (a' := ?_) ?_ ?_
                                              rotate_left
                                              · simp only [putAll, Act.put, List.setIfInBounds_toArray, List.set_cons_zero, List.set_cons_succ]
                                                rfl
                                              refine one_ (i := 8) (N := some 113) #[true, true, true, true, true, true, true, true, true, true, false, false, true, true, false, false, false, false] rfl rfl (one_of HT_.out (by kernel_rfl)) (by decide) (fun K hK => ?_)
                                              refine Kd.R_append_rows_step (Kd.int .u8) (w0 := w) w.heap.size (by rfl) (.tmp 111) (.tmp 112) 22 5 (.int .u8 0) 1 rfl Try.underlying22 info5 rfl (by decide) (by omega) v270 y269 t265 _ _ _ (fun k_ => some k_ ≠ (.slice Ao48 t242.length co48 : Value).ownBlock ∧ some k_ ≠ (.slice Ao50 y252.length co50 : Value).ownBlock ∧ some k_ ≠ (v258 : Value).ownBlock ∧ some k_ ≠ (.slice Ao55 t261.length co55 : Value).ownBlock ∧ some k_ ≠ (.slice Ao54 t265.length co54 : Value).ownBlock) (fun _ => False) rfl rfl ?aO ?aR (fun _ _ h => h) (fun _ h => h.elim) ?aF ?aB ?aS ?aL ?_
                                              (case aR => repeat (first | exact (Kd.R_reads' HO268.out).2.2 | (with_reducible refine Kd.C_alloc ?_ _) | (with_reducible refine Kd.C_drewN ?_ _) | (with_reducible refine Kd.C_drew ?_)))
                                              (case aB => exact (by repeat (first | (with_reducible first | exact HB.out | apply below_alloc | apply pw_below_drewN | apply below_drew1) | exact HB.out)))
                                              (case aF => exact (fun k_ hk => ⟨Kd.fresh' (Kd.R_lt (by (with_reducible repeat (first | apply Kd.R_alloc | apply Kd.R_drewN | apply Kd.R_drew)); exact HO245.out)) k_ hk, Kd.fresh' (Kd.R_lt (by (with_reducible repeat (first | apply Kd.R_alloc | apply Kd.R_drewN | apply Kd.R_drew)); exact HO254.out)) k_ hk, Kd.fresh' (Kd.R_lt (by (with_reducible repeat (first | apply Kd.R_alloc | apply Kd.R_drewN | apply Kd.R_drew)); exact HO259.out)) k_ hk, Kd.fresh' (Kd.R_lt (by (with_reducible repeat (first | apply Kd.R_alloc | apply Kd.R_drewN | apply Kd.R_drew)); exact HO264.out)) k_ hk, Kd.fresh' (Kd.R_lt (by (with_reducible repeat (first | apply Kd.R_alloc | apply Kd.R_drewN | apply Kd.R_drew)); exact HO268.out)) k_ hk⟩))
                                              (case aO => exact (by (with_reducible repeat (first | apply Kd.R_alloc | apply Kd.R_drewN | apply Kd.R_drew)); exact HO271.out))
                                              (case aS => exact (below_size (by repeat (first | (with_reducible first | exact HB.out | apply below_alloc | apply pw_below_drewN | apply below_drew1) | exact HB.out))))
                                              (case aL => have := LMc36.out; omega)
                                              intro v273 w61 ho hb hg hat
                                              rw [← Ny272.out] at ho
                                              have n0_ := Aside0.mk (Kd.R_after (ok := (fun k_ => some k_ ≠ (.slice Ao50 y252.length co50 : Value).ownBlock ∧ some k_ ≠ (v258 : Value).ownBlock ∧ some k_ ≠ (.slice Ao55 t261.length co55 : Value).ownBlock ∧ some k_ ≠ (.slice Ao54 t265.length co54 : Value).ownBlock)) (by (with_reducible repeat (first | apply Kd.R_alloc | apply Kd.R_drewN | apply Kd.R_drew)); exact Kd.R_mono HO245.out (fun _ hk => ⟨⟨hk.1, ⟨hk.2.1, ⟨hk.2.2.1, hk.2.2.2.1⟩⟩⟩, hk.2.2.2.2⟩)) hg hat)
                                              have n1_ := Aside0.mk (Kd.R_after (ok := (fun k_ => some k_ ≠ (.slice Ao48 t242.length co48 : Value).ownBlock ∧ some k_ ≠ (v258 : Value).ownBlock ∧ some k_ ≠ (.slice Ao55 t261.length co55 : Value).ownBlock ∧ some k_ ≠ (.slice Ao54 t265.length co54 : Value).ownBlock)) (by (with_reducible repeat (first | apply Kd.R_alloc | apply Kd.R_drewN | apply Kd.R_drew)); exact Kd.R_mono HO254.out (fun _ hk => ⟨⟨hk.1, ⟨hk.2.1, ⟨hk.2.2.1, hk.2.2.2.1⟩⟩⟩, hk.2.2.2.2⟩)) hg hat)
                                              have n2_ := Aside0.mk (Kd.R_after (ok := (fun k_ => some k_ ≠ (.slice Ao48 t242.length co48 : Value).ownBlock ∧ some k_ ≠ (.slice Ao50 y252.length co50 : Value).ownBlock ∧ some k_ ≠ (.slice Ao55 t261.length co55 : Value).ownBlock ∧ some k_ ≠ (.slice Ao54 t265.length co54 : Value).ownBlock)) (by (with_reducible repeat (first | apply Kd.R_alloc | apply Kd.R_drewN | apply Kd.R_drew)); exact Kd.R_mono HO259.out (fun _ hk => ⟨⟨hk.1, ⟨hk.2.1, ⟨hk.2.2.1, hk.2.2.2.1⟩⟩⟩, hk.2.2.2.2⟩)) hg hat)
                                              have n3_ := Aside0.mk (Kd.R_after (ok := (fun k_ => some k_ ≠ (.slice Ao48 t242.length co48 : Value).ownBlock ∧ some k_ ≠ (.slice Ao50 y252.length co50 : Value).ownBlock ∧ some k_ ≠ (v258 : Value).ownBlock ∧ some k_ ≠ (.slice Ao54 t265.length co54 : Value).ownBlock)) (by (with_reducible repeat (first | apply Kd.R_alloc | apply Kd.R_drewN | apply Kd.R_drew)); exact Kd.R_mono HO264.out (fun _ hk => ⟨⟨hk.1, ⟨hk.2.1, ⟨hk.2.2.1, hk.2.2.2.1⟩⟩⟩, hk.2.2.2.2⟩)) hg hat)
                                              have n4_ := Aside0.mk (Kd.R_after (ok := (fun k_ => some k_ ≠ (.slice Ao48 t242.length co48 : Value).ownBlock ∧ some k_ ≠ (.slice Ao50 y252.length co50 : Value).ownBlock ∧ some k_ ≠ (v258 : Value).ownBlock ∧ some k_ ≠ (.slice Ao55 t261.length co55 : Value).ownBlock)) (by (with_reducible repeat (first | apply Kd.R_alloc | apply Kd.R_drewN | apply Kd.R_drew)); exact Kd.R_mono HO268.out (fun _ hk => ⟨⟨hk.1, ⟨hk.2.1, ⟨hk.2.2.1, hk.2.2.2.1⟩⟩⟩, hk.2.2.2.2⟩)) hg hat)
                                              have n5_ := Aside0.mk (hb)
                                              have n6_ := Aside0.mk (ho)
                                              clear HO245
                                              clear HO254
                                              clear HO259
                                              clear HO264
                                              clear HO268
                                              clear HB
                                              clear HO271
                                              have HO245 := n0_
                                              have HO254 := n1_
                                              have HO259 := n2_
                                              have HO264 := n3_
                                              have HO268 := n4_
                                              have HB := n5_
                                              have HO274 := n6_
                                              clear n0_ n1_ n2_ n3_ n4_ n5_ n6_
                                              clear ho hb hg hat
                                              refine hK.out _ _ trivial (fun hHeld => ?_)
                                              clear hK K
                                              refine norm_ (a' := ?_) ?_ ?_
                                              rotate_left
                                              · show Act.put _ (some 113) _ = _
                                                simp only [Act.put, List.setIfInBounds_toArray, List.set_cons_zero, List.set_cons_succ, i64_w, i32_w]
                                                rfl
                                              exact norm_ (by first | (simp only [putAll, Act.put, List.setIfInBounds_toArray, List.set_cons_zero, List.set_cons_succ]; done) | (simp only [putAll, Act.put, List.setIfInBounds_toArray, List.set_cons_zero, List.set_cons_succ]; rfl)) (hJ6_8_13 (v270, v273) _ ⟨(by (with_reducible repeat (first | apply Kd.R_alloc | apply Kd.R_drewN | apply Kd.R_drew)); exact Kd.R_mono HO245.out (fun _ hk => ⟨hk.1.1, ⟨hk.1.2.1, ⟨hk.1.2.2.1, ⟨hk.1.2.2.2, hk.2⟩⟩⟩⟩)), (by (with_reducible repeat (first | apply Kd.R_alloc | apply Kd.R_drewN | apply Kd.R_drew)); exact Kd.R_mono HO254.out (fun _ hk => ⟨hk.1.1, ⟨hk.1.2.1, ⟨hk.1.2.2.1, ⟨hk.1.2.2.2, hk.2⟩⟩⟩⟩)), (by (with_reducible repeat (first | apply Kd.R_alloc | apply Kd.R_drewN | apply Kd.R_drew)); exact Kd.R_mono HO259.out (fun _ hk => ⟨hk.1.1, ⟨hk.1.2.1, ⟨hk.1.2.2.1, ⟨hk.1.2.2.2, hk.2⟩⟩⟩⟩)), (by (with_reducible repeat (first | apply Kd.R_alloc | apply Kd.R_drewN | apply Kd.R_drew)); exact Kd.R_mono HO264.out (fun _ hk => ⟨hk.1.1, ⟨hk.1.2.1, ⟨hk.1.2.2.1, ⟨hk.1.2.2.2, hk.2⟩⟩⟩⟩)), (by (with_reducible repeat (first | apply Kd.R_alloc | apply Kd.R_drewN | apply Kd.R_drew)); exact Kd.R_mono HO268.out (fun _ hk => ⟨hk.1.1, ⟨hk.1.2.1, ⟨hk.1.2.2.1, ⟨hk.1.2.2.2, hk.2⟩⟩⟩⟩)), (by (with_reducible repeat (first | apply Kd.R_alloc | apply Kd.R_drewN | apply Kd.R_drew)); exact HO274.out), (by repeat (first | (with_reducible first | exact HB.out | apply below_alloc | apply pw_below_drewN | apply below_drew1) | exact HB.out))⟩)
                                          · skip
                                            rintro ⟨v270, v273⟩ w60 ⟨h0_, h1_, h2_, h3_, h4_, h5_, h6_⟩
                                            have n0_ : Aside0 (Kd.R (Kd.int .u8) 5 w60 w.heap.size (fun k_ => some k_ ≠ (.slice Ao50 y252.length co50 : Value).ownBlock ∧ some k_ ≠ (v258 : Value).ownBlock ∧ some k_ ≠ (.slice Ao55 t261.length co55 : Value).ownBlock ∧ some k_ ≠ (.slice Ao54 t265.length co54 : Value).ownBlock ∧ some k_ ≠ (v273 : Value).ownBlock) (.slice Ao48 t242.length co48) t242) := ⟨h0_⟩
                                            have n1_ : Aside0 (Kd.R (Kd.int .u8) 5 w60 w.heap.size (fun k_ => some k_ ≠ (.slice Ao48 t242.length co48 : Value).ownBlock ∧ some k_ ≠ (v258 : Value).ownBlock ∧ some k_ ≠ (.slice Ao55 t261.length co55 : Value).ownBlock ∧ some k_ ≠ (.slice Ao54 t265.length co54 : Value).ownBlock ∧ some k_ ≠ (v273 : Value).ownBlock) (.slice Ao50 y252.length co50) y252) := ⟨h1_⟩
                                            have n2_ : Aside0 (Kd.R (Kd.int .u8) 5 w60 w.heap.size (fun k_ => some k_ ≠ (.slice Ao48 t242.length co48 : Value).ownBlock ∧ some k_ ≠ (.slice Ao50 y252.length co50 : Value).ownBlock ∧ some k_ ≠ (.slice Ao55 t261.length co55 : Value).ownBlock ∧ some k_ ≠ (.slice Ao54 t265.length co54 : Value).ownBlock ∧ some k_ ≠ (v273 : Value).ownBlock) v258 t256) := ⟨h2_⟩
                                            have n3_ : Aside0 (Kd.R (Kd.int .u8) 5 w60 w.heap.size (fun k_ => some k_ ≠ (.slice Ao48 t242.length co48 : Value).ownBlock ∧ some k_ ≠ (.slice Ao50 y252.length co50 : Value).ownBlock ∧ some k_ ≠ (v258 : Value).ownBlock ∧ some k_ ≠ (.slice Ao54 t265.length co54 : Value).ownBlock ∧ some k_ ≠ (v273 : Value).ownBlock) (.slice Ao55 t261.length co55) t261) := ⟨h3_⟩
                                            have n4_ : Aside0 (Kd.R (Kd.int .u8) 5 w60 w.heap.size (fun k_ => some k_ ≠ (.slice Ao48 t242.length co48 : Value).ownBlock ∧ some k_ ≠ (.slice Ao50 y252.length co50 : Value).ownBlock ∧ some k_ ≠ (v258 : Value).ownBlock ∧ some k_ ≠ (.slice Ao55 t261.length co55 : Value).ownBlock ∧ some k_ ≠ (v273 : Value).ownBlock) (.slice Ao54 t265.length co54) t265) := ⟨h4_⟩
                                            have n5_ : Aside0 (Kd.R (Kd.int .u8) 5 w60 w.heap.size (fun k_ => some k_ ≠ (.slice Ao48 t242.length co48 : Value).ownBlock ∧ some k_ ≠ (.slice Ao50 y252.length co50 : Value).ownBlock ∧ some k_ ≠ (v258 : Value).ownBlock ∧ some k_ ≠ (.slice Ao55 t261.length co55 : Value).ownBlock ∧ some k_ ≠ (.slice Ao54 t265.length co54 : Value).ownBlock) v273 y272) := ⟨h5_⟩
                                            have n6_ : Aside0 (Below w.heap.size w w60) := ⟨h6_⟩
                                            clear HO245
                                            clear HO254
                                            clear HO259
                                            clear HO264
                                            clear HO268
                                            clear HB
                                            clear h0_ h1_ h2_ h3_ h4_ h5_ h6_
                                            have HO245 := n0_
                                            have HO254 := n1_
                                            have HO259 := n2_
                                            have HO264 := n3_
                                            have HO268 := n4_
                                            have HO274 := n5_
                                            have HB := n6_
                                            clear n0_ n1_ n2_ n3_ n4_ n5_ n6_
                                            have hHeld := trivial
                                            refine norm_ (a' := ?_) ?_ ?_
                                            rotate_left
                                            · simp only [putAll, Act.put, List.setIfInBounds_toArray, List.set_cons_zero, List.set_cons_succ]
                                              rfl
                                            refine two_ (i := 10) (j := 13) (Ni := some 115) (Nj := some 118) #[true, true, true, true, true, true, true, true, true, true, true, false, true, false, false, false, false, false] #[true, true, true, true, true, true, true, true, true, true, false, false, true, true, false, false, false, false] rfl rfl rfl rfl (two_of HT_.out (by kernel_rfl)) (by decide) (by decide) (fun K hK => ?_) (fun K hK => ?_)
                                            · skip
                                              refine Kd.R_append_rows_step (Kd.int .u8) (w0 := w) w.heap.size (by rfl) (.tmp 113) (.tmp 114) 22 5 (.int .u8 0) 1 rfl Try.underlying22 info5 rfl (by decide) (by omega) v273 y272 t261 _ _ _ (fun k_ => some k_ ≠ (.slice Ao48 t242.length co48 : Value).ownBlock ∧ some k_ ≠ (.slice Ao50 y252.length co50 : Value).ownBlock ∧ some k_ ≠ (v258 : Value).ownBlock ∧ some k_ ≠ (.slice Ao55 t261.length co55 : Value).ownBlock ∧ some k_ ≠ (.slice Ao54 t265.length co54 : Value).ownBlock) (fun _ => False) rfl rfl ?aO ?aR (fun _ _ h => h) (fun _ h => h.elim) ?aF ?aB ?aS ?aL ?_
                                              (case aR => repeat (first | exact (Kd.R_reads' HO264.out).2.2 | (with_reducible refine Kd.C_alloc ?_ _) | (with_reducible refine Kd.C_drewN ?_ _) | (with_reducible refine Kd.C_drew ?_)))
                                              (case aB => exact (by repeat (first | (with_reducible first | exact HB.out | apply below_alloc | apply pw_below_drewN | apply below_drew1) | exact HB.out)))
                                              (case aF => exact (fun k_ hk => ⟨Kd.fresh' (Kd.R_lt (by (with_reducible repeat (first | apply Kd.R_alloc | apply Kd.R_drewN | apply Kd.R_drew)); exact HO245.out)) k_ hk, Kd.fresh' (Kd.R_lt (by (with_reducible repeat (first | apply Kd.R_alloc | apply Kd.R_drewN | apply Kd.R_drew)); exact HO254.out)) k_ hk, Kd.fresh' (Kd.R_lt (by (with_reducible repeat (first | apply Kd.R_alloc | apply Kd.R_drewN | apply Kd.R_drew)); exact HO259.out)) k_ hk, Kd.fresh' (Kd.R_lt (by (with_reducible repeat (first | apply Kd.R_alloc | apply Kd.R_drewN | apply Kd.R_drew)); exact HO264.out)) k_ hk, Kd.fresh' (Kd.R_lt (by (with_reducible repeat (first | apply Kd.R_alloc | apply Kd.R_drewN | apply Kd.R_drew)); exact HO268.out)) k_ hk⟩))
                                              (case aO => exact (by (with_reducible repeat (first | apply Kd.R_alloc | apply Kd.R_drewN | apply Kd.R_drew)); exact HO274.out))
                                              (case aS => exact (below_size (by repeat (first | (with_reducible first | exact HB.out | apply below_alloc | apply pw_below_drewN | apply below_drew1) | exact HB.out))))
                                              (case aL => have := LMc37.out; omega)
                                              intro v276 w61 ho hb hg hat
                                              rw [← Ny275.out] at ho
                                              have n0_ := Aside0.mk (Kd.R_after (ok := (fun k_ => some k_ ≠ (.slice Ao50 y252.length co50 : Value).ownBlock ∧ some k_ ≠ (v258 : Value).ownBlock ∧ some k_ ≠ (.slice Ao55 t261.length co55 : Value).ownBlock ∧ some k_ ≠ (.slice Ao54 t265.length co54 : Value).ownBlock)) (by (with_reducible repeat (first | apply Kd.R_alloc | apply Kd.R_drewN | apply Kd.R_drew)); exact Kd.R_mono HO245.out (fun _ hk => ⟨⟨hk.1, ⟨hk.2.1, ⟨hk.2.2.1, hk.2.2.2.1⟩⟩⟩, hk.2.2.2.2⟩)) hg hat)
                                              have n1_ := Aside0.mk (Kd.R_after (ok := (fun k_ => some k_ ≠ (.slice Ao48 t242.length co48 : Value).ownBlock ∧ some k_ ≠ (v258 : Value).ownBlock ∧ some k_ ≠ (.slice Ao55 t261.length co55 : Value).ownBlock ∧ some k_ ≠ (.slice Ao54 t265.length co54 : Value).ownBlock)) (by (with_reducible repeat (first | apply Kd.R_alloc | apply Kd.R_drewN | apply Kd.R_drew)); exact Kd.R_mono HO254.out (fun _ hk => ⟨⟨hk.1, ⟨hk.2.1, ⟨hk.2.2.1, hk.2.2.2.1⟩⟩⟩, hk.2.2.2.2⟩)) hg hat)
                                              have n2_ := Aside0.mk (Kd.R_after (ok := (fun k_ => some k_ ≠ (.slice Ao48 t242.length co48 : Value).ownBlock ∧ some k_ ≠ (.slice Ao50 y252.length co50 : Value).ownBlock ∧ some k_ ≠ (.slice Ao55 t261.length co55 : Value).ownBlock ∧ some k_ ≠ (.slice Ao54 t265.length co54 : Value).ownBlock)) (by (with_reducible repeat (first | apply Kd.R_alloc | apply Kd.R_drewN | apply Kd.R_drew)); exact Kd.R_mono HO259.out (fun _ hk => ⟨⟨hk.1, ⟨hk.2.1, ⟨hk.2.2.1, hk.2.2.2.1⟩⟩⟩, hk.2.2.2.2⟩)) hg hat)
                                              have n3_ := Aside0.mk (Kd.R_after (ok := (fun k_ => some k_ ≠ (.slice Ao48 t242.length co48 : Value).ownBlock ∧ some k_ ≠ (.slice Ao50 y252.length co50 : Value).ownBlock ∧ some k_ ≠ (v258 : Value).ownBlock ∧ some k_ ≠ (.slice Ao54 t265.length co54 : Value).ownBlock)) (by (with_reducible repeat (first | apply Kd.R_alloc | apply Kd.R_drewN | apply Kd.R_drew)); exact Kd.R_mono HO264.out (fun _ hk => ⟨⟨hk.1, ⟨hk.2.1, ⟨hk.2.2.1, hk.2.2.2.1⟩⟩⟩, hk.2.2.2.2⟩)) hg hat)
                                              have n4_ := Aside0.mk (Kd.R_after (ok := (fun k_ => some k_ ≠ (.slice Ao48 t242.length co48 : Value).ownBlock ∧ some k_ ≠ (.slice Ao50 y252.length co50 : Value).ownBlock ∧ some k_ ≠ (v258 : Value).ownBlock ∧ some k_ ≠ (.slice Ao55 t261.length co55 : Value).ownBlock)) (by (with_reducible repeat (first | apply Kd.R_alloc | apply Kd.R_drewN | apply Kd.R_drew)); exact Kd.R_mono HO268.out (fun _ hk => ⟨⟨hk.1, ⟨hk.2.1, ⟨hk.2.2.1, hk.2.2.2.1⟩⟩⟩, hk.2.2.2.2⟩)) hg hat)
                                              have n5_ := Aside0.mk (hb)
                                              have n6_ := Aside0.mk (ho)
                                              clear HO245
                                              clear HO254
                                              clear HO259
                                              clear HO264
                                              clear HO268
                                              clear HB
                                              clear HO274
                                              have HO245 := n0_
                                              have HO254 := n1_
                                              have HO259 := n2_
                                              have HO264 := n3_
                                              have HO268 := n4_
                                              have HB := n5_
                                              have HO277 := n6_
                                              clear n0_ n1_ n2_ n3_ n4_ n5_ n6_
                                              clear ho hb hg hat
                                              refine hK.out _ _ trivial (fun hHeld => ?_)
                                              clear hK K
                                              refine norm_ (a' := ?_) ?_ ?_
                                              rotate_left
                                              · show Act.put _ (some 115) _ = _
                                                simp only [Act.put, List.setIfInBounds_toArray, List.set_cons_zero, List.set_cons_succ, i64_w, i32_w]
                                                rfl
                                              exact norm_ (by first | (simp only [putAll, Act.put, List.setIfInBounds_toArray, List.set_cons_zero, List.set_cons_succ]; done) | (simp only [putAll, Act.put, List.setIfInBounds_toArray, List.set_cons_zero, List.set_cons_succ]; rfl)) (hJ6_8_10 (v270, v273, v276) _ ⟨(by (with_reducible repeat (first | apply Kd.R_alloc | apply Kd.R_drewN | apply Kd.R_drew)); exact Kd.R_mono HO245.out (fun _ hk => ⟨hk.1.1, ⟨hk.1.2.1, ⟨hk.1.2.2.1, ⟨hk.1.2.2.2, hk.2⟩⟩⟩⟩)), (by (with_reducible repeat (first | apply Kd.R_alloc | apply Kd.R_drewN | apply Kd.R_drew)); exact Kd.R_mono HO254.out (fun _ hk => ⟨hk.1.1, ⟨hk.1.2.1, ⟨hk.1.2.2.1, ⟨hk.1.2.2.2, hk.2⟩⟩⟩⟩)), (by (with_reducible repeat (first | apply Kd.R_alloc | apply Kd.R_drewN | apply Kd.R_drew)); exact Kd.R_mono HO259.out (fun _ hk => ⟨hk.1.1, ⟨hk.1.2.1, ⟨hk.1.2.2.1, ⟨hk.1.2.2.2, hk.2⟩⟩⟩⟩)), (by (with_reducible repeat (first | apply Kd.R_alloc | apply Kd.R_drewN | apply Kd.R_drew)); exact Kd.R_mono HO264.out (fun _ hk => ⟨hk.1.1, ⟨hk.1.2.1, ⟨hk.1.2.2.1, ⟨hk.1.2.2.2, hk.2⟩⟩⟩⟩)), (by (with_reducible repeat (first | apply Kd.R_alloc | apply Kd.R_drewN | apply Kd.R_drew)); exact Kd.R_mono HO268.out (fun _ hk => ⟨hk.1.1, ⟨hk.1.2.1, ⟨hk.1.2.2.1, ⟨hk.1.2.2.2, hk.2⟩⟩⟩⟩)), (by (with_reducible repeat (first | apply Kd.R_alloc | apply Kd.R_drewN | apply Kd.R_drew)); exact HO277.out), (by repeat (first | (with_reducible first | exact HB.out | apply below_alloc | apply pw_below_drewN | apply below_drew1) | exact HB.out))⟩)
                                            · skip
                                              have hcv61 := Kd.C_string (P := Try.prog) (A := A2) (c := c2) Try.underlying22 Try.underlying5 Try.underlying9 (Kd.C_below HR2.out HB.out)
                                              refine value_ (w1 := ?_) (v := ?_) (by rfl) rfl ?_ ?_
                                              rotate_left 2
                                              · go_simp
                                                constructor
                                                · rfl
                                                · rfl
                                              clear hcv61
                                              refine hK.out _ _ trivial (fun hHeld => ?_)
                                              clear hK K
                                              refine norm_ (a' := ?_) ?_ ?_
                                              rotate_left
                                              · show Act.put _ (some 118) _ = _
                                                simp only [Act.put, List.setIfInBounds_toArray, List.set_cons_zero, List.set_cons_succ, i64_w, i32_w]
                                                rfl
                                              exact norm_ (by first | (simp only [putAll, Act.put, List.setIfInBounds_toArray, List.set_cons_zero, List.set_cons_succ]; done) | (simp only [putAll, Act.put, List.setIfInBounds_toArray, List.set_cons_zero, List.set_cons_succ]; rfl)) (hJ6_8_13 (v270, v273) _ ⟨(by (with_reducible repeat (first | apply Kd.R_alloc | apply Kd.R_drewN | apply Kd.R_drew)); exact HO245.out), (by (with_reducible repeat (first | apply Kd.R_alloc | apply Kd.R_drewN | apply Kd.R_drew)); exact HO254.out), (by (with_reducible repeat (first | apply Kd.R_alloc | apply Kd.R_drewN | apply Kd.R_drew)); exact HO259.out), (by (with_reducible repeat (first | apply Kd.R_alloc | apply Kd.R_drewN | apply Kd.R_drew)); exact HO264.out), (by (with_reducible repeat (first | apply Kd.R_alloc | apply Kd.R_drewN | apply Kd.R_drew)); exact HO268.out), (by (with_reducible repeat (first | apply Kd.R_alloc | apply Kd.R_drewN | apply Kd.R_drew)); exact HO274.out), (by repeat (first | (with_reducible first | exact HB.out | apply below_alloc | apply pw_below_drewN | apply below_drew1) | exact HB.out))⟩)
                                        · skip
                                          rintro ⟨v270, v273⟩ w61 ⟨h0_, h1_, h2_, h3_, h4_, h5_, h6_⟩
                                          have n0_ : Aside0 (Kd.R (Kd.int .u8) 5 w61 w.heap.size (fun k_ => some k_ ≠ (.slice Ao50 y252.length co50 : Value).ownBlock ∧ some k_ ≠ (v258 : Value).ownBlock ∧ some k_ ≠ (.slice Ao55 t261.length co55 : Value).ownBlock ∧ some k_ ≠ (.slice Ao54 t265.length co54 : Value).ownBlock ∧ some k_ ≠ (v273 : Value).ownBlock) (.slice Ao48 t242.length co48) t242) := ⟨h0_⟩
                                          have n1_ : Aside0 (Kd.R (Kd.int .u8) 5 w61 w.heap.size (fun k_ => some k_ ≠ (.slice Ao48 t242.length co48 : Value).ownBlock ∧ some k_ ≠ (v258 : Value).ownBlock ∧ some k_ ≠ (.slice Ao55 t261.length co55 : Value).ownBlock ∧ some k_ ≠ (.slice Ao54 t265.length co54 : Value).ownBlock ∧ some k_ ≠ (v273 : Value).ownBlock) (.slice Ao50 y252.length co50) y252) := ⟨h1_⟩
                                          have n2_ : Aside0 (Kd.R (Kd.int .u8) 5 w61 w.heap.size (fun k_ => some k_ ≠ (.slice Ao48 t242.length co48 : Value).ownBlock ∧ some k_ ≠ (.slice Ao50 y252.length co50 : Value).ownBlock ∧ some k_ ≠ (.slice Ao55 t261.length co55 : Value).ownBlock ∧ some k_ ≠ (.slice Ao54 t265.length co54 : Value).ownBlock ∧ some k_ ≠ (v273 : Value).ownBlock) v258 t256) := ⟨h2_⟩
                                          have n3_ : Aside0 (Kd.R (Kd.int .u8) 5 w61 w.heap.size (fun k_ => some k_ ≠ (.slice Ao48 t242.length co48 : Value).ownBlock ∧ some k_ ≠ (.slice Ao50 y252.length co50 : Value).ownBlock ∧ some k_ ≠ (v258 : Value).ownBlock ∧ some k_ ≠ (.slice Ao54 t265.length co54 : Value).ownBlock ∧ some k_ ≠ (v273 : Value).ownBlock) (.slice Ao55 t261.length co55) t261) := ⟨h3_⟩
                                          have n4_ : Aside0 (Kd.R (Kd.int .u8) 5 w61 w.heap.size (fun k_ => some k_ ≠ (.slice Ao48 t242.length co48 : Value).ownBlock ∧ some k_ ≠ (.slice Ao50 y252.length co50 : Value).ownBlock ∧ some k_ ≠ (v258 : Value).ownBlock ∧ some k_ ≠ (.slice Ao55 t261.length co55 : Value).ownBlock ∧ some k_ ≠ (v273 : Value).ownBlock) (.slice Ao54 t265.length co54) t265) := ⟨h4_⟩
                                          have n5_ : Aside0 (Kd.R (Kd.int .u8) 5 w61 w.heap.size (fun k_ => some k_ ≠ (.slice Ao48 t242.length co48 : Value).ownBlock ∧ some k_ ≠ (.slice Ao50 y252.length co50 : Value).ownBlock ∧ some k_ ≠ (v258 : Value).ownBlock ∧ some k_ ≠ (.slice Ao55 t261.length co55 : Value).ownBlock ∧ some k_ ≠ (.slice Ao54 t265.length co54 : Value).ownBlock) v273 y272) := ⟨h5_⟩
                                          have n6_ : Aside0 (Below w.heap.size w w61) := ⟨h6_⟩
                                          clear HO245
                                          clear HO254
                                          clear HO259
                                          clear HO264
                                          clear HO268
                                          clear HB
                                          clear h0_ h1_ h2_ h3_ h4_ h5_ h6_
                                          have HO245 := n0_
                                          have HO254 := n1_
                                          have HO259 := n2_
                                          have HO264 := n3_
                                          have HO268 := n4_
                                          have HO274 := n5_
                                          have HB := n6_
                                          clear n0_ n1_ n2_ n3_ n4_ n5_ n6_
                                          have hHeld := trivial
                                          refine norm_ (a' := ?_) ?_ ?_
                                          rotate_left
                                          · simp only [putAll, Act.put, List.setIfInBounds_toArray, List.set_cons_zero, List.set_cons_succ]
                                            rfl
                                          refine one_ (i := 10) (N := some 115) #[true, true, true, true, true, true, true, true, true, true, true, false, true, true, false, false, false, false] rfl rfl (one_of HT_.out (by kernel_rfl)) (by decide) (fun K hK => ?_)
                                          refine Kd.R_append_rows_step (Kd.int .u8) (w0 := w) w.heap.size (by rfl) (.tmp 113) (.tmp 114) 22 5 (.int .u8 0) 1 rfl Try.underlying22 info5 rfl (by decide) (by omega) v273 y272 t261 _ _ _ (fun k_ => some k_ ≠ (.slice Ao48 t242.length co48 : Value).ownBlock ∧ some k_ ≠ (.slice Ao50 y252.length co50 : Value).ownBlock ∧ some k_ ≠ (v258 : Value).ownBlock ∧ some k_ ≠ (.slice Ao55 t261.length co55 : Value).ownBlock ∧ some k_ ≠ (.slice Ao54 t265.length co54 : Value).ownBlock) (fun _ => False) rfl rfl ?aO ?aR (fun _ _ h => h) (fun _ h => h.elim) ?aF ?aB ?aS ?aL ?_
                                          (case aR => repeat (first | exact (Kd.R_reads' HO264.out).2.2 | (with_reducible refine Kd.C_alloc ?_ _) | (with_reducible refine Kd.C_drewN ?_ _) | (with_reducible refine Kd.C_drew ?_)))
                                          (case aB => exact (by repeat (first | (with_reducible first | exact HB.out | apply below_alloc | apply pw_below_drewN | apply below_drew1) | exact HB.out)))
                                          (case aF => exact (fun k_ hk => ⟨Kd.fresh' (Kd.R_lt (by (with_reducible repeat (first | apply Kd.R_alloc | apply Kd.R_drewN | apply Kd.R_drew)); exact HO245.out)) k_ hk, Kd.fresh' (Kd.R_lt (by (with_reducible repeat (first | apply Kd.R_alloc | apply Kd.R_drewN | apply Kd.R_drew)); exact HO254.out)) k_ hk, Kd.fresh' (Kd.R_lt (by (with_reducible repeat (first | apply Kd.R_alloc | apply Kd.R_drewN | apply Kd.R_drew)); exact HO259.out)) k_ hk, Kd.fresh' (Kd.R_lt (by (with_reducible repeat (first | apply Kd.R_alloc | apply Kd.R_drewN | apply Kd.R_drew)); exact HO264.out)) k_ hk, Kd.fresh' (Kd.R_lt (by (with_reducible repeat (first | apply Kd.R_alloc | apply Kd.R_drewN | apply Kd.R_drew)); exact HO268.out)) k_ hk⟩))
                                          (case aO => exact (by (with_reducible repeat (first | apply Kd.R_alloc | apply Kd.R_drewN | apply Kd.R_drew)); exact HO274.out))
                                          (case aS => exact (below_size (by repeat (first | (with_reducible first | exact HB.out | apply below_alloc | apply pw_below_drewN | apply below_drew1) | exact HB.out))))
                                          (case aL => have := LMc37.out; omega)
                                          intro v276 w62 ho hb hg hat
                                          rw [← Ny275.out] at ho
                                          have n0_ := Aside0.mk (Kd.R_after (ok := (fun k_ => some k_ ≠ (.slice Ao50 y252.length co50 : Value).ownBlock ∧ some k_ ≠ (v258 : Value).ownBlock ∧ some k_ ≠ (.slice Ao55 t261.length co55 : Value).ownBlock ∧ some k_ ≠ (.slice Ao54 t265.length co54 : Value).ownBlock)) (by (with_reducible repeat (first | apply Kd.R_alloc | apply Kd.R_drewN | apply Kd.R_drew)); exact Kd.R_mono HO245.out (fun _ hk => ⟨⟨hk.1, ⟨hk.2.1, ⟨hk.2.2.1, hk.2.2.2.1⟩⟩⟩, hk.2.2.2.2⟩)) hg hat)
                                          have n1_ := Aside0.mk (Kd.R_after (ok := (fun k_ => some k_ ≠ (.slice Ao48 t242.length co48 : Value).ownBlock ∧ some k_ ≠ (v258 : Value).ownBlock ∧ some k_ ≠ (.slice Ao55 t261.length co55 : Value).ownBlock ∧ some k_ ≠ (.slice Ao54 t265.length co54 : Value).ownBlock)) (by (with_reducible repeat (first | apply Kd.R_alloc | apply Kd.R_drewN | apply Kd.R_drew)); exact Kd.R_mono HO254.out (fun _ hk => ⟨⟨hk.1, ⟨hk.2.1, ⟨hk.2.2.1, hk.2.2.2.1⟩⟩⟩, hk.2.2.2.2⟩)) hg hat)
                                          have n2_ := Aside0.mk (Kd.R_after (ok := (fun k_ => some k_ ≠ (.slice Ao48 t242.length co48 : Value).ownBlock ∧ some k_ ≠ (.slice Ao50 y252.length co50 : Value).ownBlock ∧ some k_ ≠ (.slice Ao55 t261.length co55 : Value).ownBlock ∧ some k_ ≠ (.slice Ao54 t265.length co54 : Value).ownBlock)) (by (with_reducible repeat (first | apply Kd.R_alloc | apply Kd.R_drewN | apply Kd.R_drew)); exact Kd.R_mono HO259.out (fun _ hk => ⟨⟨hk.1, ⟨hk.2.1, ⟨hk.2.2.1, hk.2.2.2.1⟩⟩⟩, hk.2.2.2.2⟩)) hg hat)
                                          have n3_ := Aside0.mk (Kd.R_after (ok := (fun k_ => some k_ ≠ (.slice Ao48 t242.length co48 : Value).ownBlock ∧ some k_ ≠ (.slice Ao50 y252.length co50 : Value).ownBlock ∧ some k_ ≠ (v258 : Value).ownBlock ∧ some k_ ≠ (.slice Ao54 t265.length co54 : Value).ownBlock)) (by (with_reducible repeat (first | apply Kd.R_alloc | apply Kd.R_drewN | apply Kd.R_drew)); exact Kd.R_mono HO264.out (fun _ hk => ⟨⟨hk.1, ⟨hk.2.1, ⟨hk.2.2.1, hk.2.2.2.1⟩⟩⟩, hk.2.2.2.2⟩)) hg hat)
                                          have n4_ := Aside0.mk (Kd.R_after (ok := (fun k_ => some k_ ≠ (.slice Ao48 t242.length co48 : Value).ownBlock ∧ some k_ ≠ (.slice Ao50 y252.length co50 : Value).ownBlock ∧ some k_ ≠ (v258 : Value).ownBlock ∧ some k_ ≠ (.slice Ao55 t261.length co55 : Value).ownBlock)) (by (with_reducible repeat (first | apply Kd.R_alloc | apply Kd.R_drewN | apply Kd.R_drew)); exact Kd.R_mono HO268.out (fun _ hk => ⟨⟨hk.1, ⟨hk.2.1, ⟨hk.2.2.1, hk.2.2.2.1⟩⟩⟩, hk.2.2.2.2⟩)) hg hat)
                                          have n5_ := Aside0.mk (hb)
                                          have n6_ := Aside0.mk (ho)
                                          clear HO245
                                          clear HO254
                                          clear HO259
                                          clear HO264
                                          clear HO268
                                          clear HB
                                          clear HO274
                                          have HO245 := n0_
                                          have HO254 := n1_
                                          have HO259 := n2_
                                          have HO264 := n3_
                                          have HO268 := n4_
                                          have HB := n5_
                                          have HO277 := n6_
                                          clear n0_ n1_ n2_ n3_ n4_ n5_ n6_
                                          clear ho hb hg hat
                                          refine hK.out _ _ trivial (fun hHeld => ?_)
                                          clear hK K
                                          refine norm_ (a' := ?_) ?_ ?_
                                          rotate_left
                                          · show Act.put _ (some 115) _ = _
                                            simp only [Act.put, List.setIfInBounds_toArray, List.set_cons_zero, List.set_cons_succ, i64_w, i32_w]
                                            rfl
                                          exact norm_ (by first | (simp only [putAll, Act.put, List.setIfInBounds_toArray, List.set_cons_zero, List.set_cons_succ]; done) | (simp only [putAll, Act.put, List.setIfInBounds_toArray, List.set_cons_zero, List.set_cons_succ]; rfl)) (hJ6_8_10_13 (v270, v273, v276) _ ⟨(by (with_reducible repeat (first | apply Kd.R_alloc | apply Kd.R_drewN | apply Kd.R_drew)); exact Kd.R_mono HO245.out (fun _ hk => ⟨hk.1.1, ⟨hk.1.2.1, ⟨hk.1.2.2.1, ⟨hk.1.2.2.2, hk.2⟩⟩⟩⟩)), (by (with_reducible repeat (first | apply Kd.R_alloc | apply Kd.R_drewN | apply Kd.R_drew)); exact Kd.R_mono HO254.out (fun _ hk => ⟨hk.1.1, ⟨hk.1.2.1, ⟨hk.1.2.2.1, ⟨hk.1.2.2.2, hk.2⟩⟩⟩⟩)), (by (with_reducible repeat (first | apply Kd.R_alloc | apply Kd.R_drewN | apply Kd.R_drew)); exact Kd.R_mono HO259.out (fun _ hk => ⟨hk.1.1, ⟨hk.1.2.1, ⟨hk.1.2.2.1, ⟨hk.1.2.2.2, hk.2⟩⟩⟩⟩)), (by (with_reducible repeat (first | apply Kd.R_alloc | apply Kd.R_drewN | apply Kd.R_drew)); exact Kd.R_mono HO264.out (fun _ hk => ⟨hk.1.1, ⟨hk.1.2.1, ⟨hk.1.2.2.1, ⟨hk.1.2.2.2, hk.2⟩⟩⟩⟩)), (by (with_reducible repeat (first | apply Kd.R_alloc | apply Kd.R_drewN | apply Kd.R_drew)); exact Kd.R_mono HO268.out (fun _ hk => ⟨hk.1.1, ⟨hk.1.2.1, ⟨hk.1.2.2.1, ⟨hk.1.2.2.2, hk.2⟩⟩⟩⟩)), (by (with_reducible repeat (first | apply Kd.R_alloc | apply Kd.R_drewN | apply Kd.R_drew)); exact HO277.out), (by repeat (first | (with_reducible first | exact HB.out | apply below_alloc | apply pw_below_drewN | apply below_drew1) | exact HB.out))⟩)
                                      · skip
                                        rintro ⟨v270, v273, v276⟩ w61 ⟨h0_, h1_, h2_, h3_, h4_, h5_, h6_⟩
                                        have n0_ : Aside0 (Kd.R (Kd.int .u8) 5 w61 w.heap.size (fun k_ => some k_ ≠ (.slice Ao50 y252.length co50 : Value).ownBlock ∧ some k_ ≠ (v258 : Value).ownBlock ∧ some k_ ≠ (.slice Ao55 t261.length co55 : Value).ownBlock ∧ some k_ ≠ (.slice Ao54 t265.length co54 : Value).ownBlock ∧ some k_ ≠ (v276 : Value).ownBlock) (.slice Ao48 t242.length co48) t242) := ⟨h0_⟩
                                        have n1_ : Aside0 (Kd.R (Kd.int .u8) 5 w61 w.heap.size (fun k_ => some k_ ≠ (.slice Ao48 t242.length co48 : Value).ownBlock ∧ some k_ ≠ (v258 : Value).ownBlock ∧ some k_ ≠ (.slice Ao55 t261.length co55 : Value).ownBlock ∧ some k_ ≠ (.slice Ao54 t265.length co54 : Value).ownBlock ∧ some k_ ≠ (v276 : Value).ownBlock) (.slice Ao50 y252.length co50) y252) := ⟨h1_⟩
                                        have n2_ : Aside0 (Kd.R (Kd.int .u8) 5 w61 w.heap.size (fun k_ => some k_ ≠ (.slice Ao48 t242.length co48 : Value).ownBlock ∧ some k_ ≠ (.slice Ao50 y252.length co50 : Value).ownBlock ∧ some k_ ≠ (.slice Ao55 t261.length co55 : Value).ownBlock ∧ some k_ ≠ (.slice Ao54 t265.length co54 : Value).ownBlock ∧ some k_ ≠ (v276 : Value).ownBlock) v258 t256) := ⟨h2_⟩
                                        have n3_ : Aside0 (Kd.R (Kd.int .u8) 5 w61 w.heap.size (fun k_ => some k_ ≠ (.slice Ao48 t242.length co48 : Value).ownBlock ∧ some k_ ≠ (.slice Ao50 y252.length co50 : Value).ownBlock ∧ some k_ ≠ (v258 : Value).ownBlock ∧ some k_ ≠ (.slice Ao54 t265.length co54 : Value).ownBlock ∧ some k_ ≠ (v276 : Value).ownBlock) (.slice Ao55 t261.length co55) t261) := ⟨h3_⟩
                                        have n4_ : Aside0 (Kd.R (Kd.int .u8) 5 w61 w.heap.size (fun k_ => some k_ ≠ (.slice Ao48 t242.length co48 : Value).ownBlock ∧ some k_ ≠ (.slice Ao50 y252.length co50 : Value).ownBlock ∧ some k_ ≠ (v258 : Value).ownBlock ∧ some k_ ≠ (.slice Ao55 t261.length co55 : Value).ownBlock ∧ some k_ ≠ (v276 : Value).ownBlock) (.slice Ao54 t265.length co54) t265) := ⟨h4_⟩
                                        have n5_ : Aside0 (Kd.R (Kd.int .u8) 5 w61 w.heap.size (fun k_ => some k_ ≠ (.slice Ao48 t242.length co48 : Value).ownBlock ∧ some k_ ≠ (.slice Ao50 y252.length co50 : Value).ownBlock ∧ some k_ ≠ (v258 : Value).ownBlock ∧ some k_ ≠ (.slice Ao55 t261.length co55 : Value).ownBlock ∧ some k_ ≠ (.slice Ao54 t265.length co54 : Value).ownBlock) v276 y275) := ⟨h5_⟩
                                        have n6_ : Aside0 (Below w.heap.size w w61) := ⟨h6_⟩
                                        clear HO245
                                        clear HO254
                                        clear HO259
                                        clear HO264
                                        clear HO268
                                        clear HB
                                        clear h0_ h1_ h2_ h3_ h4_ h5_ h6_
                                        have HO245 := n0_
                                        have HO254 := n1_
                                        have HO259 := n2_
                                        have HO264 := n3_
                                        have HO268 := n4_
                                        have HO277 := n5_
                                        have HB := n6_
                                        clear n0_ n1_ n2_ n3_ n4_ n5_ n6_
                                        have hHeld := trivial
                                        refine norm_ (a' := ?_) ?_ ?_
                                        rotate_left
                                        · simp only [putAll, Act.put, List.setIfInBounds_toArray, List.set_cons_zero, List.set_cons_succ]
                                          rfl
                                        refine two_ (i := 11) (j := 13) (Ni := some 116) (Nj := some 118) #[true, true, true, true, true, true, true, true, true, true, true, true, true, false, false, false, false, false] #[true, true, true, true, true, true, true, true, true, true, true, false, true, true, false, false, false, false] rfl rfl rfl rfl (two_of HT_.out (by kernel_rfl)) (by decide) (by decide) (fun K hK => ?_) (fun K hK => ?_)
                                        · skip
                                          have hcv62 := own_string (P := Try.prog) Try.underlying22 Try.underlying5 Try.underlying9 (Kd.own_of_R HO277.out)
                                          refine value_ (w1 := ?_) (v := ?_) (by rfl) rfl ?_ ?_
                                          rotate_left 2
                                          · go_simp
                                            constructor
                                            · rfl
                                            · rfl
                                          clear hcv62
                                          refine hK.out _ _ trivial (fun hHeld => ?_)
                                          clear hK K
                                          refine norm_ (a' := ?_) ?_ ?_
                                          rotate_left
                                          · show Act.put _ (some 116) _ = _
                                            simp only [Act.put, List.setIfInBounds_toArray, List.set_cons_zero, List.set_cons_succ, i64_w, i32_w]
                                            rfl
                                          exact norm_ (by first | (simp only [putAll, Act.put, List.setIfInBounds_toArray, List.set_cons_zero, List.set_cons_succ]; done) | (simp only [putAll, Act.put, List.setIfInBounds_toArray, List.set_cons_zero, List.set_cons_succ]; rfl)) (hJ6_8_10_11 (v270, v273, v276) _ ⟨(by (with_reducible repeat (first | apply Kd.R_alloc | apply Kd.R_drewN | apply Kd.R_drew)); exact HO245.out), (by (with_reducible repeat (first | apply Kd.R_alloc | apply Kd.R_drewN | apply Kd.R_drew)); exact HO254.out), (by (with_reducible repeat (first | apply Kd.R_alloc | apply Kd.R_drewN | apply Kd.R_drew)); exact HO259.out), (by (with_reducible repeat (first | apply Kd.R_alloc | apply Kd.R_drewN | apply Kd.R_drew)); exact HO264.out), (by (with_reducible repeat (first | apply Kd.R_alloc | apply Kd.R_drewN | apply Kd.R_drew)); exact HO268.out), (by (with_reducible repeat (first | apply Kd.R_alloc | apply Kd.R_drewN | apply Kd.R_drew)); exact HO277.out), (by repeat (first | (with_reducible first | exact HB.out | apply below_alloc | apply pw_below_drewN | apply below_drew1) | exact HB.out))⟩)
                                        · skip
                                          have hcv62 := Kd.C_string (P := Try.prog) (A := A2) (c := c2) Try.underlying22 Try.underlying5 Try.underlying9 (Kd.C_below HR2.out HB.out)
                                          refine value_ (w1 := ?_) (v := ?_) (by rfl) rfl ?_ ?_
                                          rotate_left 2
                                          · go_simp
                                            constructor
                                            · rfl
                                            · rfl
                                          clear hcv62
                                          refine hK.out _ _ trivial (fun hHeld => ?_)
                                          clear hK K
                                          refine norm_ (a' := ?_) ?_ ?_
                                          rotate_left
                                          · show Act.put _ (some 118) _ = _
                                            simp only [Act.put, List.setIfInBounds_toArray, List.set_cons_zero, List.set_cons_succ, i64_w, i32_w]
                                            rfl
                                          exact norm_ (by first | (simp only [putAll, Act.put, List.setIfInBounds_toArray, List.set_cons_zero, List.set_cons_succ]; done) | (simp only [putAll, Act.put, List.setIfInBounds_toArray, List.set_cons_zero, List.set_cons_succ]; rfl)) (hJ6_8_10_13 (v270, v273, v276) _ ⟨(by (with_reducible repeat (first | apply Kd.R_alloc | apply Kd.R_drewN | apply Kd.R_drew)); exact HO245.out), (by (with_reducible repeat (first | apply Kd.R_alloc | apply Kd.R_drewN | apply Kd.R_drew)); exact HO254.out), (by (with_reducible repeat (first | apply Kd.R_alloc | apply Kd.R_drewN | apply Kd.R_drew)); exact HO259.out), (by (with_reducible repeat (first | apply Kd.R_alloc | apply Kd.R_drewN | apply Kd.R_drew)); exact HO264.out), (by (with_reducible repeat (first | apply Kd.R_alloc | apply Kd.R_drewN | apply Kd.R_drew)); exact HO268.out), (by (with_reducible repeat (first | apply Kd.R_alloc | apply Kd.R_drewN | apply Kd.R_drew)); exact HO277.out), (by repeat (first | (with_reducible first | exact HB.out | apply below_alloc | apply pw_below_drewN | apply below_drew1) | exact HB.out))⟩)
                                    · skip
                                      rintro ⟨v270, v273, v276⟩ w62 ⟨h0_, h1_, h2_, h3_, h4_, h5_, h6_⟩
                                      have n0_ : Aside0 (Kd.R (Kd.int .u8) 5 w62 w.heap.size (fun k_ => some k_ ≠ (.slice Ao50 y252.length co50 : Value).ownBlock ∧ some k_ ≠ (v258 : Value).ownBlock ∧ some k_ ≠ (.slice Ao55 t261.length co55 : Value).ownBlock ∧ some k_ ≠ (.slice Ao54 t265.length co54 : Value).ownBlock ∧ some k_ ≠ (v276 : Value).ownBlock) (.slice Ao48 t242.length co48) t242) := ⟨h0_⟩
                                      have n1_ : Aside0 (Kd.R (Kd.int .u8) 5 w62 w.heap.size (fun k_ => some k_ ≠ (.slice Ao48 t242.length co48 : Value).ownBlock ∧ some k_ ≠ (v258 : Value).ownBlock ∧ some k_ ≠ (.slice Ao55 t261.length co55 : Value).ownBlock ∧ some k_ ≠ (.slice Ao54 t265.length co54 : Value).ownBlock ∧ some k_ ≠ (v276 : Value).ownBlock) (.slice Ao50 y252.length co50) y252) := ⟨h1_⟩
                                      have n2_ : Aside0 (Kd.R (Kd.int .u8) 5 w62 w.heap.size (fun k_ => some k_ ≠ (.slice Ao48 t242.length co48 : Value).ownBlock ∧ some k_ ≠ (.slice Ao50 y252.length co50 : Value).ownBlock ∧ some k_ ≠ (.slice Ao55 t261.length co55 : Value).ownBlock ∧ some k_ ≠ (.slice Ao54 t265.length co54 : Value).ownBlock ∧ some k_ ≠ (v276 : Value).ownBlock) v258 t256) := ⟨h2_⟩
                                      have n3_ : Aside0 (Kd.R (Kd.int .u8) 5 w62 w.heap.size (fun k_ => some k_ ≠ (.slice Ao48 t242.length co48 : Value).ownBlock ∧ some k_ ≠ (.slice Ao50 y252.length co50 : Value).ownBlock ∧ some k_ ≠ (v258 : Value).ownBlock ∧ some k_ ≠ (.slice Ao54 t265.length co54 : Value).ownBlock ∧ some k_ ≠ (v276 : Value).ownBlock) (.slice Ao55 t261.length co55) t261) := ⟨h3_⟩
                                      have n4_ : Aside0 (Kd.R (Kd.int .u8) 5 w62 w.heap.size (fun k_ => some k_ ≠ (.slice Ao48 t242.length co48 : Value).ownBlock ∧ some k_ ≠ (.slice Ao50 y252.length co50 : Value).ownBlock ∧ some k_ ≠ (v258 : Value).ownBlock ∧ some k_ ≠ (.slice Ao55 t261.length co55 : Value).ownBlock ∧ some k_ ≠ (v276 : Value).ownBlock) (.slice Ao54 t265.length co54) t265) := ⟨h4_⟩
                                      have n5_ : Aside0 (Kd.R (Kd.int .u8) 5 w62 w.heap.size (fun k_ => some k_ ≠ (.slice Ao48 t242.length co48 : Value).ownBlock ∧ some k_ ≠ (.slice Ao50 y252.length co50 : Value).ownBlock ∧ some k_ ≠ (v258 : Value).ownBlock ∧ some k_ ≠ (.slice Ao55 t261.length co55 : Value).ownBlock ∧ some k_ ≠ (.slice Ao54 t265.length co54 : Value).ownBlock) v276 y275) := ⟨h5_⟩
                                      have n6_ : Aside0 (Below w.heap.size w w62) := ⟨h6_⟩
                                      clear HO245
                                      clear HO254
                                      clear HO259
                                      clear HO264
                                      clear HO268
                                      clear HB
                                      clear h0_ h1_ h2_ h3_ h4_ h5_ h6_
                                      have HO245 := n0_
                                      have HO254 := n1_
                                      have HO259 := n2_
                                      have HO264 := n3_
                                      have HO268 := n4_
                                      have HO277 := n5_
                                      have HB := n6_
                                      clear n0_ n1_ n2_ n3_ n4_ n5_ n6_
                                      have hHeld := trivial
                                      refine norm_ (a' := ?_) ?_ ?_
                                      rotate_left
                                      · simp only [putAll, Act.put, List.setIfInBounds_toArray, List.set_cons_zero, List.set_cons_succ]
                                        rfl
                                      refine one_ (i := 11) (N := some 116) #[true, true, true, true, true, true, true, true, true, true, true, true, true, true, false, false, false, false] rfl rfl (one_of HT_.out (by kernel_rfl)) (by decide) (fun K hK => ?_)
                                      have hcv63 := own_string (P := Try.prog) Try.underlying22 Try.underlying5 Try.underlying9 (Kd.own_of_R HO277.out)
                                      refine value_ (w1 := ?_) (v := ?_) (by rfl) rfl ?_ ?_
                                      rotate_left 2
                                      · go_simp
                                        constructor
                                        · rfl
                                        · rfl
                                      clear hcv63
                                      refine hK.out _ _ trivial (fun hHeld => ?_)
                                      clear hK K
                                      refine norm_ (a' := ?_) ?_ ?_
                                      rotate_left
                                      · show Act.put _ (some 116) _ = _
                                        simp only [Act.put, List.setIfInBounds_toArray, List.set_cons_zero, List.set_cons_succ, i64_w, i32_w]
                                        rfl
                                      exact norm_ (by first | (simp only [putAll, Act.put, List.setIfInBounds_toArray, List.set_cons_zero, List.set_cons_succ]; done) | (simp only [putAll, Act.put, List.setIfInBounds_toArray, List.set_cons_zero, List.set_cons_succ]; rfl)) (hJ6_8_10_11_13 (v270, v273, v276) _ ⟨(by (with_reducible repeat (first | apply Kd.R_alloc | apply Kd.R_drewN | apply Kd.R_drew)); exact HO245.out), (by (with_reducible repeat (first | apply Kd.R_alloc | apply Kd.R_drewN | apply Kd.R_drew)); exact HO254.out), (by (with_reducible repeat (first | apply Kd.R_alloc | apply Kd.R_drewN | apply Kd.R_drew)); exact HO259.out), (by (with_reducible repeat (first | apply Kd.R_alloc | apply Kd.R_drewN | apply Kd.R_drew)); exact HO264.out), (by (with_reducible repeat (first | apply Kd.R_alloc | apply Kd.R_drewN | apply Kd.R_drew)); exact HO268.out), (by (with_reducible repeat (first | apply Kd.R_alloc | apply Kd.R_drewN | apply Kd.R_drew)); exact HO277.out), (by repeat (first | (with_reducible first | exact HB.out | apply below_alloc | apply pw_below_drewN | apply below_drew1) | exact HB.out))⟩)
                                  · skip
                                    rintro ⟨v270, v273, v276⟩ w62 ⟨h0_, h1_, h2_, h3_, h4_, h5_, h6_⟩
                                    have n0_ : Aside0 (Kd.R (Kd.int .u8) 5 w62 w.heap.size (fun k_ => some k_ ≠ (.slice Ao50 y252.length co50 : Value).ownBlock ∧ some k_ ≠ (v258 : Value).ownBlock ∧ some k_ ≠ (.slice Ao55 t261.length co55 : Value).ownBlock ∧ some k_ ≠ (.slice Ao54 t265.length co54 : Value).ownBlock ∧ some k_ ≠ (v276 : Value).ownBlock) (.slice Ao48 t242.length co48) t242) := ⟨h0_⟩
                                    have n1_ : Aside0 (Kd.R (Kd.int .u8) 5 w62 w.heap.size (fun k_ => some k_ ≠ (.slice Ao48 t242.length co48 : Value).ownBlock ∧ some k_ ≠ (v258 : Value).ownBlock ∧ some k_ ≠ (.slice Ao55 t261.length co55 : Value).ownBlock ∧ some k_ ≠ (.slice Ao54 t265.length co54 : Value).ownBlock ∧ some k_ ≠ (v276 : Value).ownBlock) (.slice Ao50 y252.length co50) y252) := ⟨h1_⟩
                                    have n2_ : Aside0 (Kd.R (Kd.int .u8) 5 w62 w.heap.size (fun k_ => some k_ ≠ (.slice Ao48 t242.length co48 : Value).ownBlock ∧ some k_ ≠ (.slice Ao50 y252.length co50 : Value).ownBlock ∧ some k_ ≠ (.slice Ao55 t261.length co55 : Value).ownBlock ∧ some k_ ≠ (.slice Ao54 t265.length co54 : Value).ownBlock ∧ some k_ ≠ (v276 : Value).ownBlock) v258 t256) := ⟨h2_⟩
                                    have n3_ : Aside0 (Kd.R (Kd.int .u8) 5 w62 w.heap.size (fun k_ => some k_ ≠ (.slice Ao48 t242.length co48 : Value).ownBlock ∧ some k_ ≠ (.slice Ao50 y252.length co50 : Value).ownBlock ∧ some k_ ≠ (v258 : Value).ownBlock ∧ some k_ ≠ (.slice Ao54 t265.length co54 : Value).ownBlock ∧ some k_ ≠ (v276 : Value).ownBlock) (.slice Ao55 t261.length co55) t261) := ⟨h3_⟩
                                    have n4_ : Aside0 (Kd.R (Kd.int .u8) 5 w62 w.heap.size (fun k_ => some k_ ≠ (.slice Ao48 t242.length co48 : Value).ownBlock ∧ some k_ ≠ (.slice Ao50 y252.length co50 : Value).ownBlock ∧ some k_ ≠ (v258 : Value).ownBlock ∧ some k_ ≠ (.slice Ao55 t261.length co55 : Value).ownBlock ∧ some k_ ≠ (v276 : Value).ownBlock) (.slice Ao54 t265.length co54) t265) := ⟨h4_⟩
                                    have n5_ : Aside0 (Kd.R (Kd.int .u8) 5 w62 w.heap.size (fun k_ => some k_ ≠ (.slice Ao48 t242.length co48 : Value).ownBlock ∧ some k_ ≠ (.slice Ao50 y252.length co50 : Value).ownBlock ∧ some k_ ≠ (v258 : Value).ownBlock ∧ some k_ ≠ (.slice Ao55 t261.length co55 : Value).ownBlock ∧ some k_ ≠ (.slice Ao54 t265.length co54 : Value).ownBlock) v276 y275) := ⟨h5_⟩
                                    have n6_ : Aside0 (Below w.heap.size w w62) := ⟨h6_⟩
                                    clear HO245
                                    clear HO254
                                    clear HO259
                                    clear HO264
                                    clear HO268
                                    clear HB
                                    clear h0_ h1_ h2_ h3_ h4_ h5_ h6_
                                    have HO245 := n0_
                                    have HO254 := n1_
                                    have HO259 := n2_
                                    have HO264 := n3_
                                    have HO268 := n4_
                                    have HO277 := n5_
                                    have HB := n6_
                                    clear n0_ n1_ n2_ n3_ n4_ n5_ n6_
                                    have hHeld := trivial
                                    refine norm_ (a' := ?_) ?_ ?_
                                    rotate_left
                                    · simp only [putAll, Act.put, List.setIfInBounds_toArray, List.set_cons_zero, List.set_cons_succ]
                                      rfl
                                    refine one_ (i := 13) (N := some 118) #[true, true, true, true, true, true, true, true, true, true, true, true, true, true, false, false, false, false] rfl rfl (one_of HT_.out (by kernel_rfl)) (by decide) (fun K hK => ?_)
                                    have hcv63 := Kd.C_string (P := Try.prog) (A := A2) (c := c2) Try.underlying22 Try.underlying5 Try.underlying9 (Kd.C_below HR2.out HB.out)
                                    refine value_ (w1 := ?_) (v := ?_) (by rfl) rfl ?_ ?_
                                    rotate_left 2
                                    · go_simp
                                      constructor
                                      · rfl
                                      · rfl
                                    clear hcv63
                                    refine hK.out _ _ trivial (fun hHeld => ?_)
                                    clear hK K
                                    refine norm_ (a' := ?_) ?_ ?_
                                    rotate_left
                                    · show Act.put _ (some 118) _ = _
                                      simp only [Act.put, List.setIfInBounds_toArray, List.set_cons_zero, List.set_cons_succ, i64_w, i32_w]
                                      rfl
                                    exact norm_ (by first | (simp only [putAll, Act.put, List.setIfInBounds_toArray, List.set_cons_zero, List.set_cons_succ]; done) | (simp only [putAll, Act.put, List.setIfInBounds_toArray, List.set_cons_zero, List.set_cons_succ]; rfl)) (hJ6_8_10_11_13 (v270, v273, v276) _ ⟨(by (with_reducible repeat (first | apply Kd.R_alloc | apply Kd.R_drewN | apply Kd.R_drew)); exact HO245.out), (by (with_reducible repeat (first | apply Kd.R_alloc | apply Kd.R_drewN | apply Kd.R_drew)); exact HO254.out), (by (with_reducible repeat (first | apply Kd.R_alloc | apply Kd.R_drewN | apply Kd.R_drew)); exact HO259.out), (by (with_reducible repeat (first | apply Kd.R_alloc | apply Kd.R_drewN | apply Kd.R_drew)); exact HO264.out), (by (with_reducible repeat (first | apply Kd.R_alloc | apply Kd.R_drewN | apply Kd.R_drew)); exact HO268.out), (by (with_reducible repeat (first | apply Kd.R_alloc | apply Kd.R_drewN | apply Kd.R_drew)); exact HO277.out), (by repeat (first | (with_reducible first | exact HB.out | apply below_alloc | apply pw_below_drewN | apply below_drew1) | exact HB.out))⟩)
                                rintro ⟨v270, v273, v276⟩ w63 ⟨h0_, h1_, h2_, h3_, h4_, h5_, h6_⟩
                                have n0_ : Aside0 (Kd.R (Kd.int .u8) 5 w63 w.heap.size (fun k_ => some k_ ≠ (.slice Ao50 y252.length co50 : Value).ownBlock ∧ some k_ ≠ (v258 : Value).ownBlock ∧ some k_ ≠ (.slice Ao55 t261.length co55 : Value).ownBlock ∧ some k_ ≠ (.slice Ao54 t265.length co54 : Value).ownBlock ∧ some k_ ≠ (v276 : Value).ownBlock) (.slice Ao48 t242.length co48) t242) := ⟨h0_⟩
                                have n1_ : Aside0 (Kd.R (Kd.int .u8) 5 w63 w.heap.size (fun k_ => some k_ ≠ (.slice Ao48 t242.length co48 : Value).ownBlock ∧ some k_ ≠ (v258 : Value).ownBlock ∧ some k_ ≠ (.slice Ao55 t261.length co55 : Value).ownBlock ∧ some k_ ≠ (.slice Ao54 t265.length co54 : Value).ownBlock ∧ some k_ ≠ (v276 : Value).ownBlock) (.slice Ao50 y252.length co50) y252) := ⟨h1_⟩
                                have n2_ : Aside0 (Kd.R (Kd.int .u8) 5 w63 w.heap.size (fun k_ => some k_ ≠ (.slice Ao48 t242.length co48 : Value).ownBlock ∧ some k_ ≠ (.slice Ao50 y252.length co50 : Value).ownBlock ∧ some k_ ≠ (.slice Ao55 t261.length co55 : Value).ownBlock ∧ some k_ ≠ (.slice Ao54 t265.length co54 : Value).ownBlock ∧ some k_ ≠ (v276 : Value).ownBlock) v258 t256) := ⟨h2_⟩
                                have n3_ : Aside0 (Kd.R (Kd.int .u8) 5 w63 w.heap.size (fun k_ => some k_ ≠ (.slice Ao48 t242.length co48 : Value).ownBlock ∧ some k_ ≠ (.slice Ao50 y252.length co50 : Value).ownBlock ∧ some k_ ≠ (v258 : Value).ownBlock ∧ some k_ ≠ (.slice Ao54 t265.length co54 : Value).ownBlock ∧ some k_ ≠ (v276 : Value).ownBlock) (.slice Ao55 t261.length co55) t261) := ⟨h3_⟩
                                have n4_ : Aside0 (Kd.R (Kd.int .u8) 5 w63 w.heap.size (fun k_ => some k_ ≠ (.slice Ao48 t242.length co48 : Value).ownBlock ∧ some k_ ≠ (.slice Ao50 y252.length co50 : Value).ownBlock ∧ some k_ ≠ (v258 : Value).ownBlock ∧ some k_ ≠ (.slice Ao55 t261.length co55 : Value).ownBlock ∧ some k_ ≠ (v276 : Value).ownBlock) (.slice Ao54 t265.length co54) t265) := ⟨h4_⟩
                                have n5_ : Aside0 (Kd.R (Kd.int .u8) 5 w63 w.heap.size (fun k_ => some k_ ≠ (.slice Ao48 t242.length co48 : Value).ownBlock ∧ some k_ ≠ (.slice Ao50 y252.length co50 : Value).ownBlock ∧ some k_ ≠ (v258 : Value).ownBlock ∧ some k_ ≠ (.slice Ao55 t261.length co55 : Value).ownBlock ∧ some k_ ≠ (.slice Ao54 t265.length co54 : Value).ownBlock) v276 y275) := ⟨h5_⟩
                                have n6_ : Aside0 (Below w.heap.size w w63) := ⟨h6_⟩
                                clear HO245
                                clear HO254
                                clear HO259
                                clear HO264
                                clear HO268
                                clear HB
                                clear h0_ h1_ h2_ h3_ h4_ h5_ h6_
                                have HO245 := n0_
                                have HO254 := n1_
                                have HO259 := n2_
                                have HO264 := n3_
                                have HO268 := n4_
                                have HO277 := n5_
                                have HB := n6_
                                clear n0_ n1_ n2_ n3_ n4_ n5_ n6_
                                have hHeld := trivial
                                refine norm_ (a' := ?_) ?_ ?_
                                rotate_left
                                · simp only [putAll, Act.put, List.setIfInBounds_toArray, List.set_cons_zero, List.set_cons_succ]
                                  rfl
                                refine pure_ (i := 14) (N := some 119) (v := ?_) (a' := ?_) #[true, true, true, true, true, true, true, true, true, true, true, true, true, true, true, false, false, false] rfl rfl (any_of HT_.out (by kernel_rfl)) (fun _ _ _ h => h) (Or.inl ⟨by rfl, ?_⟩) ?_ ?_
                                rotate_left
                                · intro w'
                                  go_simp
                                  with_reducible rfl
                                rotate_left
                                · simp only [Act.put, List.setIfInBounds_toArray, List.set_cons_zero, List.set_cons_succ, i64_w, i32_w]
                                  rfl
                                refine pure_ (i := 15) (N := some 120) (v := ?_) (a' := ?_) #[true, true, true, true, true, true, true, true, true, true, true, true, true, true, true, true, false, false] rfl rfl (any_of HT_.out (by kernel_rfl)) (fun _ _ _ h => h) (Or.inl ⟨by rfl, ?_⟩) ?_ ?_
                                rotate_left
                                · intro w'
                                  go_simp
                                  with_reducible rfl
                                rotate_left
                                · simp only [Act.put, List.setIfInBounds_toArray, List.set_cons_zero, List.set_cons_succ, i64_w, i32_w]
                                  rfl
                                refine pure_ (i := 16) (N := some 121) (v := ?_) (a' := ?_) #[true, true, true, true, true, true, true, true, true, true, true, true, true, true, true, true, true, false] rfl rfl (any_of HT_.out (by kernel_rfl)) (fun _ _ _ h => h) (Or.inl ⟨by rfl, ?_⟩) ?_ ?_
                                rotate_left
                                · intro w'
                                  go_simp
                                  with_reducible rfl
                                rotate_left
                                · simp only [Act.put, List.setIfInBounds_toArray, List.set_cons_zero, List.set_cons_succ, i64_w, i32_w]
                                  rfl
                                refine pure_ (i := 17) (N := some 24) (v := ?_) (a' := ?_) #[true, true, true, true, true, true, true, true, true, true, true, true, true, true, true, true, true, true] rfl rfl (any_of HT_.out (by kernel_rfl)) (fun _ _ _ h => h) (Or.inl ⟨by rfl, ?_⟩) ?_ ?_
                                rotate_left
                                · intro w'
                                  go_simp
                                  with_reducible rfl
                                rotate_left
                                · simp only [Act.put, List.setIfInBounds_toArray, List.set_cons_zero, List.set_cons_succ, i64_w, i32_w]
                                  rfl
                                refine done_ (done_of HT_.out (by kernel_rfl)) ?_
                                have hcv64 := own_string (P := Try.prog) Try.underlying22 Try.underlying5 Try.underlying9 (Kd.own_of_R HO259.out)
                                have hcvq64 := fun n_ : Nat => own_string (P := Try.prog) Try.underlying22 Try.underlying5 Try.underlying9 (Kd.own_of_R (Kd.R_drewN HO259.out n_))
                                have hcv65 := Kd.C_string (P := Try.prog) (A := A2) (c := c2) Try.underlying22 Try.underlying5 Try.underlying9 (Kd.C_below HR2.out HB.out)
                                have hcvq65 := fun n_ : Nat => Kd.C_string (P := Try.prog) (A := A2) (c := c2) Try.underlying22 Try.underlying5 Try.underlying9 (Kd.C_drewN (Kd.C_below HR2.out HB.out) n_)
                                try go_wp2
                                go_ret
                                exact ⟨by first | rfl | (simp [errW_none, errW_some] <;> rfl) | (simp [*, errW_none, errW_some] <;> rfl), by repeat (first | (with_reducible first | exact HB.out | apply below_alloc | apply pw_below_drewN | apply below_drew1) | exact HB.out)⟩
                              · rw [if_neg c43] at H
                                exact absurd H (by simp)
                            · rw [if_neg c42] at H
                              exact absurd H (by simp)
                          · rw [if_neg c41] at H
                            exact absurd H (by simp)
                        · rw [if_neg c40] at H
                          exact absurd H (by simp)
                      · rw [if_neg c39] at H
                        exact absurd H (by simp)
                    · replace c38 := Bool.eq_false_iff.mpr c38
                      subst c38
                      have H1 : (none) = some r := by rw [if_neg (show ¬ (false = true) by decide)] at H; exact H
                      clear H
                      have H := H1
                      clear H1
                      exact absurd H (by simp)
                  · rw [if_neg c37] at H
                    exact absurd H (by simp)
                · rw [if_neg c36] at H
                  exact absurd H (by simp)
              · rw [if_neg c35] at H
                have c35b0 : (t266 == 0) = false := beq_eq_false_iff_ne.mpr c35
                have c35b1 : (t266 != 0) = true := bne_iff_ne.mpr c35
                by_cases c66 : t223 = true
                · subst c66
                  have H1 : (if t243 = 0 then (if t257 = 0 then (if t255 = (wrap64 (wrap32 (a0))) then (if (strOfNums t256).toList = (strOfNums l2).toList then (none) else (none)) else (none)) else (none)) else (none)) = some r := by rw [if_pos rfl] at H; exact H
                  clear H
                  have H := H1
                  clear H1
                  by_cases c67 : t243 = 0
                  · rw [if_pos c67] at H
                    have c67b0 : (t243 == 0) = true := beq_iff_eq.mpr c67
                    have c67b1 : (t243 != 0) = false := bne_eq_false_iff_eq.mpr c67
                    clear c67
                    by_cases c68 : t257 = 0
                    · rw [if_pos c68] at H
                      have c68b0 : (t257 == 0) = true := beq_iff_eq.mpr c68
                      have c68b1 : (t257 != 0) = false := bne_eq_false_iff_eq.mpr c68
                      clear c68
                      by_cases c69 : t255 = (wrap64 (wrap32 (a0)))
                      · rw [if_pos c69] at H
                        have c69b0 : (t255 == (wrap64 (wrap32 (a0)))) = true := beq_iff_eq.mpr c69
                        have c69b1 : (t255 != (wrap64 (wrap32 (a0)))) = false := bne_eq_false_iff_eq.mpr c69
                        (try (have c69b2 : (t255 == (IntKind.i64.wrap (wrap32 (a0)))) = true := by simp only [i64_w]; exact (beq_iff_eq.mpr c69)))
                        (try (have c69b3 : (t255 != (IntKind.i64.wrap (wrap32 (a0)))) = false := by simp only [i64_w]; exact (bne_eq_false_iff_eq.mpr c69)))
                        clear c69
                        by_cases c70 : (strOfNums t256).toList = (strOfNums l2).toList
                        · rw [if_pos c70] at H
                          exact absurd H (by simp)
                        · rw [if_neg c70] at H
                          exact absurd H (by simp)
                      · rw [if_neg c69] at H
                        exact absurd H (by simp)
                    · rw [if_neg c68] at H
                      exact absurd H (by simp)
                  · rw [if_neg c67] at H
                    exact absurd H (by simp)
                · replace c66 := Bool.eq_false_iff.mpr c66
                  subst c66
                  have H1 : (none) = some r := by rw [if_neg (show ¬ (false = true) by decide)] at H; exact H
                  clear H
                  have H := H1
                  clear H1
                  exact absurd H (by simp)
            · rw [if_neg c34] at H
              have c34b0 : (t262 == 0) = false := beq_eq_false_iff_ne.mpr c34
              have c34b1 : (t262 != 0) = true := bne_iff_ne.mpr c34
              by_cases c71 : t223 = true
              · subst c71
                have H1 : (if t243 = 0 then (if t257 = 0 then (if t255 = (wrap64 (wrap32 (a0))) then (if (strOfNums t256).toList = (strOfNums l2).toList then (some ((t262 == 0) == (decide ((l2.length : Int) ≥ (wrap64 (1 + (wrap64 (Int.tmod a1 4)))))))) else (none)) else (none)) else (none)) else (none)) = some r := by rw [if_pos rfl] at H; exact H
                clear H
                have H := H1
                clear H1
                by_cases c72 : t243 = 0
                · rw [if_pos c72] at H
                  have c72b0 : (t243 == 0) = true := beq_iff_eq.mpr c72
                  have c72b1 : (t243 != 0) = false := bne_eq_false_iff_eq.mpr c72
                  clear c72
                  by_cases c73 : t257 = 0
                  · rw [if_pos c73] at H
                    have c73b0 : (t257 == 0) = true := beq_iff_eq.mpr c73
                    have c73b1 : (t257 != 0) = false := bne_eq_false_iff_eq.mpr c73
                    clear c73
                    by_cases c74 : t255 = (wrap64 (wrap32 (a0)))
                    · rw [if_pos c74] at H
                      have c74b0 : (t255 == (wrap64 (wrap32 (a0)))) = true := beq_iff_eq.mpr c74
                      have c74b1 : (t255 != (wrap64 (wrap32 (a0)))) = false := bne_eq_false_iff_eq.mpr c74
                      (try (have c74b2 : (t255 == (IntKind.i64.wrap (wrap32 (a0)))) = true := by simp only [i64_w]; exact (beq_iff_eq.mpr c74)))
                      (try (have c74b3 : (t255 != (IntKind.i64.wrap (wrap32 (a0)))) = false := by simp only [i64_w]; exact (bne_eq_false_iff_eq.mpr c74)))
                      clear c74
                      by_cases c75 : (strOfNums t256).toList = (strOfNums l2).toList
                      · rw [if_pos c75] at H
                        have c75b0 : ((strOfNums t256).toList == (strOfNums l2).toList) = true := beq_iff_eq.mpr c75
                        have c75b1 : ((strOfNums t256).toList != (strOfNums l2).toList) = false := bne_eq_false_iff_eq.mpr c75
                        clear c75
                        obtain rfl := Option.some.inj H
                        try go_wp2_with (first | ((with_reducible refine gate_callee (f := 12) rfl ?_); refine goesL_ (some 79) rfl rfl Try.func12 (by kernel_rfl) rfl #[.slice none 0 0, .int .i64 (wrap64 (wrap32 (a0)))] rfl (by (try simp only [List.map_toArray, List.map_cons, List.map_nil]); first | done | rfl | (simp only [List.length_drop, List.length_take]; rfl)) ?_; (refine (pack_PutFix.calls kj7 _ _ ([] : List Int) (wrap64 (wrap32 (a0))) t242 t243 _ ?side1 ?side2 A28.out).mono ?_); (case side1 => exact Kd.C_nil _ _); (case side2 => exact Nat.le_refl _); rintro e w76 ⟨v244, rfl, ho0, hb⟩; refine ⟨_, rfl, ?_⟩; have n0_ := Aside0.mk (Kd.R_lower ho0 (below_size (by repeat (first | (with_reducible first | exact HB.out | apply below_alloc | apply pw_below_drewN | apply below_drew1) | exact HB.out)))); have n1_ := Aside0.mk (below_step (by repeat (first | (with_reducible first | exact HB.out | apply below_alloc | apply pw_below_drewN | apply below_drew1) | exact HB.out)) hb); clear HB; have HO245 := n0_; have HB := n1_; clear n0_ n1_; (try clear hb); (try clear hb2); (try clear hk); (try clear hi); (try clear ho0)) | ((with_reducible refine gate_dst (N := 83) rfl ?_); (try (refine gate_guard (by rfl) ?_; dsimp only)); refine Kd.R_lit (Kd.int .u8) _ 5 ?hg (N := 83) ?hd (xs := ([] : List Int)) (inner := []) (ok := fun _ => True) (okp := fun _ => True) ?hr ?hp (fun _ hk => hk) trivial (Below.refl _ _) (Nat.le_refl _) (by simp) ?_; (case hd => rfl); (case hg => rfl); (case hr => first | (go_simp; done) | (go_simp; rfl)); (case hp => exact (Reps.none _ _)); intro v247 w77 ho78 hb hg_ hnew_; clear hg_ hnew_; (first | rw [← Ny246.out] at ho78 | (simp only [Int.reduceToNat] at ho78; rw [← Ny246.out] at ho78)); have n0_ := Aside0.mk (Kd.R_elder' (by (with_reducible repeat (first | apply Kd.R_alloc | apply Kd.R_drewN | apply Kd.R_drew)); exact HO245.out) (Kd.R_base ho78) hb); have n1_ := Aside0.mk (Kd.R_lower (Kd.R_new' ho78 (Kd.R_lt (by (with_reducible repeat (first | apply Kd.R_alloc | apply Kd.R_drewN | apply Kd.R_drew)); exact HO245.out))) (below_size (by repeat (first | (with_reducible first | exact HB.out | apply below_alloc | apply pw_below_drewN | apply below_drew1) | exact HB.out)))); have n2_ := Aside0.mk (below_step (by repeat (first | (with_reducible first | exact HB.out | apply below_alloc | apply pw_below_drewN | apply below_drew1) | exact HB.out)) hb); clear HO245; clear HB; have HO245 := n0_; have HO248 := n1_; have HB := n2_; clear n0_ n1_ n2_; clear hb ho78; obtain ⟨Ao80, co80, eo80⟩ := Kd.R_slice HO245.out; subst eo80) | ((with_reducible refine gate_builtin (b := .append) (xs := #[.tmp 83, .tmp 84]) rfl ?_); (try (refine gate_guard (by rfl) ?_; dsimp only)); at_builtin; refine Kd.R_append_rows (Kd.int .u8) (w0 := w) w.heap.size rfl (.tmp 83) (.tmp 84) 22 5 (.int .u8 0) 1 rfl Try.underlying22 info5 rfl (by decide) (by omega) v247 y246 t242 _ _ _ (fun k_ => some k_ ≠ (.slice Ao80 t242.length co80 : Value).ownBlock) (fun _ => False) rfl rfl ?aO ?aR (fun _ _ h => h) (fun _ h => h.elim) ?aF ?aB ?aS ?aL ?_; (case aR => repeat (first | exact (Kd.R_reads' HO245.out).2.2 | (with_reducible refine Kd.C_alloc ?_ _) | (with_reducible refine Kd.C_drewN ?_ _) | (with_reducible refine Kd.C_drew ?_))); (case aB => exact (by repeat (first | (with_reducible first | exact HB.out | apply below_alloc | apply pw_below_drewN | apply below_drew1) | exact HB.out))); (case aF => exact (fun k_ hk => Kd.fresh' (Kd.R_lt (by (with_reducible repeat (first | apply Kd.R_alloc | apply Kd.R_drewN | apply Kd.R_drew)); exact HO245.out)) k_ hk)); (case aO => exact (by (with_reducible repeat (first | apply Kd.R_alloc | apply Kd.R_drewN | apply Kd.R_drew)); exact Kd.R_mono HO248.out (fun _ hk => hk.2))); (case aS => exact (below_size (by repeat (first | (with_reducible first | exact HB.out | apply below_alloc | apply pw_below_drewN | apply below_drew1) | exact HB.out)))); (case aL => have := LMc29.out; omega); intro v250 w79 ho hb hg hat; rw [← Ny249.out] at ho; have n0_ := Aside0.mk (Kd.R_after (ok := (fun _ => True)) (by (with_reducible repeat (first | apply Kd.R_alloc | apply Kd.R_drewN | apply Kd.R_drew)); exact HO245.out) hg hat); have n1_ := Aside0.mk (hb); have n2_ := Aside0.mk (ho); clear HO245; clear HB; clear HO248; have HO245 := n0_; have HB := n1_; have HO251 := n2_; clear n0_ n1_ n2_; clear ho hb hg hat) | ((with_reducible refine gate_builtin (b := .append) (xs := #[.tmp 85, .tmp 86]) rfl ?_); (try (refine gate_guard (by rfl) ?_; dsimp only)); at_builtin; refine Kd.R_append_rows (Kd.int .u8) (w0 := w) w.heap.size rfl (.tmp 85) (.tmp 86) 22 5 (.int .u8 0) 1 rfl Try.underlying22 info5 rfl (by decide) (by omega) v250 y249 l2 _ _ _ (fun k_ => some k_ ≠ (.slice Ao80 t242.length co80 : Value).ownBlock) (fun _ => False) rfl rfl ?aO ?aR (fun _ _ h => h) (fun _ h => h.elim) ?aF ?aB ?aS ?aL ?_; (case aR => repeat (first | exact (Kd.C_below HR2.out HB.out) | (with_reducible refine Kd.C_alloc ?_ _) | (with_reducible refine Kd.C_drewN ?_ _) | (with_reducible refine Kd.C_drew ?_))); (case aB => exact (by repeat (first | (with_reducible first | exact HB.out | apply below_alloc | apply pw_below_drewN | apply below_drew1) | exact HB.out))); (case aF => exact (fun k_ hk => Kd.fresh' (Kd.R_lt (by (with_reducible repeat (first | apply Kd.R_alloc | apply Kd.R_drewN | apply Kd.R_drew)); exact HO245.out)) k_ hk)); (case aO => exact (by (with_reducible repeat (first | apply Kd.R_alloc | apply Kd.R_drewN | apply Kd.R_drew)); exact HO251.out)); (case aS => exact (below_size (by repeat (first | (with_reducible first | exact HB.out | apply below_alloc | apply pw_below_drewN | apply below_drew1) | exact HB.out)))); (case aL => have := LMc30.out; omega); intro v253 w81 ho hb hg hat; rw [← Ny252.out] at ho; have n0_ := Aside0.mk (Kd.R_after (ok := (fun _ => True)) (by (with_reducible repeat (first | apply Kd.R_alloc | apply Kd.R_drewN | apply Kd.R_drew)); exact HO245.out) hg hat); have n1_ := Aside0.mk (hb); have n2_ := Aside0.mk (ho); clear HO245; clear HB; clear HO251; have HO245 := n0_; have HB := n1_; have HO254 := n2_; clear n0_ n1_ n2_; clear ho hb hg hat; obtain ⟨Ao82, co82, eo82⟩ := Kd.R_slice HO254.out; subst eo82) | ((with_reducible refine gate_callee (f := 16) rfl ?_); refine goesL_ (some 88) rfl rfl Try.func16 (by kernel_rfl) rfl #[.slice Ao82 y252.length co82] rfl (by (try simp only [List.map_toArray, List.map_cons, List.map_nil]); first | done | rfl | (simp only [List.length_drop, List.length_take]; rfl)) ?_; (with_reducible refine (pack_TakeFix.calls kj7 _ _ y252 t255 t256 t257 _ ?side1 ?side2 A31.out).mono ?_); (case side1 => repeat (first | exact (Kd.R_reads' HO254.out).2.2 | (with_reducible refine Kd.C_alloc ?_ _) | (with_reducible refine Kd.C_drewN ?_ _) | (with_reducible refine Kd.C_drew ?_))); (case side2 => exact (Kd.R_reads' HO254.out).2.1); rintro e w83 ⟨v258, rfl, ho0, hb⟩; refine ⟨_, rfl, ?_⟩; have n0_ := Aside0.mk (Kd.R_elder' (by (with_reducible repeat (first | apply Kd.R_alloc | apply Kd.R_drewN | apply Kd.R_drew)); exact HO245.out) (Kd.R_base ho0) hb); have n1_ := Aside0.mk (Kd.R_elder' (by (with_reducible repeat (first | apply Kd.R_alloc | apply Kd.R_drewN | apply Kd.R_drew)); exact HO254.out) (Kd.R_base ho0) hb); have n2_ := Aside0.mk (Kd.R_lower (Kd.R_new' (Kd.R_new' ho0 (Kd.R_lt (by (with_reducible repeat (first | apply Kd.R_alloc | apply Kd.R_drewN | apply Kd.R_drew)); exact HO245.out))) (Kd.R_lt (by (with_reducible repeat (first | apply Kd.R_alloc | apply Kd.R_drewN | apply Kd.R_drew)); exact HO254.out))) (below_size (by repeat (first | (with_reducible first | exact HB.out | apply below_alloc | apply pw_below_drewN | apply below_drew1) | exact HB.out)))); have n3_ := Aside0.mk (below_step (by repeat (first | (with_reducible first | exact HB.out | apply below_alloc | apply pw_below_drewN | apply below_drew1) | exact HB.out)) hb); clear HO245; clear HO254; clear HB; have HO245 := n0_; have HO254 := n1_; have HO259 := n2_; have HB := n3_; clear n0_ n1_ n2_ n3_; (try clear hb); (try clear hb2); (try clear hk); (try clear hi); (try clear ho0)) | ((with_reducible refine gate_callee (f := 14) rfl ?_); refine goesL_ (some 95) rfl rfl Try.func14 (by kernel_rfl) rfl #[.slice A2 l2.length c2, .int .i64 (wrap64 (1 + (wrap64 (Int.tmod a1 4))))] rfl (by (try simp only [List.map_toArray, List.map_cons, List.map_nil]); first | done | rfl | (simp only [List.length_drop, List.length_take]; rfl)) ?_; (with_reducible refine (pack_Take.calls kj7 _ _ l2 (wrap64 (1 + (wrap64 (Int.tmod a1 4)))) t260 t261 t262 _ ?side1 ?side2 A32.out).mono ?_); (case side1 => repeat (first | exact (Kd.C_below HR2.out HB.out) | (with_reducible refine Kd.C_alloc ?_ _) | (with_reducible refine Kd.C_drewN ?_ _) | (with_reducible refine Kd.C_drew ?_))); (case side2 => exact HC2.out); rintro e w84 ⟨v263, rfl, ho0, hb⟩; refine ⟨_, rfl, ?_⟩; have n0_ := Aside0.mk (Kd.R_elder' (by (with_reducible repeat (first | apply Kd.R_alloc | apply Kd.R_drewN | apply Kd.R_drew)); exact HO245.out) (Kd.R_base ho0) hb); have n1_ := Aside0.mk (Kd.R_elder' (by (with_reducible repeat (first | apply Kd.R_alloc | apply Kd.R_drewN | apply Kd.R_drew)); exact HO254.out) (Kd.R_base ho0) hb); have n2_ := Aside0.mk (Kd.R_elder' (by (with_reducible repeat (first | apply Kd.R_alloc | apply Kd.R_drewN | apply Kd.R_drew)); exact HO259.out) (Kd.R_base ho0) hb); have n3_ := Aside0.mk (Kd.R_lower (Kd.R_new' (Kd.R_new' (Kd.R_new' ho0 (Kd.R_lt (by (with_reducible repeat (first | apply Kd.R_alloc | apply Kd.R_drewN | apply Kd.R_drew)); exact HO245.out))) (Kd.R_lt (by (with_reducible repeat (first | apply Kd.R_alloc | apply Kd.R_drewN | apply Kd.R_drew)); exact HO254.out))) (Kd.R_lt (by (with_reducible repeat (first | apply Kd.R_alloc | apply Kd.R_drewN | apply Kd.R_drew)); exact HO259.out))) (below_size (by repeat (first | (with_reducible first | exact HB.out | apply below_alloc | apply pw_below_drewN | apply below_drew1) | exact HB.out)))); have n4_ := Aside0.mk (below_step (by repeat (first | (with_reducible first | exact HB.out | apply below_alloc | apply pw_below_drewN | apply below_drew1) | exact HB.out)) hb); clear HO245; clear HO254; clear HO259; clear HB; have HO245 := n0_; have HO254 := n1_; have HO259 := n2_; have HO264 := n3_; have HB := n4_; clear n0_ n1_ n2_ n3_ n4_; (try clear hb); (try clear hb2); (try clear hk); (try clear hi); (try clear ho0)) | ((with_reducible refine gate_callee (f := 10) rfl ?_); refine goesL_ (some 102) rfl rfl Try.func10 (by kernel_rfl) rfl #[.slice none 0 0, .int .i64 t260, .int .i64 (wrap64 (1 + (wrap64 (Int.tmod a1 4))))] rfl (by (try simp only [List.map_toArray, List.map_cons, List.map_nil]); first | done | rfl | (simp only [List.length_drop, List.length_take]; rfl)) ?_; (refine (pack_Put.calls kj7 _ _ ([] : List Int) t260 (wrap64 (1 + (wrap64 (Int.tmod a1 4)))) t265 t266 _ ?side1 ?side2 A33.out).mono ?_); (case side1 => exact Kd.C_nil _ _); (case side2 => exact Nat.le_refl _); rintro e w85 ⟨v267, rfl, ho0, hb⟩; refine ⟨_, rfl, ?_⟩; have n0_ := Aside0.mk (Kd.R_elder' (by (with_reducible repeat (first | apply Kd.R_alloc | apply Kd.R_drewN | apply Kd.R_drew)); exact HO245.out) (Kd.R_base ho0) hb); have n1_ := Aside0.mk (Kd.R_elder' (by (with_reducible repeat (first | apply Kd.R_alloc | apply Kd.R_drewN | apply Kd.R_drew)); exact HO254.out) (Kd.R_base ho0) hb); have n2_ := Aside0.mk (Kd.R_elder' (by (with_reducible repeat (first | apply Kd.R_alloc | apply Kd.R_drewN | apply Kd.R_drew)); exact HO259.out) (Kd.R_base ho0) hb); have n3_ := Aside0.mk (Kd.R_elder' (by (with_reducible repeat (first | apply Kd.R_alloc | apply Kd.R_drewN | apply Kd.R_drew)); exact HO264.out) (Kd.R_base ho0) hb); have n4_ := Aside0.mk (Kd.R_lower (Kd.R_new' (Kd.R_new' (Kd.R_new' (Kd.R_new' ho0 (Kd.R_lt (by (with_reducible repeat (first | apply Kd.R_alloc | apply Kd.R_drewN | apply Kd.R_drew)); exact HO245.out))) (Kd.R_lt (by (with_reducible repeat (first | apply Kd.R_alloc | apply Kd.R_drewN | apply Kd.R_drew)); exact HO254.out))) (Kd.R_lt (by (with_reducible repeat (first | apply Kd.R_alloc | apply Kd.R_drewN | apply Kd.R_drew)); exact HO259.out))) (Kd.R_lt (by (with_reducible repeat (first | apply Kd.R_alloc | apply Kd.R_drewN | apply Kd.R_drew)); exact HO264.out))) (below_size (by repeat (first | (with_reducible first | exact HB.out | apply below_alloc | apply pw_below_drewN | apply below_drew1) | exact HB.out)))); have n5_ := Aside0.mk (below_step (by repeat (first | (with_reducible first | exact HB.out | apply below_alloc | apply pw_below_drewN | apply below_drew1) | exact HB.out)) hb); clear HO245; clear HO254; clear HO259; clear HO264; clear HB; have HO245 := n0_; have HO254 := n1_; have HO259 := n2_; have HO264 := n3_; have HO268 := n4_; have HB := n5_; clear n0_ n1_ n2_ n3_ n4_ n5_; (try clear hb); (try clear hb2); (try clear hk); (try clear hi); (try clear ho0)))
                        have n0_ := Aside0.mk (Kd.R_drew HO245.out)
                        have n1_ := Aside0.mk (Kd.R_drew HO254.out)
                        have n2_ := Aside0.mk (Kd.R_drew HO259.out)
                        have n3_ := Aside0.mk (Kd.R_drew HO264.out)
                        have n4_ := Aside0.mk (Kd.R_drew HO268.out)
                        have n5_ := Aside0.mk (below_drew1 HB.out)
                        clear HO245
                        clear HO254
                        clear HO259
                        clear HO264
                        clear HO268
                        clear HB
                        have HO245 := n0_
                        have HO254 := n1_
                        have HO259 := n2_
                        have HO264 := n3_
                        have HO268 := n4_
                        have HB := n5_
                        clear n0_ n1_ n2_ n3_ n4_ n5_
                        refine start_ (n := 18) (S := fun w' => True) (ds := []) #[false, false, false, false, false, false, false, false, false, false, false, false, false, false, false, false, false, false] (by kernel_rfl) rfl rfl trivial (fun hHeld => ?_); refine with_tabW compositorlaw06_PackBack.tab14 compositorlaw06_PackBack.bits14 (fun HT_ HW_ => ?_)
                        generalize w85.drew = w86 at HO245 HO254 HO259 HO264 HO268 HB hHeld ⊢
                        refine pure_ (i := 0) (N := some 105) (v := ?_) (a' := ?_) #[true, false, false, false, false, false, false, false, false, false, false, false, false, false, false, false, false, false] rfl rfl (any_of HT_.out (by kernel_rfl)) (fun _ _ _ h => h) (Or.inl ⟨by rfl, ?_⟩) ?_ ?_
                        rotate_left
                        · intro w'
                          go_simp
                          with_reducible rfl
                        rotate_left
                        · simp only [Act.put, List.setIfInBounds_toArray, List.set_cons_zero, List.set_cons_succ, i64_w, i32_w]
                          rfl
                        refine pure_ (i := 1) (N := some 106) (v := ?_) (a' := ?_) #[true, true, false, false, false, false, false, false, false, false, false, false, false, false, false, false, false, false] rfl rfl (any_of HT_.out (by kernel_rfl)) (fun _ _ _ h => h) (Or.inl ⟨by rfl, ?_⟩) ?_ ?_
                        rotate_left
                        · intro w'
                          go_simp
                          with_reducible rfl
                        rotate_left
                        · simp only [Act.put, List.setIfInBounds_toArray, List.set_cons_zero, List.set_cons_succ, i64_w, i32_w]
                          rfl
                        refine pure_ (i := 2) (N := some 107) (v := ?_) (a' := ?_) #[true, true, true, false, false, false, false, false, false, false, false, false, false, false, false, false, false, false] rfl rfl (any_of HT_.out (by kernel_rfl)) (fun _ _ _ h => h) (Or.inl ⟨by rfl, ?_⟩) ?_ ?_
                        rotate_left
                        · intro w'
                          go_simp
                          with_reducible rfl
                        rotate_left
                        · simp only [Act.put, List.setIfInBounds_toArray, List.set_cons_zero, List.set_cons_succ, i64_w, i32_w]
                          rfl
                        refine pure_ (i := 3) (N := some 108) (v := undef) (a' := ?_) #[true, true, true, true, false, false, false, false, false, false, false, false, false, false, false, false, false, false] rfl rfl (any_of HT_.out (by kernel_rfl)) (fun _ _ _ h => h) (Or.inr ⟨by rfl, rfl⟩) ?_ ?_
                        rotate_left
                        · simp only [Act.put, List.setIfInBounds_toArray, List.set_cons_zero, List.set_cons_succ, i64_w, i32_w]
                          rfl
                        refine pure_ (i := 4) (N := some 109) (v := undef) (a' := ?_) #[true, true, true, true, true, false, false, false, false, false, false, false, false, false, false, false, false, false] rfl rfl (any_of HT_.out (by kernel_rfl)) (fun _ _ _ h => h) (Or.inr ⟨by rfl, rfl⟩) ?_ ?_
                        rotate_left
                        · simp only [Act.put, List.setIfInBounds_toArray, List.set_cons_zero, List.set_cons_succ, i64_w, i32_w]
                          rfl
                        refine pure_ (i := 5) (N := some 110) (v := undef) (a' := ?_) #[true, true, true, true, true, true, false, false, false, false, false, false, false, false, false, false, false, false] rfl rfl (any_of HT_.out (by kernel_rfl)) (fun _ _ _ h => h) (Or.inr ⟨by rfl, rfl⟩) ?_ ?_
                        rotate_left
                        · simp only [Act.put, List.setIfInBounds_toArray, List.set_cons_zero, List.set_cons_succ, i64_w, i32_w]
                          rfl
                        refine pure_ (i := 6) (N := some 111) (v := undef) (a' := ?_) #[true, true, true, true, true, true, true, false, false, false, false, false, false, false, false, false, false, false] rfl rfl (any_of HT_.out (by kernel_rfl)) (fun _ _ _ h => h) (Or.inr ⟨by rfl, rfl⟩) ?_ ?_
                        rotate_left
                        · simp only [Act.put, List.setIfInBounds_toArray, List.set_cons_zero, List.set_cons_succ, i64_w, i32_w]
                          rfl
                        refine pure_ (i := 7) (N := some 112) (v := undef) (a' := ?_) #[true, true, true, true, true, true, true, true, false, false, false, false, false, false, false, false, false, false] rfl rfl (any_of HT_.out (by kernel_rfl)) (fun _ _ _ h => h) (Or.inr ⟨by rfl, rfl⟩) ?_ ?_
                        rotate_left
                        · simp only [Act.put, List.setIfInBounds_toArray, List.set_cons_zero, List.set_cons_succ, i64_w, i32_w]
                          rfl
                        refine pure_ (i := 8) (N := some 113) (v := undef) (a' := ?_) #[true, true, true, true, true, true, true, true, true, false, false, false, false, false, false, false, false, false] rfl rfl (any_of HT_.out (by kernel_rfl)) (fun _ _ _ h => h) (Or.inr ⟨by rfl, rfl⟩) ?_ ?_
                        rotate_left
                        · simp only [Act.put, List.setIfInBounds_toArray, List.set_cons_zero, List.set_cons_succ, i64_w, i32_w]
                          rfl
                        refine pure_ (i := 9) (N := some 114) (v := undef) (a' := ?_) #[true, true, true, true, true, true, true, true, true, true, false, false, false, false, false, false, false, false] rfl rfl (any_of HT_.out (by kernel_rfl)) (fun _ _ _ h => h) (Or.inr ⟨by rfl, rfl⟩) ?_ ?_
                        rotate_left
                        · simp only [Act.put, List.setIfInBounds_toArray, List.set_cons_zero, List.set_cons_succ, i64_w, i32_w]
                          rfl
                        refine pure_ (i := 10) (N := some 115) (v := undef) (a' := ?_) #[true, true, true, true, true, true, true, true, true, true, true, false, false, false, false, false, false, false] rfl rfl (any_of HT_.out (by kernel_rfl)) (fun _ _ _ h => h) (Or.inr ⟨by rfl, rfl⟩) ?_ ?_
                        rotate_left
                        · simp only [Act.put, List.setIfInBounds_toArray, List.set_cons_zero, List.set_cons_succ, i64_w, i32_w]
                          rfl
                        refine pure_ (i := 11) (N := some 116) (v := undef) (a' := ?_) #[true, true, true, true, true, true, true, true, true, true, true, true, false, false, false, false, false, false] rfl rfl (any_of HT_.out (by kernel_rfl)) (fun _ _ _ h => h) (Or.inr ⟨by rfl, rfl⟩) ?_ ?_
                        rotate_left
                        · simp only [Act.put, List.setIfInBounds_toArray, List.set_cons_zero, List.set_cons_succ, i64_w, i32_w]
                          rfl
                        refine pure_ (i := 12) (N := some 117) (v := undef) (a' := ?_) #[true, true, true, true, true, true, true, true, true, true, true, true, true, false, false, false, false, false] rfl rfl (any_of HT_.out (by kernel_rfl)) (fun _ _ _ h => h) (Or.inr ⟨by rfl, rfl⟩) ?_ ?_
                        rotate_left
                        · simp only [Act.put, List.setIfInBounds_toArray, List.set_cons_zero, List.set_cons_succ, i64_w, i32_w]
                          rfl
                        refine pure_ (i := 13) (N := some 118) (v := undef) (a' := ?_) #[true, true, true, true, true, true, true, true, true, true, true, true, true, true, false, false, false, false] rfl rfl (any_of HT_.out (by kernel_rfl)) (fun _ _ _ h => h) (Or.inr ⟨by rfl, rfl⟩) ?_ ?_
                        rotate_left
                        · simp only [Act.put, List.setIfInBounds_toArray, List.set_cons_zero, List.set_cons_succ, i64_w, i32_w]
                          rfl
                        refine pure_ (i := 14) (N := some 119) (v := undef) (a' := ?_) #[true, true, true, true, true, true, true, true, true, true, true, true, true, true, true, false, false, false] rfl rfl (any_of HT_.out (by kernel_rfl)) (fun _ _ _ h => h) (Or.inr ⟨by rfl, rfl⟩) ?_ ?_
                        rotate_left
                        · simp only [Act.put, List.setIfInBounds_toArray, List.set_cons_zero, List.set_cons_succ, i64_w, i32_w]
                          rfl
                        refine pure_ (i := 15) (N := some 120) (v := undef) (a' := ?_) #[true, true, true, true, true, true, true, true, true, true, true, true, true, true, true, true, false, false] rfl rfl (any_of HT_.out (by kernel_rfl)) (fun _ _ _ h => h) (Or.inr ⟨by rfl, rfl⟩) ?_ ?_
                        rotate_left
                        · simp only [Act.put, List.setIfInBounds_toArray, List.set_cons_zero, List.set_cons_succ, i64_w, i32_w]
                          rfl
                        refine pure_ (i := 16) (N := some 121) (v := ?_) (a' := ?_) #[true, true, true, true, true, true, true, true, true, true, true, true, true, true, true, true, true, false] rfl rfl (any_of HT_.out (by kernel_rfl)) (fun _ _ _ h => h) (Or.inl ⟨by rfl, ?_⟩) ?_ ?_
                        rotate_left
                        · intro w'
                          go_simp
                          with_reducible rfl
                        rotate_left
                        · simp only [Act.put, List.setIfInBounds_toArray, List.set_cons_zero, List.set_cons_succ, i64_w, i32_w]
                          rfl
                        refine pure_ (i := 17) (N := some 24) (v := ?_) (a' := ?_) #[true, true, true, true, true, true, true, true, true, true, true, true, true, true, true, true, true, true] rfl rfl (any_of HT_.out (by kernel_rfl)) (fun _ _ _ h => h) (Or.inl ⟨by rfl, ?_⟩) ?_ ?_
                        rotate_left
                        · intro w'
                          go_simp
                          with_reducible rfl
                        rotate_left
                        · simp only [Act.put, List.setIfInBounds_toArray, List.set_cons_zero, List.set_cons_succ, i64_w, i32_w]
                          rfl
                        refine done_ (done_of HT_.out (by kernel_rfl)) ?_
                        have hcv87 := own_string (P := Try.prog) Try.underlying22 Try.underlying5 Try.underlying9 (Kd.own_of_R HO259.out)
                        have hcvq87 := fun n_ : Nat => own_string (P := Try.prog) Try.underlying22 Try.underlying5 Try.underlying9 (Kd.own_of_R (Kd.R_drewN HO259.out n_))
                        have hcv88 := Kd.C_string (P := Try.prog) (A := A2) (c := c2) Try.underlying22 Try.underlying5 Try.underlying9 (Kd.C_below HR2.out HB.out)
                        have hcvq88 := fun n_ : Nat => Kd.C_string (P := Try.prog) (A := A2) (c := c2) Try.underlying22 Try.underlying5 Try.underlying9 (Kd.C_drewN (Kd.C_below HR2.out HB.out) n_)
                        try go_wp2
                        go_ret
                        exact ⟨by first | rfl | (simp [errW_none, errW_some] <;> rfl) | (simp [*, errW_none, errW_some] <;> rfl), by repeat (first | (with_reducible first | exact HB.out | apply below_alloc | apply pw_below_drewN | apply below_drew1) | exact HB.out)⟩
                      · rw [if_neg c75] at H
                        exact absurd H (by simp)
                    · rw [if_neg c74] at H
                      exact absurd H (by simp)
                  · rw [if_neg c73] at H
                    exact absurd H (by simp)
                · rw [if_neg c72] at H
                  exact absurd H (by simp)
              · replace c71 := Bool.eq_false_iff.mpr c71
                subst c71
                have H1 : (none) = some r := by rw [if_neg (show ¬ (false = true) by decide)] at H; exact H
                clear H
                have H := H1
                clear H1
                exact absurd H (by simp)
          · rw [if_neg c30] at H
            exact absurd H (by simp)
        · rw [if_neg c29] at H
          exact absurd H (by simp)

/-- THE ONE PURE STATEMENT of compositorlaw06_PackBack: yours. -/
def compositorlaw06_PackBack.Pure : Prop := ∀ (a0 : Int) (a1 : Int) (l2 : List Int), (Lit.int .u32 a0).wf = true → (Lit.int .u8 a1).wf = true → l2.length ≤ maxLen → l2.length * 1 ≤ 140737488351232 → (∀ x ∈ l2, (Lit.int .u8 x).wf = true) → ∃ k, compositorlaw06_PackBack.f k a0 a1 l2 = some true
theorem compositorlaw06_PackBack.walk (P : compositorlaw06_PackBack.Pure) (a0 : Int) (a1 : Int) (a2 : Option Addr) (len2 cap2 : Nat) (z2 : List Int) (w : World) (w0 : (Lit.int .u32 a0).wf = true) (w1 : (Lit.int .u8 a1).wf = true) (w2 : (a2 = none ∧ len2 = 0 ∧ cap2 = 0 ∧ z2 = []) ∨ ∃ x, a2 = some x ∧ len2 ≤ cap2 ∧ cap2 ≤ maxLen ∧ z2.length = cap2 ∧ (∀ i, i < z2.length → w.cell? (x.add i) = some (.int .u8 (z2.getD i 0))) ∧ ∀ n ∈ z2, (Lit.int .u8 n).wf = true) (y2 : len2 * 1 ≤ 140737488351232) :
    Calls Try.prog 5 #[.int .u32 a0, .int .u8 a1, .slice a2 len2 cap2] w fun e w' => e = .returned (.bool true) ∧ Below w.heap.size w w' := by
  obtain ⟨l2, rfl, hr2, hm2, hw2, hc2⟩ := ReadsInt.ofRowC w2
  obtain ⟨k, h⟩ := P a0 a1 l2 w0 w1 hm2 y2 hw2
  refine (compositorlaw06_PackBack.calls k a0 a1 _ _ l2 true w (Kd.C_of_reads (d := (0 : Int)) (h1 := fun _ => rfl) hr2) hc2 h).mono ?_
  rintro e w' ⟨rfl, hd⟩
  exact ⟨rfl, hd⟩

end Go.Proofs.Ytlkoaiogdkmglaa.G
