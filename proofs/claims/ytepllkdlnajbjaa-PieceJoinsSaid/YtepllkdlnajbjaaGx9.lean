/- Contracts of the functions of this seat: what each call computes, as a plain Lean function. Made by this session's own generator. -/
import Derived.Test.YtepllkdlnajbjaaGx0
import Derived.Test.YtepllkdlnajbjaaGx5
import Derived.Test.YtepllkdlnajbjaaGx8
namespace Go.Proofs.Ytepllkdlnajbjaa.G
open Go.RowKit Go.Proofs.YtepllkdlnajbjaaMy Go.Proofs.YtepllkdlnajbjaaW.PrintWords Go.Proofs.YtepllkdlnajbjaaW.PrintLast Go.Proofs.YtepllkdlnajbjaaW.PrintMore
attribute [local go_sem] max2_int min2_int max_two min_two max_three min_three max_four min_four   -- for this text's walks alone
set_option linter.unusedVariables false
set_option linter.unusedSimpArgs false

/-! ### piece_Whole: function 13 -/
mutual
def piece_Whole.l0 : Nat → List (S24) → List (List Int) → Bool → List (List (List Int)) → Int → Int → Option ((List (List Int)))
 | 0, _, _, _, _, _, _ => none
 | k + 1, x1, x5, x6, x12, x13, x14 => if x14 < x13 then (if 0 ≤ x14 then (if x14 < (x12.length : Int) then (if x14 ≥ (x1.length : Int) then (some x5) else (piece_Whole.l1 k x1 x5 x6 x14 (rd_L4 x12 x14) x12 x13 x14 (rd_L4 x12 x14) ((rd_L4 x12 x14).length : Int) 0)) else (none)) else (none)) else (some x5)
def piece_Whole.l1 : Nat → List (S24) → List (List Int) → Bool → Int → List (List Int) → List (List (List Int)) → Int → Int → List (List Int) → Int → Int → Option ((List (List Int)))
 | 0, _, _, _, _, _, _, _, _, _, _, _ => none
 | k + 1, x1, x5, x6, x7, x8, x12, x13, x14, x23, x24, x25 => if x25 < x24 then (if 0 ≤ x25 then (if x25 < (x23.length : Int) then (if x25 = (wrap64 ((x8.length : Int) - 1)) then (if ((rd_L1 x23 x25).length : Int) > 0 then (if 0 ≤ x7 then (if x7 < (x1.length : Int) then ((piece_hyphened.f ((rd_T24 x1 x7).f0)).bind fun t180 => (if t180 = true then (if 0 ≤ (wrap64 (((rd_L1 x23 x25).length : Int) - 1)) then (if (wrap64 (((rd_L1 x23 x25).length : Int) - 1)) ≤ ((rd_L1 x23 x25).length : Int) then ((some ((rd_L1 x23 x25).take ((wrap64 (((rd_L1 x23 x25).length : Int) - 1)) : Int).toNat : List Int)).bind fun y181 => (if x25 = 0 then (if x6 = true then (if (wrap64 ((x5.length : Int) - 1)) ≥ 0 then (if 0 ≤ (wrap64 ((x5.length : Int) - 1)) then (if (wrap64 ((x5.length : Int) - 1)) < (x5.length : Int) then ((slices_Concat_int_int_cat.f (rd_L1 x5 (wrap64 ((x5.length : Int) - 1))) y181).bind fun t186 => (piece_Whole.l1 k x1 (x5.set ((wrap64 ((x5.length : Int) - 1)) : Int).toNat t186) x6 x7 x8 x12 x13 x14 x23 x24 (wrap64 (x25 + 1)))) else (none)) else (none)) else ((slices_Clone_int_int.f y181).bind fun t190 => (if x5.length < 5864062014805 then (piece_Whole.l1 k x1 (x5 ++ [t190]) x6 x7 x8 x12 x13 x14 x23 x24 (wrap64 (x25 + 1))) else (none)))) else ((slices_Clone_int_int.f y181).bind fun t196 => (if x5.length < 5864062014805 then (piece_Whole.l1 k x1 (x5 ++ [t196]) x6 x7 x8 x12 x13 x14 x23 x24 (wrap64 (x25 + 1))) else (none)))) else ((slices_Clone_int_int.f y181).bind fun t202 => (if x5.length < 5864062014805 then (piece_Whole.l1 k x1 (x5 ++ [t202]) x6 x7 x8 x12 x13 x14 x23 x24 (wrap64 (x25 + 1))) else (none))))) else (none)) else (none)) else (if x25 = 0 then (if x6 = true then (if (wrap64 ((x5.length : Int) - 1)) ≥ 0 then (if 0 ≤ (wrap64 ((x5.length : Int) - 1)) then (if (wrap64 ((x5.length : Int) - 1)) < (x5.length : Int) then ((slices_Concat_int_int_cat.f (rd_L1 x5 (wrap64 ((x5.length : Int) - 1))) (rd_L1 x23 x25)).bind fun t209 => (piece_Whole.l1 k x1 (x5.set ((wrap64 ((x5.length : Int) - 1)) : Int).toNat t209) x6 x7 x8 x12 x13 x14 x23 x24 (wrap64 (x25 + 1)))) else (none)) else (none)) else ((slices_Clone_int_int.f (rd_L1 x23 x25)).bind fun t213 => (if x5.length < 5864062014805 then (piece_Whole.l1 k x1 (x5 ++ [t213]) x6 x7 x8 x12 x13 x14 x23 x24 (wrap64 (x25 + 1))) else (none)))) else ((slices_Clone_int_int.f (rd_L1 x23 x25)).bind fun t219 => (if x5.length < 5864062014805 then (piece_Whole.l1 k x1 (x5 ++ [t219]) x6 x7 x8 x12 x13 x14 x23 x24 (wrap64 (x25 + 1))) else (none)))) else ((slices_Clone_int_int.f (rd_L1 x23 x25)).bind fun t225 => (if x5.length < 5864062014805 then (piece_Whole.l1 k x1 (x5 ++ [t225]) x6 x7 x8 x12 x13 x14 x23 x24 (wrap64 (x25 + 1))) else (none)))))) else (none)) else (none)) else (if x25 = 0 then (if x6 = true then (if (wrap64 ((x5.length : Int) - 1)) ≥ 0 then (if 0 ≤ (wrap64 ((x5.length : Int) - 1)) then (if (wrap64 ((x5.length : Int) - 1)) < (x5.length : Int) then ((slices_Concat_int_int_cat.f (rd_L1 x5 (wrap64 ((x5.length : Int) - 1))) (rd_L1 x23 x25)).bind fun t232 => (piece_Whole.l1 k x1 (x5.set ((wrap64 ((x5.length : Int) - 1)) : Int).toNat t232) x6 x7 x8 x12 x13 x14 x23 x24 (wrap64 (x25 + 1)))) else (none)) else (none)) else ((slices_Clone_int_int.f (rd_L1 x23 x25)).bind fun t236 => (if x5.length < 5864062014805 then (piece_Whole.l1 k x1 (x5 ++ [t236]) x6 x7 x8 x12 x13 x14 x23 x24 (wrap64 (x25 + 1))) else (none)))) else ((slices_Clone_int_int.f (rd_L1 x23 x25)).bind fun t242 => (if x5.length < 5864062014805 then (piece_Whole.l1 k x1 (x5 ++ [t242]) x6 x7 x8 x12 x13 x14 x23 x24 (wrap64 (x25 + 1))) else (none)))) else ((slices_Clone_int_int.f (rd_L1 x23 x25)).bind fun t248 => (if x5.length < 5864062014805 then (piece_Whole.l1 k x1 (x5 ++ [t248]) x6 x7 x8 x12 x13 x14 x23 x24 (wrap64 (x25 + 1))) else (none))))) else (if x25 = 0 then (if x6 = true then (if (wrap64 ((x5.length : Int) - 1)) ≥ 0 then (if 0 ≤ (wrap64 ((x5.length : Int) - 1)) then (if (wrap64 ((x5.length : Int) - 1)) < (x5.length : Int) then ((slices_Concat_int_int_cat.f (rd_L1 x5 (wrap64 ((x5.length : Int) - 1))) (rd_L1 x23 x25)).bind fun t255 => (piece_Whole.l1 k x1 (x5.set ((wrap64 ((x5.length : Int) - 1)) : Int).toNat t255) x6 x7 x8 x12 x13 x14 x23 x24 (wrap64 (x25 + 1)))) else (none)) else (none)) else ((slices_Clone_int_int.f (rd_L1 x23 x25)).bind fun t259 => (if x5.length < 5864062014805 then (piece_Whole.l1 k x1 (x5 ++ [t259]) x6 x7 x8 x12 x13 x14 x23 x24 (wrap64 (x25 + 1))) else (none)))) else ((slices_Clone_int_int.f (rd_L1 x23 x25)).bind fun t265 => (if x5.length < 5864062014805 then (piece_Whole.l1 k x1 (x5 ++ [t265]) x6 x7 x8 x12 x13 x14 x23 x24 (wrap64 (x25 + 1))) else (none)))) else ((slices_Clone_int_int.f (rd_L1 x23 x25)).bind fun t271 => (if x5.length < 5864062014805 then (piece_Whole.l1 k x1 (x5 ++ [t271]) x6 x7 x8 x12 x13 x14 x23 x24 (wrap64 (x25 + 1))) else (none))))) else (none)) else (none)) else (if 0 ≤ x7 then (if x7 < (x1.length : Int) then ((piece_hyphened.f ((rd_T24 x1 x7).f0)).bind fun t176 => (if t176 = true then (piece_Whole.l0 k x1 x5 true x12 x13 (wrap64 (x14 + 1))) else (piece_Whole.l0 k x1 x5 (((rd_T24 x1 x7).f0) == 4) x12 x13 (wrap64 (x14 + 1))))) else (none)) else (none))
end
def piece_Whole.f (k : Nat) (l0 : List (List (List Int))) (l1 : List (S24)) : Option ((List (List Int))) := piece_Whole.l0 k l1 ([] : List (List Int)) false l0 (l0.length : Int) 0
theorem piece_Whole.mono_l : ∀ k, (∀ y0 y1 y2 y3 y4 y5, LeO (piece_Whole.l0 k y0 y1 y2 y3 y4 y5) (piece_Whole.l0 (k + 1) y0 y1 y2 y3 y4 y5)) ∧ (∀ y0 y1 y2 y3 y4 y5 y6 y7 y8 y9 y10, LeO (piece_Whole.l1 k y0 y1 y2 y3 y4 y5 y6 y7 y8 y9 y10) (piece_Whole.l1 (k + 1) y0 y1 y2 y3 y4 y5 y6 y7 y8 y9 y10))
 | 0 => ⟨fun _ _ _ _ _ _ r h => by simp [piece_Whole.l0] at h, fun _ _ _ _ _ _ _ _ _ _ _ r h => by simp [piece_Whole.l1] at h⟩
 | k + 1 => by
  obtain ⟨ih0, ih1⟩ := piece_Whole.mono_l k
  refine ⟨?_, ?_⟩
  ·intro y0 y1 y2 y3 y4 y5
   unfold piece_Whole.l0
   repeat' first
   | (with_reducible exact ih0 _ _ _ _ _ _)
   | (with_reducible exact ih1 _ _ _ _ _ _ _ _ _ _ _)
   | (with_reducible exact LeO.refl _)
   | (with_reducible exact LeO.none _)
   | (with_reducible refine LeO.ite ?_ ?_)
   | (with_reducible refine LeO.bind ?_ (fun _ => ?_))
   | exact ih0 _ _ _ _ _ _
   | exact ih1 _ _ _ _ _ _ _ _ _ _ _
   | exact LeO.none _
   | refine LeO.ite ?_ ?_
   | refine LeO.bind ?_ (fun _ => ?_)
  ·intro y0 y1 y2 y3 y4 y5 y6 y7 y8 y9 y10
   unfold piece_Whole.l1
   repeat' first
   | (with_reducible exact ih0 _ _ _ _ _ _)
   | (with_reducible exact ih1 _ _ _ _ _ _ _ _ _ _ _)
   | (with_reducible exact LeO.refl _)
   | (with_reducible exact LeO.none _)
   | (with_reducible refine LeO.ite ?_ ?_)
   | (with_reducible refine LeO.bind ?_ (fun _ => ?_))
   | exact ih0 _ _ _ _ _ _
   | exact ih1 _ _ _ _ _ _ _ _ _ _ _
   | exact LeO.none _
   | refine LeO.ite ?_ ?_
   | refine LeO.bind ?_ (fun _ => ?_)
theorem piece_Whole.mono : ∀ a0 a1 k, LeO (piece_Whole.f k a0 a1) (piece_Whole.f (k + 1) a0 a1) := by
 intro a0 a1 k
 obtain ⟨ih0, ih1⟩ := piece_Whole.mono_l k
 unfold piece_Whole.f
 repeat' first
   | (with_reducible exact ih0 _ _ _ _ _ _)
   | (with_reducible exact ih1 _ _ _ _ _ _ _ _ _ _ _)
   | (with_reducible exact LeO.refl _)
   | (with_reducible exact LeO.none _)
   | (with_reducible refine LeO.ite ?_ ?_)
   | (with_reducible refine LeO.bind ?_ (fun _ => ?_))
   | exact ih0 _ _ _ _ _ _
   | exact ih1 _ _ _ _ _ _ _ _ _ _ _
   | exact LeO.none _
   | refine LeO.ite ?_ ?_
   | refine LeO.bind ?_ (fun _ => ?_)
set_option maxHeartbeats 8000000 in
set_option maxRecDepth 100000 in
theorem piece_Whole.calls (k : Nat) (A0 : Option Addr) (c0 : Nat) (l0 : List (List (List Int))) (A1 : Option Addr) (c1 : Nat) (l1 : List (S24)) (r : List (List Int)) (w : World) (hr0 : Kd.C (Kd.slice 36 (Kd.slice 3 (Kd.int .i64))) w A0 l0.length l0) (hc0 : l0.length ≤ c0) (hr1 : Kd.C k24 w A1 l1.length l1) (hc1 : l1.length ≤ c1) (h : piece_Whole.f k l0 l1 = some r) :
  Calls Try.prog 13 #[.slice A0 l0.length c0, .slice A1 l1.length c1] w fun e w' => ∃ v0_ : Value, e = .returned (v0_) ∧ Kd.S (Kd.slice 3 (Kd.int .i64)) 36 w' w.heap.size (fun _ => True) v0_ r ∧ Below w.heap.size w w' := by
 have HR0 := Aside0.mk hr0
 have HC0 := Aside0.mk hc0
 clear hr0 hc0
 have HR1 := Aside0.mk hr1
 have HC1 := Aside0.mk hc1
 clear hr1 hc1
 have HB := Aside0.mk (Below.refl w.heap.size w)
 have H : (piece_Whole.l0 k l1 ([] : List (List Int)) false l0 (l0.length : Int) 0) = some r := h
 clear h
 have H' := Aside0.mk H
 clear H
 go_enter Try.func13, Try.ntmps13
 go_wp2
 go_step3
 go_wp2
 go_step3
 go_wp2
 go_loopg [5, 6, 14] k (fun kq v5 v6 v14 w' => ∃ (x5_1 : List (List Int)) (x6_1 : Bool) (x14_1 : Int), v6 = .bool x6_1 ∧ v14 = .int .i64 x14_1 ∧ Aside0 (piece_Whole.l0 kq l1 x5_1 x6_1 l0 (l0.length : Int) x14_1 = some r) ∧ Aside0 (kq ≤ k) ∧ Aside0 (Kd.S (Kd.slice 3 (Kd.int .i64)) 36 w' w.heap.size (fun _ => True) v5 x5_1) ∧ Aside0 (Below w.heap.size w w'))
 case atStart => exact ⟨(([] : List (List Int))), (false), (0), (by first | rfl | (simp; done) | (simp [*]; done)), (by first | rfl | (simp; done) | (simp [*]; done)), H', ⟨Nat.le_refl _⟩, ⟨by first | exact Kd.S_nil _ _ _ _ _ | exact Kd.N_nil _ _ _ _ _ | exact Kd.V_nil _ _ _ _ _ | exact Kd.Q_nil _ _ _ _ _ | exact Kd.R_nil _ _ _ _ _⟩, ⟨by repeat (first | (with_reducible first | exact HB.out | apply below_alloc | apply pw_below_drewN | apply below_drew1) | exact HB.out)⟩⟩
 case round =>
  clear H'
  try clear c1
  try clear p2
  obtain ⟨x5_1, x6_1, x14_1, rfl, rfl, HA, HK1, HO_5, HB⟩ := hrel
  cases gk with
  | zero => exact absurd HA.out (by simp [piece_Whole.l0])
  | succ k1 =>
   have H := HA.out
   clear HA
   simp only [piece_Whole.l0] at H
   by_cases c3 : x14_1 < (l0.length : Int)
   ·rw [if_pos c3] at H
    have c3b0 : decide (x14_1 < (l0.length : Int)) = true := decide_eq_true c3
    clear c3
    by_cases c4 : 0 ≤ x14_1
    ·rw [if_pos c4] at H
     have c4b0 : decide (0 ≤ x14_1) = true := decide_eq_true c4
     clear c4
     by_cases c5 : x14_1 < (l0.length : Int)
     ·rw [if_pos c5] at H
      have c5b0 : decide (x14_1 < (l0.length : Int)) = true := decide_eq_true c5
      clear c5
      by_cases c6 : x14_1 ≥ (l1.length : Int)
      ·rw [if_pos c6] at H
       have c6b0 : decide ((l1.length : Int) ≤ x14_1) = true := decide_eq_true c6
       clear c6
       obtain rfl := Option.some.inj H
       have p174 : 0 ≤ (x14_1 : Int) := odt
       have q174 : x14_1 < (l0.length : Int) := odt
       obtain ⟨ad174, A174_0, c174_0, e174, hx174_0, hl174_0, hi174_0⟩ := at_L4 HR0.out x14_1 p174 q174
       cases e174
       replace hx174_0 := (HB.out.cell (World.block_lt_of_cell? w _ hx174_0)).trans hx174_0
       have HR174_0 := Aside0.mk hi174_0
       have HC174_0 := Aside0.mk hl174_0
       clear hi174_0 hl174_0
       replace p174 := eq_true p174
       replace q174 := eq_true q174
       go_wp2
       (try rw [Exit.noGoto_ret]); go_ret
       exact ⟨_, by first | rfl | (simp [errW_none, errW_some] <;> rfl) | (simp [*, errW_none, errW_some] <;> rfl), by (with_reducible repeat (first | apply Kd.S_alloc | apply Kd.S_drewN | apply Kd.S_drew)); exact HO_5.out, by repeat (first | (with_reducible first | exact HB.out | apply below_alloc | apply pw_below_drewN | apply below_drew1) | exact HB.out)⟩
      ·rw [if_neg c6] at H
       have c6b0 : decide ((l1.length : Int) ≤ x14_1) = false := decide_eq_false c6
       clear c6
       have H' := Aside0.mk H
       clear H
       have p174 : 0 ≤ (x14_1 : Int) := odt
       have q174 : x14_1 < (l0.length : Int) := odt
       obtain ⟨ad174, A174_0, c174_0, e174, hx174_0, hl174_0, hi174_0⟩ := at_L4 HR0.out x14_1 p174 q174
       cases e174
       replace hx174_0 := (HB.out.cell (World.block_lt_of_cell? w _ hx174_0)).trans hx174_0
       have HR174_0 := Aside0.mk hi174_0
       have HC174_0 := Aside0.mk hl174_0
       clear hi174_0 hl174_0
       replace p174 := eq_true p174
       replace q174 := eq_true q174
       go_wp2
       go_loopg [5, 25] k1 (fun kq v5 v25 w' => ∃ (x5_2 : List (List Int)) (x25_2 : Int), v25 = .int .i64 x25_2 ∧ Aside0 (piece_Whole.l1 kq l1 x5_2 x6_1 x14_1 (rd_L4 l0 x14_1) l0 (l0.length : Int) x14_1 (rd_L4 l0 x14_1) ((rd_L4 l0 x14_1).length : Int) x25_2 = some r) ∧ Aside0 (kq ≤ k1) ∧ Aside0 (Kd.S (Kd.slice 3 (Kd.int .i64)) 36 w' w.heap.size (fun _ => True) v5 x5_2) ∧ Aside0 (Below w.heap.size w w'))
       case atStart => exact ⟨(x5_1), (0), (by first | rfl | (simp; done) | (simp [*]; done)), H', ⟨Nat.le_refl _⟩, ⟨by (with_reducible repeat (first | apply Kd.S_alloc | apply Kd.S_drewN | apply Kd.S_drew)); exact HO_5.out⟩, ⟨by repeat (first | (with_reducible first | exact HB.out | apply below_alloc | apply pw_below_drewN | apply below_drew1) | exact HB.out)⟩⟩
       case round =>
        clear H'
        try clear c1
        try clear p1
        try clear q1
        try clear hx1
        try clear p2
        try clear c3
        try clear c3b0
        try clear c4
        try clear c4b0
        try clear c5
        try clear c5b0
        try clear c6
        try clear c6b0
        try clear hx174_0
        try clear p174
        try clear p2
        try clear q174
        obtain ⟨x5_2, x25_2, rfl, HA, HK2, HO_5, HB⟩ := hrel
        cases gk with
        | zero => exact absurd HA.out (by simp [piece_Whole.l1])
        | succ k2 =>
         have H := HA.out
         clear HA
         simp only [piece_Whole.l1] at H
         by_cases c7 : x25_2 < ((rd_L4 l0 x14_1).length : Int)
         ·rw [if_pos c7] at H
          have c7b0 : decide (x25_2 < ((rd_L4 l0 x14_1).length : Int)) = true := decide_eq_true c7
          clear c7
          by_cases c8 : 0 ≤ x25_2
          ·rw [if_pos c8] at H
           have c8b0 : decide (0 ≤ x25_2) = true := decide_eq_true c8
           clear c8
           by_cases c9 : x25_2 < ((rd_L4 l0 x14_1).length : Int)
           ·rw [if_pos c9] at H
            have c9b0 : decide (x25_2 < ((rd_L4 l0 x14_1).length : Int)) = true := decide_eq_true c9
            clear c9
            by_cases c10 : x25_2 = (wrap64 (((rd_L4 l0 x14_1).length : Int) - 1))
            ·rw [if_pos c10] at H
             have c10b0 : (x25_2 == (wrap64 (((rd_L4 l0 x14_1).length : Int) - 1))) = true := beq_iff_eq.mpr c10
             have c10b1 : (x25_2 != (wrap64 (((rd_L4 l0 x14_1).length : Int) - 1))) = false := bne_eq_false_iff_eq.mpr c10
             (try (have c10b2 : (x25_2 == (IntKind.i64.wrap (((rd_L4 l0 x14_1).length : Int) - 1))) = true := by simp only [i64_w]; exact (beq_iff_eq.mpr c10)))
             (try (have c10b3 : (x25_2 != (IntKind.i64.wrap (((rd_L4 l0 x14_1).length : Int) - 1))) = false := by simp only [i64_w]; exact (bne_eq_false_iff_eq.mpr c10)))
             clear c10
             by_cases c11 : ((rd_L1 (rd_L4 l0 x14_1) x25_2).length : Int) > 0
             ·rw [if_pos c11] at H
              have c11b0 : decide (0 < ((rd_L1 (rd_L4 l0 x14_1) x25_2).length : Int)) = true := decide_eq_true c11
              have c11b1 : decide (0 < (rd_L1 (rd_L4 l0 x14_1) x25_2).length) = true := decide_eq_true (by omega)
              clear c11
              by_cases c12 : 0 ≤ x14_1
              ·rw [if_pos c12] at H
               have c12b0 : decide (0 ≤ x14_1) = true := decide_eq_true c12
               clear c12
               by_cases c13 : x14_1 < (l1.length : Int)
               ·rw [if_pos c13] at H
                have c13b0 : decide (x14_1 < (l1.length : Int)) = true := decide_eq_true c13
                clear c13
                replace H := Option.bind_eq_some_iff.mp H
                obtain ⟨t180, A140, H⟩ := H
                replace H : (if t180 = true then (if 0 ≤ (wrap64 (((rd_L1 (rd_L4 l0 x14_1) x25_2).length : Int) - 1)) then (if (wrap64 (((rd_L1 (rd_L4 l0 x14_1) x25_2).length : Int) - 1)) ≤ ((rd_L1 (rd_L4 l0 x14_1) x25_2).length : Int) then ((some ((rd_L1 (rd_L4 l0 x14_1) x25_2).take ((wrap64 (((rd_L1 (rd_L4 l0 x14_1) x25_2).length : Int) - 1)) : Int).toNat : List Int)).bind fun y181 => (if x25_2 = 0 then (if x6_1 = true then (if (wrap64 ((x5_2.length : Int) - 1)) ≥ 0 then (if 0 ≤ (wrap64 ((x5_2.length : Int) - 1)) then (if (wrap64 ((x5_2.length : Int) - 1)) < (x5_2.length : Int) then ((slices_Concat_int_int_cat.f (rd_L1 x5_2 (wrap64 ((x5_2.length : Int) - 1))) y181).bind fun t186 => (piece_Whole.l1 k2 l1 (x5_2.set ((wrap64 ((x5_2.length : Int) - 1)) : Int).toNat t186) x6_1 x14_1 (rd_L4 l0 x14_1) l0 (l0.length : Int) x14_1 (rd_L4 l0 x14_1) ((rd_L4 l0 x14_1).length : Int) (wrap64 (x25_2 + 1)))) else (none)) else (none)) else ((slices_Clone_int_int.f y181).bind fun t190 => (if x5_2.length < 5864062014805 then (piece_Whole.l1 k2 l1 (x5_2 ++ [t190]) x6_1 x14_1 (rd_L4 l0 x14_1) l0 (l0.length : Int) x14_1 (rd_L4 l0 x14_1) ((rd_L4 l0 x14_1).length : Int) (wrap64 (x25_2 + 1))) else (none)))) else ((slices_Clone_int_int.f y181).bind fun t196 => (if x5_2.length < 5864062014805 then (piece_Whole.l1 k2 l1 (x5_2 ++ [t196]) x6_1 x14_1 (rd_L4 l0 x14_1) l0 (l0.length : Int) x14_1 (rd_L4 l0 x14_1) ((rd_L4 l0 x14_1).length : Int) (wrap64 (x25_2 + 1))) else (none)))) else ((slices_Clone_int_int.f y181).bind fun t202 => (if x5_2.length < 5864062014805 then (piece_Whole.l1 k2 l1 (x5_2 ++ [t202]) x6_1 x14_1 (rd_L4 l0 x14_1) l0 (l0.length : Int) x14_1 (rd_L4 l0 x14_1) ((rd_L4 l0 x14_1).length : Int) (wrap64 (x25_2 + 1))) else (none))))) else (none)) else (none)) else (if x25_2 = 0 then (if x6_1 = true then (if (wrap64 ((x5_2.length : Int) - 1)) ≥ 0 then (if 0 ≤ (wrap64 ((x5_2.length : Int) - 1)) then (if (wrap64 ((x5_2.length : Int) - 1)) < (x5_2.length : Int) then ((slices_Concat_int_int_cat.f (rd_L1 x5_2 (wrap64 ((x5_2.length : Int) - 1))) (rd_L1 (rd_L4 l0 x14_1) x25_2)).bind fun t209 => (piece_Whole.l1 k2 l1 (x5_2.set ((wrap64 ((x5_2.length : Int) - 1)) : Int).toNat t209) x6_1 x14_1 (rd_L4 l0 x14_1) l0 (l0.length : Int) x14_1 (rd_L4 l0 x14_1) ((rd_L4 l0 x14_1).length : Int) (wrap64 (x25_2 + 1)))) else (none)) else (none)) else ((slices_Clone_int_int.f (rd_L1 (rd_L4 l0 x14_1) x25_2)).bind fun t213 => (if x5_2.length < 5864062014805 then (piece_Whole.l1 k2 l1 (x5_2 ++ [t213]) x6_1 x14_1 (rd_L4 l0 x14_1) l0 (l0.length : Int) x14_1 (rd_L4 l0 x14_1) ((rd_L4 l0 x14_1).length : Int) (wrap64 (x25_2 + 1))) else (none)))) else ((slices_Clone_int_int.f (rd_L1 (rd_L4 l0 x14_1) x25_2)).bind fun t219 => (if x5_2.length < 5864062014805 then (piece_Whole.l1 k2 l1 (x5_2 ++ [t219]) x6_1 x14_1 (rd_L4 l0 x14_1) l0 (l0.length : Int) x14_1 (rd_L4 l0 x14_1) ((rd_L4 l0 x14_1).length : Int) (wrap64 (x25_2 + 1))) else (none)))) else ((slices_Clone_int_int.f (rd_L1 (rd_L4 l0 x14_1) x25_2)).bind fun t225 => (if x5_2.length < 5864062014805 then (piece_Whole.l1 k2 l1 (x5_2 ++ [t225]) x6_1 x14_1 (rd_L4 l0 x14_1) l0 (l0.length : Int) x14_1 (rd_L4 l0 x14_1) ((rd_L4 l0 x14_1).length : Int) (wrap64 (x25_2 + 1))) else (none))))) = some r := H
                have A14 := Aside0.mk A140
                clear A140
                by_cases c15 : t180 = true
                ·subst c15
                 have H1 : (if 0 ≤ (wrap64 (((rd_L1 (rd_L4 l0 x14_1) x25_2).length : Int) - 1)) then (if (wrap64 (((rd_L1 (rd_L4 l0 x14_1) x25_2).length : Int) - 1)) ≤ ((rd_L1 (rd_L4 l0 x14_1) x25_2).length : Int) then ((some ((rd_L1 (rd_L4 l0 x14_1) x25_2).take ((wrap64 (((rd_L1 (rd_L4 l0 x14_1) x25_2).length : Int) - 1)) : Int).toNat : List Int)).bind fun y181 => (if x25_2 = 0 then (if x6_1 = true then (if (wrap64 ((x5_2.length : Int) - 1)) ≥ 0 then (if 0 ≤ (wrap64 ((x5_2.length : Int) - 1)) then (if (wrap64 ((x5_2.length : Int) - 1)) < (x5_2.length : Int) then ((slices_Concat_int_int_cat.f (rd_L1 x5_2 (wrap64 ((x5_2.length : Int) - 1))) y181).bind fun t186 => (piece_Whole.l1 k2 l1 (x5_2.set ((wrap64 ((x5_2.length : Int) - 1)) : Int).toNat t186) x6_1 x14_1 (rd_L4 l0 x14_1) l0 (l0.length : Int) x14_1 (rd_L4 l0 x14_1) ((rd_L4 l0 x14_1).length : Int) (wrap64 (x25_2 + 1)))) else (none)) else (none)) else ((slices_Clone_int_int.f y181).bind fun t190 => (if x5_2.length < 5864062014805 then (piece_Whole.l1 k2 l1 (x5_2 ++ [t190]) x6_1 x14_1 (rd_L4 l0 x14_1) l0 (l0.length : Int) x14_1 (rd_L4 l0 x14_1) ((rd_L4 l0 x14_1).length : Int) (wrap64 (x25_2 + 1))) else (none)))) else ((slices_Clone_int_int.f y181).bind fun t196 => (if x5_2.length < 5864062014805 then (piece_Whole.l1 k2 l1 (x5_2 ++ [t196]) x6_1 x14_1 (rd_L4 l0 x14_1) l0 (l0.length : Int) x14_1 (rd_L4 l0 x14_1) ((rd_L4 l0 x14_1).length : Int) (wrap64 (x25_2 + 1))) else (none)))) else ((slices_Clone_int_int.f y181).bind fun t202 => (if x5_2.length < 5864062014805 then (piece_Whole.l1 k2 l1 (x5_2 ++ [t202]) x6_1 x14_1 (rd_L4 l0 x14_1) l0 (l0.length : Int) x14_1 (rd_L4 l0 x14_1) ((rd_L4 l0 x14_1).length : Int) (wrap64 (x25_2 + 1))) else (none))))) else (none)) else (none)) = some r := by rw [if_pos rfl] at H; exact H
                 clear H
                 have H := H1
                 clear H1
                 obtain ⟨ji16, hji16⟩ : ∃ j_ : Int, (wrap64 (((rd_L1 (rd_L4 l0 x14_1) x25_2).length : Int) - 1)) = j_ := ⟨_, rfl⟩
                 replace H : (if 0 ≤ (ji16) then (if (ji16) ≤ ((rd_L1 (rd_L4 l0 x14_1) x25_2).length : Int) then ((some ((rd_L1 (rd_L4 l0 x14_1) x25_2).take ((ji16) : Int).toNat : List Int)).bind fun y181 => (if x25_2 = 0 then (if x6_1 = true then (if (wrap64 ((x5_2.length : Int) - 1)) ≥ 0 then (if 0 ≤ (wrap64 ((x5_2.length : Int) - 1)) then (if (wrap64 ((x5_2.length : Int) - 1)) < (x5_2.length : Int) then ((slices_Concat_int_int_cat.f (rd_L1 x5_2 (wrap64 ((x5_2.length : Int) - 1))) y181).bind fun t186 => (piece_Whole.l1 k2 l1 (x5_2.set ((wrap64 ((x5_2.length : Int) - 1)) : Int).toNat t186) x6_1 x14_1 (rd_L4 l0 x14_1) l0 (l0.length : Int) x14_1 (rd_L4 l0 x14_1) ((rd_L4 l0 x14_1).length : Int) (wrap64 (x25_2 + 1)))) else (none)) else (none)) else ((slices_Clone_int_int.f y181).bind fun t190 => (if x5_2.length < 5864062014805 then (piece_Whole.l1 k2 l1 (x5_2 ++ [t190]) x6_1 x14_1 (rd_L4 l0 x14_1) l0 (l0.length : Int) x14_1 (rd_L4 l0 x14_1) ((rd_L4 l0 x14_1).length : Int) (wrap64 (x25_2 + 1))) else (none)))) else ((slices_Clone_int_int.f y181).bind fun t196 => (if x5_2.length < 5864062014805 then (piece_Whole.l1 k2 l1 (x5_2 ++ [t196]) x6_1 x14_1 (rd_L4 l0 x14_1) l0 (l0.length : Int) x14_1 (rd_L4 l0 x14_1) ((rd_L4 l0 x14_1).length : Int) (wrap64 (x25_2 + 1))) else (none)))) else ((slices_Clone_int_int.f y181).bind fun t202 => (if x5_2.length < 5864062014805 then (piece_Whole.l1 k2 l1 (x5_2 ++ [t202]) x6_1 x14_1 (rd_L4 l0 x14_1) l0 (l0.length : Int) x14_1 (rd_L4 l0 x14_1) ((rd_L4 l0 x14_1).length : Int) (wrap64 (x25_2 + 1))) else (none))))) else (none)) else (none)) = some r := by first | (rw [hji16] at H; exact H) | (simp only [hji16] at H ⊢; exact H)
                 (try rw [hji16] at A14)
                 have hji16w : (IntKind.i64.wrap (((rd_L1 (rd_L4 l0 x14_1) x25_2).length : Int) - 1)) = ji16 := (i64_w _).trans hji16
                 by_cases c17 : 0 ≤ (ji16)
                 ·rw [if_pos c17] at H
                  have c17b0 := eq_true c17
                  have c17b1 : decide (0 ≤ (ji16)) = true := decide_eq_true c17
                  clear c17
                  by_cases c18 : (ji16) ≤ ((rd_L1 (rd_L4 l0 x14_1) x25_2).length : Int)
                  ·rw [if_pos c18] at H
                   have c18b0 := eq_true c18
                   have c18b1 : decide ((ji16) ≤ ((rd_L1 (rd_L4 l0 x14_1) x25_2).length : Int)) = true := decide_eq_true c18
                   clear c18
                   obtain ⟨y181, hy181⟩ : ∃ y_ : List Int, y_ = ((rd_L1 (rd_L4 l0 x14_1) x25_2).take ((ji16) : Int).toNat) := ⟨_, rfl⟩
                   replace H : (if x25_2 = 0 then (if x6_1 = true then (if (wrap64 ((x5_2.length : Int) - 1)) ≥ 0 then (if 0 ≤ (wrap64 ((x5_2.length : Int) - 1)) then (if (wrap64 ((x5_2.length : Int) - 1)) < (x5_2.length : Int) then ((slices_Concat_int_int_cat.f (rd_L1 x5_2 (wrap64 ((x5_2.length : Int) - 1))) y181).bind fun t186 => (piece_Whole.l1 k2 l1 (x5_2.set ((wrap64 ((x5_2.length : Int) - 1)) : Int).toNat t186) x6_1 x14_1 (rd_L4 l0 x14_1) l0 (l0.length : Int) x14_1 (rd_L4 l0 x14_1) ((rd_L4 l0 x14_1).length : Int) (wrap64 (x25_2 + 1)))) else (none)) else (none)) else ((slices_Clone_int_int.f y181).bind fun t190 => (if x5_2.length < 5864062014805 then (piece_Whole.l1 k2 l1 (x5_2 ++ [t190]) x6_1 x14_1 (rd_L4 l0 x14_1) l0 (l0.length : Int) x14_1 (rd_L4 l0 x14_1) ((rd_L4 l0 x14_1).length : Int) (wrap64 (x25_2 + 1))) else (none)))) else ((slices_Clone_int_int.f y181).bind fun t196 => (if x5_2.length < 5864062014805 then (piece_Whole.l1 k2 l1 (x5_2 ++ [t196]) x6_1 x14_1 (rd_L4 l0 x14_1) l0 (l0.length : Int) x14_1 (rd_L4 l0 x14_1) ((rd_L4 l0 x14_1).length : Int) (wrap64 (x25_2 + 1))) else (none)))) else ((slices_Clone_int_int.f y181).bind fun t202 => (if x5_2.length < 5864062014805 then (piece_Whole.l1 k2 l1 (x5_2 ++ [t202]) x6_1 x14_1 (rd_L4 l0 x14_1) l0 (l0.length : Int) x14_1 (rd_L4 l0 x14_1) ((rd_L4 l0 x14_1).length : Int) (wrap64 (x25_2 + 1))) else (none)))) = some r := by first | (rw [hy181]; with_reducible exact H) | (have H2_ := (Option.bind_some _ _).symm.trans H; rw [hy181]; with_reducible exact H2_) | (have H2_ := (Option.bind_some _ _).symm.trans H; with_reducible exact H2_) | with_reducible exact H | (rw [hy181]; exact H) | exact H
                   have Ny181 := Aside0.mk hy181
                   clear hy181
                   by_cases c19 : x25_2 = 0
                   ·rw [if_pos c19] at H
                    have c19b0 : (x25_2 == 0) = true := beq_iff_eq.mpr c19
                    have c19b1 : (x25_2 != 0) = false := bne_eq_false_iff_eq.mpr c19
                    clear c19
                    by_cases c20 : x6_1 = true
                    ·subst c20
                     have H1 : (if (wrap64 ((x5_2.length : Int) - 1)) ≥ 0 then (if 0 ≤ (wrap64 ((x5_2.length : Int) - 1)) then (if (wrap64 ((x5_2.length : Int) - 1)) < (x5_2.length : Int) then ((slices_Concat_int_int_cat.f (rd_L1 x5_2 (wrap64 ((x5_2.length : Int) - 1))) y181).bind fun t186 => (piece_Whole.l1 k2 l1 (x5_2.set ((wrap64 ((x5_2.length : Int) - 1)) : Int).toNat t186) true x14_1 (rd_L4 l0 x14_1) l0 (l0.length : Int) x14_1 (rd_L4 l0 x14_1) ((rd_L4 l0 x14_1).length : Int) (wrap64 (x25_2 + 1)))) else (none)) else (none)) else ((slices_Clone_int_int.f y181).bind fun t190 => (if x5_2.length < 5864062014805 then (piece_Whole.l1 k2 l1 (x5_2 ++ [t190]) true x14_1 (rd_L4 l0 x14_1) l0 (l0.length : Int) x14_1 (rd_L4 l0 x14_1) ((rd_L4 l0 x14_1).length : Int) (wrap64 (x25_2 + 1))) else (none)))) = some r := by rw [if_pos rfl] at H; exact H
                     clear H
                     have H := H1
                     clear H1
                     by_cases c21 : (wrap64 ((x5_2.length : Int) - 1)) ≥ 0
                     ·rw [if_pos c21] at H
                      have c21b0 : decide (0 ≤ (wrap64 ((x5_2.length : Int) - 1))) = true := decide_eq_true c21
                      (try (have c21b1 : decide (0 ≤ (IntKind.i64.wrap ((x5_2.length : Int) - 1))) = true := by simp only [i64_w]; exact (decide_eq_true c21)))
                      clear c21
                      obtain ⟨ji22, hji22⟩ : ∃ j_ : Int, (wrap64 ((x5_2.length : Int) - 1)) = j_ := ⟨_, rfl⟩
                      replace H : (if 0 ≤ (ji22) then (if (ji22) < (x5_2.length : Int) then ((slices_Concat_int_int_cat.f (rd_L1 x5_2 (ji22)) y181).bind fun t186 => (piece_Whole.l1 k2 l1 (x5_2.set ((ji22) : Int).toNat t186) true x14_1 (rd_L4 l0 x14_1) l0 (l0.length : Int) x14_1 (rd_L4 l0 x14_1) ((rd_L4 l0 x14_1).length : Int) (wrap64 (x25_2 + 1)))) else (none)) else (none)) = some r := by first | (rw [hji22] at H; exact H) | (simp only [hji22] at H ⊢; exact H)
                      (try rw [hji22] at c21b0)
                      (try rw [hji22] at A14)
                      have hji22w : (IntKind.i64.wrap ((x5_2.length : Int) - 1)) = ji22 := (i64_w _).trans hji22
                      by_cases c23 : 0 ≤ (ji22)
                      ·rw [if_pos c23] at H
                       have c23b0 : decide (0 ≤ (ji22)) = true := decide_eq_true c23
                       clear c23
                       by_cases c24 : (ji22) < (x5_2.length : Int)
                       ·rw [if_pos c24] at H
                        have c24b0 : decide ((ji22) < (x5_2.length : Int)) = true := decide_eq_true c24
                        clear c24
                        replace H := Option.bind_eq_some_iff.mp H
                        obtain ⟨t186, A250, H⟩ := H
                        replace H : (piece_Whole.l1 k2 l1 (x5_2.set ((ji22) : Int).toNat t186) true x14_1 (rd_L4 l0 x14_1) l0 (l0.length : Int) x14_1 (rd_L4 l0 x14_1) ((rd_L4 l0 x14_1).length : Int) (wrap64 (x25_2 + 1))) = some r := H
                        have A25 := Aside0.mk A250
                        clear A250
                        obtain ⟨y189, hy189⟩ : ∃ y_ : List (List Int), y_ = (x5_2.set ((ji22) : Int).toNat t186) := ⟨_, rfl⟩
                        replace H : (piece_Whole.l1 k2 l1 y189 true x14_1 (rd_L4 l0 x14_1) l0 (l0.length : Int) x14_1 (rd_L4 l0 x14_1) ((rd_L4 l0 x14_1).length : Int) (wrap64 (x25_2 + 1))) = some r := by first | (rw [hy189]; with_reducible exact H) | (have H2_ := (Option.bind_some _ _).symm.trans H; rw [hy189]; with_reducible exact H2_) | (have H2_ := (Option.bind_some _ _).symm.trans H; with_reducible exact H2_) | with_reducible exact H | (rw [hy189]; exact H) | exact H
                        have Ny189 := Aside0.mk hy189
                        clear hy189
                        have H' := Aside0.mk H
                        clear H
                        have p178 : 0 ≤ (x25_2 : Int) := odt
                        have q178 : x25_2 < ((rd_L4 l0 x14_1).length : Int) := odt
                        obtain ⟨ad178, A178_0, c178_0, e178, hx178_0, hl178_0, hi178_0⟩ := at_L1 HR174_0.out x25_2 p178 q178
                        cases e178
                        replace hx178_0 := (HB.out.cell (World.block_lt_of_cell? w _ hx178_0)).trans hx178_0
                        have HR178_0 := Aside0.mk hi178_0
                        have HC178_0 := Aside0.mk hl178_0
                        clear hi178_0 hl178_0
                        replace p178 := eq_true p178
                        replace q178 := eq_true q178
                        have p179 : 0 ≤ (x14_1 : Int) := odt
                        have q179 : x14_1 < (l1.length : Int) := odt
                        obtain ⟨ad179, e179, hx179_0, hx179_1, hx179_2⟩ := at_T24 HR1.out x14_1 p179 q179
                        cases e179
                        replace hx179_0 := (HB.out.cell (World.block_lt_of_cell? w _ hx179_0)).trans hx179_0
                        replace hx179_1 := (HB.out.cell (World.block_lt_of_cell? w _ hx179_1)).trans hx179_1
                        replace hx179_2 := (HB.out.cell (World.block_lt_of_cell? w _ hx179_2)).trans hx179_2
                        replace p179 := eq_true p179
                        replace q179 := eq_true q179
                        have tk_ : True := trivial
                        go_wp2_with (first | (go_at_call 19; clear tk_; (with_reducible refine (piece_hyphened.calls ((rd_T24 l1 x14_1).f0) true _ A14.out).mono ?_); rintro e w' ⟨rfl, ⟨nd, rfl⟩⟩; (try (rw [drewN_self wr]; generalize hq_ : World.drewN wr _ = wr; have n0_ : Aside0 (Kd.S (Kd.slice 3 (Kd.int .i64)) 36 wr w.heap.size (fun _ => True) u5 x5_2) := ⟨by rw [← hq_]; exact (by (with_reducible repeat (first | apply Kd.S_alloc | apply Kd.S_drewN | apply Kd.S_drew)); exact HO_5.out)⟩; have n1_ : Aside0 (Below w.heap.size w wr) := ⟨by rw [← hq_]; exact (by repeat (first | (with_reducible first | exact HB.out | apply below_alloc | apply pw_below_drewN | apply below_drew1) | exact HB.out))⟩; clear HO_5 HB hq_; have HO_5 := n0_; have HB := n1_; clear n0_ n1_)); have q27 : ((ji16) : Int) ≤ (((rd_L1 (rd_L4 l0 x14_1) x25_2).length : Int) : Int) := odt; obtain ⟨i027, hi027, _, hsz27, _⟩ := info_parts info3; have hroom27 : (rd_L1 (rd_L4 l0 x14_1) x25_2).length ≤ c178_0 := HC178_0.out; have hC27 : Kd.C (Kd.int .i64) _ A178_0 (rd_L1 (rd_L4 l0 x14_1) x25_2).length (rd_L1 (rd_L4 l0 x14_1) x25_2) := HR178_0.out; have hcut27 := cut_to (P := Try.prog) 36 3 .i64 Try.underlying36 hi027 A178_0 (rd_L1 (rd_L4 l0 x14_1) x25_2).length c178_0 (ji16) (odt) q27 hroom27; have hr27 := Kd.C_take (m := ((ji16) : Int).toNat) hC27 (by omega); have hy27 : y181.length = ((ji16) : Int).toNat := (by rw [Ny181.out, List.length_take]; omega); rw [← Ny181.out] at hr27; rw [← hy27] at hcut27; have HR184 := Aside0.mk hr27; have HC184 := Aside0.mk (show y181.length ≤ c178_0 from by omega); clear hr27 hC27 hroom27 hi027 hsz27; have KY27 := Aside0.mk hy27; clear hy27; replace q27 := eq_true q27; obtain ⟨Ao28, co28, eo28⟩ := Kd.S_slice HO_5.out; subst eo28; have p185 : 0 ≤ ((ji22) : Int) := odt; have q185 : (ji22) < (x5_2.length : Int) := odt; obtain ⟨ad185, A185_0, c185_0, e185, hx185_0, hl185_0, hi185_0⟩ := at_L1 (Kd.S_reads' HO_5.out).2.2 (ji22) p185 q185; cases e185; obtain ⟨ce185, hce185, hMe185, hcc185⟩ := Kd.S_get HO_5.out [] (ji22) p185 (by first | exact q185 | exact odt | (have e_ := (Kd.S_reads' HO_5.out).1; omega)); obtain ⟨ve185_0, rfl, ge185_0⟩ := hMe185; have hv185_0 := hcc185 0 _ rfl; rw [Nat.add_zero, show ((Kd.slice 3 (Kd.int .i64))).sz = 1 from rfl, Nat.mul_one] at hv185_0; replace hv185_0 := Option.some.inj (hv185_0.symm.trans hx185_0); rw [hv185_0] at ge185_0; have HL185_0 := Aside0.mk (show Kd.R (Kd.int .i64) 3 _ _ _ _ (rd_L1 x5_2 (ji22)) from ge185_0); clear hv185_0 ge185_0; clear hcc185 hce185; have HR185_0 := Aside0.mk hi185_0; have HC185_0 := Aside0.mk hl185_0; clear hi185_0 hl185_0; replace p185 := eq_true p185; replace q185 := eq_true q185))
                        as_aux_lemma =>
                        have tk_ : True := trivial
                        go_wp2_with (first | (go_at_call 24; clear tk_; (with_reducible refine (slices_Concat_int_int_cat.calls _ _ (rd_L1 x5_2 (ji22)) _ _ y181 t186 _ ?side1 ?side2 ?side3 ?side4 A25.out).mono ?_); (case side1 => repeat (first | exact (by repeat (first | (with_reducible exact HR185_0.out) | (with_reducible refine Kd.C_alloc ?_ _) | (with_reducible refine Kd.C_drewN ?_ _) | (with_reducible refine Kd.C_drew ?_) | exact HR185_0.out)) | (with_reducible refine Kd.C_alloc ?_ _) | (with_reducible refine Kd.C_drewN ?_ _) | (with_reducible refine Kd.C_drew ?_))); (case side2 => exact HC185_0.out); (case side3 => repeat (first | exact (Kd.C_below HR184.out HB.out) | (with_reducible refine Kd.C_alloc ?_ _) | (with_reducible refine Kd.C_drewN ?_ _) | (with_reducible refine Kd.C_drew ?_))); (case side4 => exact HC184.out); rintro e w29 ⟨v187, rfl, ho0, hb⟩; have n0_ := Aside0.mk (Kd.S_elder' (by (with_reducible repeat (first | apply Kd.S_alloc | apply Kd.S_drewN | apply Kd.S_drew)); exact HO_5.out) (Kd.R_base ho0) hb); have n1_ := Aside0.mk (Kd.R_elder' (by (with_reducible repeat (first | apply Kd.R_alloc | apply Kd.R_drewN | apply Kd.R_drew)); exact HL185_0.out) (Kd.R_base ho0) hb); have n2_ := Aside0.mk (Kd.R_lower (Kd.R_new' ho0 (Kd.R_lt (by (with_reducible repeat (first | apply Kd.R_alloc | apply Kd.R_drewN | apply Kd.R_drew)); exact HL185_0.out))) (below_size (by repeat (first | (with_reducible first | exact HB.out | apply below_alloc | apply pw_below_drewN | apply below_drew1) | exact HB.out)))); have n3_ := Aside0.mk (Kd.C_below (by repeat (first | (with_reducible exact HR185_0.out) | (with_reducible refine Kd.C_alloc ?_ _) | (with_reducible refine Kd.C_drewN ?_ _) | (with_reducible refine Kd.C_drew ?_) | exact HR185_0.out)) hb); have n4_ := Aside0.mk (below_step (by repeat (first | (with_reducible first | exact HB.out | apply below_alloc | apply pw_below_drewN | apply below_drew1) | exact HB.out)) hb); clear HO_5; clear HL185_0; clear HR185_0; clear HB; have HO_5 := n0_; have HL185_0 := n1_; have HO188 := n2_; have HR185_0 := n3_; have HB := n4_; clear n0_ n1_ n2_ n3_ n4_; (try clear hb); (try clear hb2); (try clear hk); (try clear hi); (try clear ho0); have p26 : 0 ≤ ((ji22) : Int) := odt; have q26 : ((ji22) : Int) < ((x5_2.length : Int) : Int) := odt; obtain ⟨go26, co26, eo26, gb26, gl26, cl26, HG26⟩ := Kd.S_form HO_5.out (by omega); (first | cases eo26 | (injection eo26 with ea_ en_ ec_; (first | subst ea_ | (injection ea_ with ea_; subst ea_)); subst ec_; clear en_)); have GB26 := Aside0.mk gb26; have GG26 := Aside0.mk HG26; clear gb26 gl26 HG26; (first | simp only [add_plain] at hx185_0 | skip); obtain ⟨_, ce26, hcl26, hM26, hcc26, hfr26, _, _⟩ := Kd.S_elem HO_5.out [] ((ji22) : Int) p26 q26; obtain ⟨ve26_0, rfl, ge26_0⟩ := hM26; have hx26_0 := hcc26 0 _ rfl; have hf26_0 := hfr26 0; (try simp only [show ((Kd.slice 3 (Kd.int .i64))).sz = 1 from rfl, Nat.mul_one, Nat.add_zero] at hx26_0); (try simp only [show ((Kd.slice 3 (Kd.int .i64))).sz = 1 from rfl, Nat.mul_one, Nat.add_zero] at hf26_0); clear hcl26 hcc26 hfr26; (try clear hM26); replace p26 := eq_true p26; replace q26 := eq_true q26; have n_ := Aside0.mk (Kd.S_mono (ok' := (fun k_ => some k_ ≠ (v187 : Value).ownBlock)) HO_5.out (fun k_ hk => hk.2)); clear HO_5; have HO_5 := n_; clear n_; have HX30 := Aside0.mk (show Kd.S (Kd.slice 3 (Kd.int .i64)) 36 w29 w.heap.size (fun k_ => ((fun _ => True)) k_ ∧ ¬ ((fun k_ => some k_ = (v187 : Value).ownBlock)) k_) (.slice (some ⟨go26, 0, none⟩) x5_2.length co28) x5_2 from (by (with_reducible repeat (first | apply Kd.S_alloc | apply Kd.S_drewN | apply Kd.S_drew)); exact Kd.S_mono HO_5.out (fun k_ hk => ⟨trivial, fun e_ => hk e_⟩))); obtain ⟨oki30, ce30, hcl30, hM30, hcc30, hfr30, hoki30, hH30⟩ := Kd.S_elem HX30.out [] ((ji22) : Int) (odt) (by have h_ : ((ji22) : Int) < ((x5_2.length : Int) : Int) := odt; first | exact h_ | (have e_ := (Kd.S_reads' HO_5.out).1; omega) | simpa using h_); obtain ⟨ve30_0, rfl, ge30_0⟩ := hM30; have HP30 := Kd.S_seg hH30 (odt) (by have h_ : ((ji22) : Int) < ((x5_2.length : Int) : Int) := odt; first | exact h_ | (have e_ := (Kd.S_reads' HO_5.out).1; omega) | simpa using h_) (seg := [v187]) (j := 0) (show 1 ≤ 1 from by decide) (x' := t186) (Kd.M_row (Kd.R_mono (Kd.R_tight rfl (Kd.R_mono (ok' := fun k_ => ((fun _ => True)) k_ ∧ k_ ≠ go26) (Kd.R_apart' (HO188.out) (Kd.S_typed HO_5.out) (by decide)) (fun k_ hk => ⟨trivial, fun e_ => (hk.2) (by rw [e_]; rfl)⟩))) (fun _ h_ => Or.inr (h_)))) (fun _ hk => hk) (fun k_ hk_ => ((Kd.R_mono (ok' := fun k_ => ((fun _ => True)) k_ ∧ k_ ≠ go26) (Kd.R_apart' (HO188.out) (Kd.S_typed HO_5.out) (by decide)) (fun k_ hk => ⟨trivial, fun e_ => (hk.2) (by rw [e_]; rfl)⟩))).1 k_ hk_.symm); have hx30_0 := hcc30 0 _ rfl; (try simp only [show ((Kd.slice 3 (Kd.int .i64))).sz = 1 from rfl, Nat.mul_one, Nat.add_zero] at hx30_0); have hf30_0 := hfr30 0; (try simp only [show ((Kd.slice 3 (Kd.int .i64))).sz = 1 from rfl, Nat.mul_one, Nat.add_zero] at hf30_0); clear hcl30 hcc30 hfr30 hoki30 hH30; (try clear hM30); (try simp only [show ((Kd.slice 3 (Kd.int .i64))).sz = 1 from rfl, Nat.mul_one, Nat.add_zero] at HP30)) | ((with_reducible refine gate_store (t := 36) (p := 74) rfl ?_); refine store_event (t := 36) (p := 74) (v := ?vo_w31) (w1 := (w29.setCell ⟨go26, ((ji22) : Int).toNat, none⟩ (v187))) ?hg ?ho ?hn ?hr ?_; (case ho => rfl); (case hg => rfl); (case hn => rfl); (case hr => first | (go_simp; done) | (go_simp; rfl) | (obtain ⟨Az_, cz_, ez_⟩ := Kd.R_slice HO188.out; subst ez_; first | (go_simp; done) | (go_simp; rfl))); intro w31 hw; have hg : w29.grownBy w31 (some go26) := (by rw [hw]; exact HP30.2); have hp_ : Kd.S (Kd.slice 3 (Kd.int .i64)) 36 w31 w.heap.size (fun _ => True) (.slice (some ⟨go26, 0, none⟩) x5_2.length co28) y189 := (by rw [hw, Ny189.out]; exact HP30.1); clear HP30; have n0_ := Aside0.mk (hp_); have n1_ := Aside0.mk (Kd.R_after (v := (.slice (some ⟨go26, 0, none⟩) x5_2.length co28)) (v1 := (.slice (some ⟨go26, 0, none⟩) x5_2.length co28)) (ok := (fun k_ => some k_ ≠ (v187 : Value).ownBlock)) (by (with_reducible repeat (first | apply Kd.R_alloc | apply Kd.R_drewN | apply Kd.R_drew)); exact Kd.R_mono HL185_0.out (fun _ hk => ⟨hk.2, hk.1.2⟩)) hg (.inl rfl)); have n2_ := Aside0.mk ((by rw [hw]; exact below_set (HB.out) GB26.out : Below w.heap.size w w31)); clear HO_5; clear HL185_0; clear HB; clear HO188; have HO_5 := n0_; have HL185_0 := n1_; have HB := n2_; clear n0_ n1_ n2_; clear hg hw hp_))
                        go_roundg k2
                        case measure => have := HK1.out; have := HK2.out; omega
                        case rel => exact ⟨(y189), (wrap64 (x25_2 + 1)), (by first | rfl | (simp; done) | (simp [*]; done)), H', ⟨by have := HK1.out; have := HK2.out; omega⟩, ⟨by (with_reducible repeat (first | apply Kd.S_alloc | apply Kd.S_drewN | apply Kd.S_drew)); exact HO_5.out⟩, ⟨by repeat (first | (with_reducible first | exact HB.out | apply below_alloc | apply pw_below_drewN | apply below_drew1) | exact HB.out)⟩⟩
                       ·rw [if_neg c24] at H
                        exact absurd H (by simp)
                      ·rw [if_neg c23] at H
                       exact absurd H (by simp)
                     ·rw [if_neg c21] at H
                      have c21b0 : decide (0 ≤ (wrap64 ((x5_2.length : Int) - 1))) = false := decide_eq_false c21
                      (try (have c21b1 : decide (0 ≤ (IntKind.i64.wrap ((x5_2.length : Int) - 1))) = false := by simp only [i64_w]; exact (decide_eq_false c21)))
                      clear c21
                      replace H := Option.bind_eq_some_iff.mp H
                      obtain ⟨t190, A320, H⟩ := H
                      replace H : (if x5_2.length < 5864062014805 then (piece_Whole.l1 k2 l1 (x5_2 ++ [t190]) true x14_1 (rd_L4 l0 x14_1) l0 (l0.length : Int) x14_1 (rd_L4 l0 x14_1) ((rd_L4 l0 x14_1).length : Int) (wrap64 (x25_2 + 1))) else (none)) = some r := H
                      have A32 := Aside0.mk A320
                      clear A320
                      by_cases c33 : x5_2.length < 5864062014805
                      ·rw [if_pos c33] at H
                       have LMc33 := Aside0.mk c33
                       clear c33
                       obtain ⟨y193, hy193⟩ : ∃ y_ : List (List Int), y_ = (x5_2 ++ [t190]) := ⟨_, rfl⟩
                       replace H : (piece_Whole.l1 k2 l1 y193 true x14_1 (rd_L4 l0 x14_1) l0 (l0.length : Int) x14_1 (rd_L4 l0 x14_1) ((rd_L4 l0 x14_1).length : Int) (wrap64 (x25_2 + 1))) = some r := by first | (rw [hy193]; with_reducible exact H) | (have H2_ := (Option.bind_some _ _).symm.trans H; rw [hy193]; with_reducible exact H2_) | (have H2_ := (Option.bind_some _ _).symm.trans H; with_reducible exact H2_) | with_reducible exact H | (rw [hy193]; exact H) | exact H
                       have Ny193 := Aside0.mk hy193
                       clear hy193
                       have H' := Aside0.mk H
                       clear H
                       have p178 : 0 ≤ (x25_2 : Int) := odt
                       have q178 : x25_2 < ((rd_L4 l0 x14_1).length : Int) := odt
                       obtain ⟨ad178, A178_0, c178_0, e178, hx178_0, hl178_0, hi178_0⟩ := at_L1 HR174_0.out x25_2 p178 q178
                       cases e178
                       replace hx178_0 := (HB.out.cell (World.block_lt_of_cell? w _ hx178_0)).trans hx178_0
                       have HR178_0 := Aside0.mk hi178_0
                       have HC178_0 := Aside0.mk hl178_0
                       clear hi178_0 hl178_0
                       replace p178 := eq_true p178
                       replace q178 := eq_true q178
                       have p179 : 0 ≤ (x14_1 : Int) := odt
                       have q179 : x14_1 < (l1.length : Int) := odt
                       obtain ⟨ad179, e179, hx179_0, hx179_1, hx179_2⟩ := at_T24 HR1.out x14_1 p179 q179
                       cases e179
                       replace hx179_0 := (HB.out.cell (World.block_lt_of_cell? w _ hx179_0)).trans hx179_0
                       replace hx179_1 := (HB.out.cell (World.block_lt_of_cell? w _ hx179_1)).trans hx179_1
                       replace hx179_2 := (HB.out.cell (World.block_lt_of_cell? w _ hx179_2)).trans hx179_2
                       replace p179 := eq_true p179
                       replace q179 := eq_true q179
                       have tk_ : True := trivial
                       go_wp2_with (first | (go_at_call 19; clear tk_; (with_reducible refine (piece_hyphened.calls ((rd_T24 l1 x14_1).f0) true _ A14.out).mono ?_); rintro e w' ⟨rfl, ⟨nd, rfl⟩⟩; have q34 : ((ji16) : Int) ≤ (((rd_L1 (rd_L4 l0 x14_1) x25_2).length : Int) : Int) := odt; obtain ⟨i034, hi034, _, hsz34, _⟩ := info_parts info3; have hroom34 : (rd_L1 (rd_L4 l0 x14_1) x25_2).length ≤ c178_0 := HC178_0.out; have hC34 : Kd.C (Kd.int .i64) _ A178_0 (rd_L1 (rd_L4 l0 x14_1) x25_2).length (rd_L1 (rd_L4 l0 x14_1) x25_2) := HR178_0.out; have hcut34 := cut_to (P := Try.prog) 36 3 .i64 Try.underlying36 hi034 A178_0 (rd_L1 (rd_L4 l0 x14_1) x25_2).length c178_0 (ji16) (odt) q34 hroom34; have hr34 := Kd.C_take (m := ((ji16) : Int).toNat) hC34 (by omega); have hy34 : y181.length = ((ji16) : Int).toNat := (by rw [Ny181.out, List.length_take]; omega); rw [← Ny181.out] at hr34; rw [← hy34] at hcut34; have HR184 := Aside0.mk hr34; have HC184 := Aside0.mk (show y181.length ≤ c178_0 from by omega); clear hr34 hC34 hroom34 hi034 hsz34; have KY34 := Aside0.mk hy34; clear hy34; replace q34 := eq_true q34; obtain ⟨Ao35, co35, eo35⟩ := Kd.S_slice HO_5.out; subst eo35))
                       as_aux_lemma =>
                       have tk_ : True := trivial
                       go_wp2_with (first | (go_at_call 18; clear tk_; (with_reducible refine (slices_Clone_int_int.calls _ _ y181 t190 _ ?side1 ?side2 A32.out).mono ?_); (case side1 => repeat (first | exact (Kd.C_below HR184.out (by repeat (first | (with_reducible first | exact HB.out | apply below_alloc | apply pw_below_drewN | apply below_drew1) | exact HB.out))) | (with_reducible refine Kd.C_alloc ?_ _) | (with_reducible refine Kd.C_drewN ?_ _) | (with_reducible refine Kd.C_drew ?_))); (case side2 => exact HC184.out); rintro e w36 ⟨v191, rfl, ho0, hb⟩; have n0_ := Aside0.mk (Kd.S_elder' (by (with_reducible repeat (first | apply Kd.S_alloc | apply Kd.S_drewN | apply Kd.S_drew)); exact HO_5.out) (Kd.R_base ho0) hb); have n1_ := Aside0.mk (Kd.R_lower ho0 (below_size (by repeat (first | (with_reducible first | exact HB.out | apply below_alloc | apply pw_below_drewN | apply below_drew1) | exact HB.out)))); have n2_ := Aside0.mk (below_step (by repeat (first | (with_reducible first | exact HB.out | apply below_alloc | apply pw_below_drewN | apply below_drew1) | exact HB.out)) hb); clear HO_5; clear HB; have HO_5 := n0_; have HO192 := n1_; have HB := n2_; clear n0_ n1_ n2_; (try clear hb); (try clear hb2); (try clear hk); (try clear hi); (try clear ho0); obtain ⟨Ao38, co38, eo38⟩ := Kd.R_slice HO192.out; subst eo38) | ((with_reducible refine gate_builtin (b := .append) (xs := #[.tmp 75, .tmp 78]) rfl ?_); (try (refine gate_guard (by rfl) ?_; dsimp only)); at_builtin; refine Kd.S_append (Kd.slice 3 (Kd.int .i64)) (w0 := w) w.heap.size rfl (.tmp 75) (.tmp 78) 27 36 (.slice none 0 0) 24 rfl Try.underlying27 info36 rfl (by decide) (by omega) (.slice Ao35 x5_2.length co35) x5_2 t190 [.slice Ao38 t190.length co38] (fun _ => True) (fun k_ => some k_ = (.slice Ao38 t190.length co38 : Value).ownBlock) rfl rfl ?aP (fun k_ hk_ => ((Kd.R_mono (ok' := fun k_ => ((fun _ => True)) k_ ∧ some k_ ≠ (.slice Ao35 x5_2.length co35 : Value).ownBlock) (Kd.R_apart' (HO192.out) (Kd.S_typed HO_5.out) (by decide)) (fun k_ hk => ⟨trivial, hk.2⟩))).1 k_ hk_.symm) ?aF ?aO ?aB ?aS ?aL ?_; (case aP => exact Kd.M_row (Kd.R_mono (Kd.R_tight rfl (Kd.R_mono (ok' := fun k_ => ((fun _ => True)) k_ ∧ some k_ ≠ (.slice Ao35 x5_2.length co35 : Value).ownBlock) (Kd.R_apart' (HO192.out) (Kd.S_typed HO_5.out) (by decide)) (fun k_ hk => ⟨trivial, hk.2⟩))) (fun _ h_ => h_))); (case aB => exact (by repeat (first | (with_reducible first | exact HB.out | apply below_alloc | apply pw_below_drewN | apply below_drew1) | exact HB.out))); (case aF => exact (fun _ _ => trivial)); (case aO => exact (by (with_reducible repeat (first | apply Kd.S_alloc | apply Kd.S_drewN | apply Kd.S_drew)); exact Kd.S_mono HO_5.out (fun k_ hk => ⟨trivial, fun e_ => hk.2 e_⟩))); (case aS => exact (below_size (by repeat (first | (with_reducible first | exact HB.out | apply below_alloc | apply pw_below_drewN | apply below_drew1) | exact HB.out)))); (case aL => have := LMc33.out; omega); intro v194 w37 ho hb hg hat; rw [← Ny193.out] at ho; have n0_ := Aside0.mk (hb); have n1_ := Aside0.mk (ho); clear HB; clear HO_5; clear HO192; have HB := n0_; have HO195 := n1_; clear n0_ n1_; clear ho hb hg hat))
                       go_roundg k2
                       case measure => have := HK1.out; have := HK2.out; omega
                       case rel => exact ⟨(y193), (wrap64 (x25_2 + 1)), (by first | rfl | (simp; done) | (simp [*]; done)), H', ⟨by have := HK1.out; have := HK2.out; omega⟩, ⟨by (with_reducible repeat (first | apply Kd.S_alloc | apply Kd.S_drewN | apply Kd.S_drew)); exact HO195.out⟩, ⟨by repeat (first | (with_reducible first | exact HB.out | apply below_alloc | apply pw_below_drewN | apply below_drew1) | exact HB.out)⟩⟩
                      ·rw [if_neg c33] at H
                       exact absurd H (by simp)
                    ·replace c20 := Bool.eq_false_iff.mpr c20
                     subst c20
                     have H1 : ((slices_Clone_int_int.f y181).bind fun t196 => (if x5_2.length < 5864062014805 then (piece_Whole.l1 k2 l1 (x5_2 ++ [t196]) false x14_1 (rd_L4 l0 x14_1) l0 (l0.length : Int) x14_1 (rd_L4 l0 x14_1) ((rd_L4 l0 x14_1).length : Int) (wrap64 (x25_2 + 1))) else (none))) = some r := by rw [if_neg (show ¬ (false = true) by decide)] at H; exact H
                     clear H
                     have H := H1
                     clear H1
                     replace H := Option.bind_eq_some_iff.mp H
                     obtain ⟨t196, A390, H⟩ := H
                     replace H : (if x5_2.length < 5864062014805 then (piece_Whole.l1 k2 l1 (x5_2 ++ [t196]) false x14_1 (rd_L4 l0 x14_1) l0 (l0.length : Int) x14_1 (rd_L4 l0 x14_1) ((rd_L4 l0 x14_1).length : Int) (wrap64 (x25_2 + 1))) else (none)) = some r := H
                     have A39 := Aside0.mk A390
                     clear A390
                     by_cases c40 : x5_2.length < 5864062014805
                     ·rw [if_pos c40] at H
                      have LMc40 := Aside0.mk c40
                      clear c40
                      obtain ⟨y199, hy199⟩ : ∃ y_ : List (List Int), y_ = (x5_2 ++ [t196]) := ⟨_, rfl⟩
                      replace H : (piece_Whole.l1 k2 l1 y199 false x14_1 (rd_L4 l0 x14_1) l0 (l0.length : Int) x14_1 (rd_L4 l0 x14_1) ((rd_L4 l0 x14_1).length : Int) (wrap64 (x25_2 + 1))) = some r := by first | (rw [hy199]; with_reducible exact H) | (have H2_ := (Option.bind_some _ _).symm.trans H; rw [hy199]; with_reducible exact H2_) | (have H2_ := (Option.bind_some _ _).symm.trans H; with_reducible exact H2_) | with_reducible exact H | (rw [hy199]; exact H) | exact H
                      have Ny199 := Aside0.mk hy199
                      clear hy199
                      have H' := Aside0.mk H
                      clear H
                      have p178 : 0 ≤ (x25_2 : Int) := odt
                      have q178 : x25_2 < ((rd_L4 l0 x14_1).length : Int) := odt
                      obtain ⟨ad178, A178_0, c178_0, e178, hx178_0, hl178_0, hi178_0⟩ := at_L1 HR174_0.out x25_2 p178 q178
                      cases e178
                      replace hx178_0 := (HB.out.cell (World.block_lt_of_cell? w _ hx178_0)).trans hx178_0
                      have HR178_0 := Aside0.mk hi178_0
                      have HC178_0 := Aside0.mk hl178_0
                      clear hi178_0 hl178_0
                      replace p178 := eq_true p178
                      replace q178 := eq_true q178
                      have p179 : 0 ≤ (x14_1 : Int) := odt
                      have q179 : x14_1 < (l1.length : Int) := odt
                      obtain ⟨ad179, e179, hx179_0, hx179_1, hx179_2⟩ := at_T24 HR1.out x14_1 p179 q179
                      cases e179
                      replace hx179_0 := (HB.out.cell (World.block_lt_of_cell? w _ hx179_0)).trans hx179_0
                      replace hx179_1 := (HB.out.cell (World.block_lt_of_cell? w _ hx179_1)).trans hx179_1
                      replace hx179_2 := (HB.out.cell (World.block_lt_of_cell? w _ hx179_2)).trans hx179_2
                      replace p179 := eq_true p179
                      replace q179 := eq_true q179
                      have tk_ : True := trivial
                      go_wp2_with (first | (go_at_call 19; clear tk_; (with_reducible refine (piece_hyphened.calls ((rd_T24 l1 x14_1).f0) true _ A14.out).mono ?_); rintro e w' ⟨rfl, ⟨nd, rfl⟩⟩; have q41 : ((ji16) : Int) ≤ (((rd_L1 (rd_L4 l0 x14_1) x25_2).length : Int) : Int) := odt; obtain ⟨i041, hi041, _, hsz41, _⟩ := info_parts info3; have hroom41 : (rd_L1 (rd_L4 l0 x14_1) x25_2).length ≤ c178_0 := HC178_0.out; have hC41 : Kd.C (Kd.int .i64) _ A178_0 (rd_L1 (rd_L4 l0 x14_1) x25_2).length (rd_L1 (rd_L4 l0 x14_1) x25_2) := HR178_0.out; have hcut41 := cut_to (P := Try.prog) 36 3 .i64 Try.underlying36 hi041 A178_0 (rd_L1 (rd_L4 l0 x14_1) x25_2).length c178_0 (ji16) (odt) q41 hroom41; have hr41 := Kd.C_take (m := ((ji16) : Int).toNat) hC41 (by omega); have hy41 : y181.length = ((ji16) : Int).toNat := (by rw [Ny181.out, List.length_take]; omega); rw [← Ny181.out] at hr41; rw [← hy41] at hcut41; have HR184 := Aside0.mk hr41; have HC184 := Aside0.mk (show y181.length ≤ c178_0 from by omega); clear hr41 hC41 hroom41 hi041 hsz41; have KY41 := Aside0.mk hy41; clear hy41; replace q41 := eq_true q41; obtain ⟨Ao42, co42, eo42⟩ := Kd.S_slice HO_5.out; subst eo42))
                      as_aux_lemma =>
                      have tk_ : True := trivial
                      go_wp2_with (first | (go_at_call 18; clear tk_; (with_reducible refine (slices_Clone_int_int.calls _ _ y181 t196 _ ?side1 ?side2 A39.out).mono ?_); (case side1 => repeat (first | exact (Kd.C_below HR184.out (by repeat (first | (with_reducible first | exact HB.out | apply below_alloc | apply pw_below_drewN | apply below_drew1) | exact HB.out))) | (with_reducible refine Kd.C_alloc ?_ _) | (with_reducible refine Kd.C_drewN ?_ _) | (with_reducible refine Kd.C_drew ?_))); (case side2 => exact HC184.out); rintro e w43 ⟨v197, rfl, ho0, hb⟩; have n0_ := Aside0.mk (Kd.S_elder' (by (with_reducible repeat (first | apply Kd.S_alloc | apply Kd.S_drewN | apply Kd.S_drew)); exact HO_5.out) (Kd.R_base ho0) hb); have n1_ := Aside0.mk (Kd.R_lower ho0 (below_size (by repeat (first | (with_reducible first | exact HB.out | apply below_alloc | apply pw_below_drewN | apply below_drew1) | exact HB.out)))); have n2_ := Aside0.mk (below_step (by repeat (first | (with_reducible first | exact HB.out | apply below_alloc | apply pw_below_drewN | apply below_drew1) | exact HB.out)) hb); clear HO_5; clear HB; have HO_5 := n0_; have HO198 := n1_; have HB := n2_; clear n0_ n1_ n2_; (try clear hb); (try clear hb2); (try clear hk); (try clear hi); (try clear ho0); obtain ⟨Ao45, co45, eo45⟩ := Kd.R_slice HO198.out; subst eo45) | ((with_reducible refine gate_builtin (b := .append) (xs := #[.tmp 75, .tmp 78]) rfl ?_); (try (refine gate_guard (by rfl) ?_; dsimp only)); at_builtin; refine Kd.S_append (Kd.slice 3 (Kd.int .i64)) (w0 := w) w.heap.size rfl (.tmp 75) (.tmp 78) 27 36 (.slice none 0 0) 24 rfl Try.underlying27 info36 rfl (by decide) (by omega) (.slice Ao42 x5_2.length co42) x5_2 t196 [.slice Ao45 t196.length co45] (fun _ => True) (fun k_ => some k_ = (.slice Ao45 t196.length co45 : Value).ownBlock) rfl rfl ?aP (fun k_ hk_ => ((Kd.R_mono (ok' := fun k_ => ((fun _ => True)) k_ ∧ some k_ ≠ (.slice Ao42 x5_2.length co42 : Value).ownBlock) (Kd.R_apart' (HO198.out) (Kd.S_typed HO_5.out) (by decide)) (fun k_ hk => ⟨trivial, hk.2⟩))).1 k_ hk_.symm) ?aF ?aO ?aB ?aS ?aL ?_; (case aP => exact Kd.M_row (Kd.R_mono (Kd.R_tight rfl (Kd.R_mono (ok' := fun k_ => ((fun _ => True)) k_ ∧ some k_ ≠ (.slice Ao42 x5_2.length co42 : Value).ownBlock) (Kd.R_apart' (HO198.out) (Kd.S_typed HO_5.out) (by decide)) (fun k_ hk => ⟨trivial, hk.2⟩))) (fun _ h_ => h_))); (case aB => exact (by repeat (first | (with_reducible first | exact HB.out | apply below_alloc | apply pw_below_drewN | apply below_drew1) | exact HB.out))); (case aF => exact (fun _ _ => trivial)); (case aO => exact (by (with_reducible repeat (first | apply Kd.S_alloc | apply Kd.S_drewN | apply Kd.S_drew)); exact Kd.S_mono HO_5.out (fun k_ hk => ⟨trivial, fun e_ => hk.2 e_⟩))); (case aS => exact (below_size (by repeat (first | (with_reducible first | exact HB.out | apply below_alloc | apply pw_below_drewN | apply below_drew1) | exact HB.out)))); (case aL => have := LMc40.out; omega); intro v200 w44 ho hb hg hat; rw [← Ny199.out] at ho; have n0_ := Aside0.mk (hb); have n1_ := Aside0.mk (ho); clear HB; clear HO_5; clear HO198; have HB := n0_; have HO201 := n1_; clear n0_ n1_; clear ho hb hg hat))
                      go_roundg k2
                      case measure => have := HK1.out; have := HK2.out; omega
                      case rel => exact ⟨(y199), (wrap64 (x25_2 + 1)), (by first | rfl | (simp; done) | (simp [*]; done)), H', ⟨by have := HK1.out; have := HK2.out; omega⟩, ⟨by (with_reducible repeat (first | apply Kd.S_alloc | apply Kd.S_drewN | apply Kd.S_drew)); exact HO201.out⟩, ⟨by repeat (first | (with_reducible first | exact HB.out | apply below_alloc | apply pw_below_drewN | apply below_drew1) | exact HB.out)⟩⟩
                     ·rw [if_neg c40] at H
                      exact absurd H (by simp)
                   ·rw [if_neg c19] at H
                    have c19b0 : (x25_2 == 0) = false := beq_eq_false_iff_ne.mpr c19
                    have c19b1 : (x25_2 != 0) = true := bne_iff_ne.mpr c19
                    replace H := Option.bind_eq_some_iff.mp H
                    obtain ⟨t202, A460, H⟩ := H
                    replace H : (if x5_2.length < 5864062014805 then (piece_Whole.l1 k2 l1 (x5_2 ++ [t202]) x6_1 x14_1 (rd_L4 l0 x14_1) l0 (l0.length : Int) x14_1 (rd_L4 l0 x14_1) ((rd_L4 l0 x14_1).length : Int) (wrap64 (x25_2 + 1))) else (none)) = some r := H
                    have A46 := Aside0.mk A460
                    clear A460
                    by_cases c47 : x5_2.length < 5864062014805
                    ·rw [if_pos c47] at H
                     have LMc47 := Aside0.mk c47
                     clear c47
                     obtain ⟨y205, hy205⟩ : ∃ y_ : List (List Int), y_ = (x5_2 ++ [t202]) := ⟨_, rfl⟩
                     replace H : (piece_Whole.l1 k2 l1 y205 x6_1 x14_1 (rd_L4 l0 x14_1) l0 (l0.length : Int) x14_1 (rd_L4 l0 x14_1) ((rd_L4 l0 x14_1).length : Int) (wrap64 (x25_2 + 1))) = some r := by first | (rw [hy205]; with_reducible exact H) | (have H2_ := (Option.bind_some _ _).symm.trans H; rw [hy205]; with_reducible exact H2_) | (have H2_ := (Option.bind_some _ _).symm.trans H; with_reducible exact H2_) | with_reducible exact H | (rw [hy205]; exact H) | exact H
                     have Ny205 := Aside0.mk hy205
                     clear hy205
                     have H' := Aside0.mk H
                     clear H
                     have p178 : 0 ≤ (x25_2 : Int) := odt
                     have q178 : x25_2 < ((rd_L4 l0 x14_1).length : Int) := odt
                     obtain ⟨ad178, A178_0, c178_0, e178, hx178_0, hl178_0, hi178_0⟩ := at_L1 HR174_0.out x25_2 p178 q178
                     cases e178
                     replace hx178_0 := (HB.out.cell (World.block_lt_of_cell? w _ hx178_0)).trans hx178_0
                     have HR178_0 := Aside0.mk hi178_0
                     have HC178_0 := Aside0.mk hl178_0
                     clear hi178_0 hl178_0
                     replace p178 := eq_true p178
                     replace q178 := eq_true q178
                     have p179 : 0 ≤ (x14_1 : Int) := odt
                     have q179 : x14_1 < (l1.length : Int) := odt
                     obtain ⟨ad179, e179, hx179_0, hx179_1, hx179_2⟩ := at_T24 HR1.out x14_1 p179 q179
                     cases e179
                     replace hx179_0 := (HB.out.cell (World.block_lt_of_cell? w _ hx179_0)).trans hx179_0
                     replace hx179_1 := (HB.out.cell (World.block_lt_of_cell? w _ hx179_1)).trans hx179_1
                     replace hx179_2 := (HB.out.cell (World.block_lt_of_cell? w _ hx179_2)).trans hx179_2
                     replace p179 := eq_true p179
                     replace q179 := eq_true q179
                     have tk_ : True := trivial
                     go_wp2_with (first | (go_at_call 19; clear tk_; (with_reducible refine (piece_hyphened.calls ((rd_T24 l1 x14_1).f0) true _ A14.out).mono ?_); rintro e w' ⟨rfl, ⟨nd, rfl⟩⟩; have q48 : ((ji16) : Int) ≤ (((rd_L1 (rd_L4 l0 x14_1) x25_2).length : Int) : Int) := odt; obtain ⟨i048, hi048, _, hsz48, _⟩ := info_parts info3; have hroom48 : (rd_L1 (rd_L4 l0 x14_1) x25_2).length ≤ c178_0 := HC178_0.out; have hC48 : Kd.C (Kd.int .i64) _ A178_0 (rd_L1 (rd_L4 l0 x14_1) x25_2).length (rd_L1 (rd_L4 l0 x14_1) x25_2) := HR178_0.out; have hcut48 := cut_to (P := Try.prog) 36 3 .i64 Try.underlying36 hi048 A178_0 (rd_L1 (rd_L4 l0 x14_1) x25_2).length c178_0 (ji16) (odt) q48 hroom48; have hr48 := Kd.C_take (m := ((ji16) : Int).toNat) hC48 (by omega); have hy48 : y181.length = ((ji16) : Int).toNat := (by rw [Ny181.out, List.length_take]; omega); rw [← Ny181.out] at hr48; rw [← hy48] at hcut48; have HR184 := Aside0.mk hr48; have HC184 := Aside0.mk (show y181.length ≤ c178_0 from by omega); clear hr48 hC48 hroom48 hi048 hsz48; have KY48 := Aside0.mk hy48; clear hy48; replace q48 := eq_true q48; obtain ⟨Ao49, co49, eo49⟩ := Kd.S_slice HO_5.out; subst eo49))
                     as_aux_lemma =>
                     have tk_ : True := trivial
                     go_wp2_with (first | (go_at_call 18; clear tk_; (with_reducible refine (slices_Clone_int_int.calls _ _ y181 t202 _ ?side1 ?side2 A46.out).mono ?_); (case side1 => repeat (first | exact (Kd.C_below HR184.out (by repeat (first | (with_reducible first | exact HB.out | apply below_alloc | apply pw_below_drewN | apply below_drew1) | exact HB.out))) | (with_reducible refine Kd.C_alloc ?_ _) | (with_reducible refine Kd.C_drewN ?_ _) | (with_reducible refine Kd.C_drew ?_))); (case side2 => exact HC184.out); rintro e w50 ⟨v203, rfl, ho0, hb⟩; have n0_ := Aside0.mk (Kd.S_elder' (by (with_reducible repeat (first | apply Kd.S_alloc | apply Kd.S_drewN | apply Kd.S_drew)); exact HO_5.out) (Kd.R_base ho0) hb); have n1_ := Aside0.mk (Kd.R_lower ho0 (below_size (by repeat (first | (with_reducible first | exact HB.out | apply below_alloc | apply pw_below_drewN | apply below_drew1) | exact HB.out)))); have n2_ := Aside0.mk (below_step (by repeat (first | (with_reducible first | exact HB.out | apply below_alloc | apply pw_below_drewN | apply below_drew1) | exact HB.out)) hb); clear HO_5; clear HB; have HO_5 := n0_; have HO204 := n1_; have HB := n2_; clear n0_ n1_ n2_; (try clear hb); (try clear hb2); (try clear hk); (try clear hi); (try clear ho0); obtain ⟨Ao52, co52, eo52⟩ := Kd.R_slice HO204.out; subst eo52) | ((with_reducible refine gate_builtin (b := .append) (xs := #[.tmp 75, .tmp 78]) rfl ?_); (try (refine gate_guard (by rfl) ?_; dsimp only)); at_builtin; refine Kd.S_append (Kd.slice 3 (Kd.int .i64)) (w0 := w) w.heap.size rfl (.tmp 75) (.tmp 78) 27 36 (.slice none 0 0) 24 rfl Try.underlying27 info36 rfl (by decide) (by omega) (.slice Ao49 x5_2.length co49) x5_2 t202 [.slice Ao52 t202.length co52] (fun _ => True) (fun k_ => some k_ = (.slice Ao52 t202.length co52 : Value).ownBlock) rfl rfl ?aP (fun k_ hk_ => ((Kd.R_mono (ok' := fun k_ => ((fun _ => True)) k_ ∧ some k_ ≠ (.slice Ao49 x5_2.length co49 : Value).ownBlock) (Kd.R_apart' (HO204.out) (Kd.S_typed HO_5.out) (by decide)) (fun k_ hk => ⟨trivial, hk.2⟩))).1 k_ hk_.symm) ?aF ?aO ?aB ?aS ?aL ?_; (case aP => exact Kd.M_row (Kd.R_mono (Kd.R_tight rfl (Kd.R_mono (ok' := fun k_ => ((fun _ => True)) k_ ∧ some k_ ≠ (.slice Ao49 x5_2.length co49 : Value).ownBlock) (Kd.R_apart' (HO204.out) (Kd.S_typed HO_5.out) (by decide)) (fun k_ hk => ⟨trivial, hk.2⟩))) (fun _ h_ => h_))); (case aB => exact (by repeat (first | (with_reducible first | exact HB.out | apply below_alloc | apply pw_below_drewN | apply below_drew1) | exact HB.out))); (case aF => exact (fun _ _ => trivial)); (case aO => exact (by (with_reducible repeat (first | apply Kd.S_alloc | apply Kd.S_drewN | apply Kd.S_drew)); exact Kd.S_mono HO_5.out (fun k_ hk => ⟨trivial, fun e_ => hk.2 e_⟩))); (case aS => exact (below_size (by repeat (first | (with_reducible first | exact HB.out | apply below_alloc | apply pw_below_drewN | apply below_drew1) | exact HB.out)))); (case aL => have := LMc47.out; omega); intro v206 w51 ho hb hg hat; rw [← Ny205.out] at ho; have n0_ := Aside0.mk (hb); have n1_ := Aside0.mk (ho); clear HB; clear HO_5; clear HO204; have HB := n0_; have HO207 := n1_; clear n0_ n1_; clear ho hb hg hat))
                     go_roundg k2
                     case measure => have := HK1.out; have := HK2.out; omega
                     case rel => exact ⟨(y205), (wrap64 (x25_2 + 1)), (by first | rfl | (simp; done) | (simp [*]; done)), H', ⟨by have := HK1.out; have := HK2.out; omega⟩, ⟨by (with_reducible repeat (first | apply Kd.S_alloc | apply Kd.S_drewN | apply Kd.S_drew)); exact HO207.out⟩, ⟨by repeat (first | (with_reducible first | exact HB.out | apply below_alloc | apply pw_below_drewN | apply below_drew1) | exact HB.out)⟩⟩
                    ·rw [if_neg c47] at H
                     exact absurd H (by simp)
                  ·rw [if_neg c18] at H
                   exact absurd H (by simp)
                 ·rw [if_neg c17] at H
                  exact absurd H (by simp)
                ·replace c15 := Bool.eq_false_iff.mpr c15
                 subst c15
                 have H1 : (if x25_2 = 0 then (if x6_1 = true then (if (wrap64 ((x5_2.length : Int) - 1)) ≥ 0 then (if 0 ≤ (wrap64 ((x5_2.length : Int) - 1)) then (if (wrap64 ((x5_2.length : Int) - 1)) < (x5_2.length : Int) then ((slices_Concat_int_int_cat.f (rd_L1 x5_2 (wrap64 ((x5_2.length : Int) - 1))) (rd_L1 (rd_L4 l0 x14_1) x25_2)).bind fun t209 => (piece_Whole.l1 k2 l1 (x5_2.set ((wrap64 ((x5_2.length : Int) - 1)) : Int).toNat t209) x6_1 x14_1 (rd_L4 l0 x14_1) l0 (l0.length : Int) x14_1 (rd_L4 l0 x14_1) ((rd_L4 l0 x14_1).length : Int) (wrap64 (x25_2 + 1)))) else (none)) else (none)) else ((slices_Clone_int_int.f (rd_L1 (rd_L4 l0 x14_1) x25_2)).bind fun t213 => (if x5_2.length < 5864062014805 then (piece_Whole.l1 k2 l1 (x5_2 ++ [t213]) x6_1 x14_1 (rd_L4 l0 x14_1) l0 (l0.length : Int) x14_1 (rd_L4 l0 x14_1) ((rd_L4 l0 x14_1).length : Int) (wrap64 (x25_2 + 1))) else (none)))) else ((slices_Clone_int_int.f (rd_L1 (rd_L4 l0 x14_1) x25_2)).bind fun t219 => (if x5_2.length < 5864062014805 then (piece_Whole.l1 k2 l1 (x5_2 ++ [t219]) x6_1 x14_1 (rd_L4 l0 x14_1) l0 (l0.length : Int) x14_1 (rd_L4 l0 x14_1) ((rd_L4 l0 x14_1).length : Int) (wrap64 (x25_2 + 1))) else (none)))) else ((slices_Clone_int_int.f (rd_L1 (rd_L4 l0 x14_1) x25_2)).bind fun t225 => (if x5_2.length < 5864062014805 then (piece_Whole.l1 k2 l1 (x5_2 ++ [t225]) x6_1 x14_1 (rd_L4 l0 x14_1) l0 (l0.length : Int) x14_1 (rd_L4 l0 x14_1) ((rd_L4 l0 x14_1).length : Int) (wrap64 (x25_2 + 1))) else (none)))) = some r := by rw [if_neg (show ¬ (false = true) by decide)] at H; exact H
                 clear H
                 have H := H1
                 clear H1
                 by_cases c53 : x25_2 = 0
                 ·rw [if_pos c53] at H
                  have c53b0 : (x25_2 == 0) = true := beq_iff_eq.mpr c53
                  have c53b1 : (x25_2 != 0) = false := bne_eq_false_iff_eq.mpr c53
                  clear c53
                  by_cases c54 : x6_1 = true
                  ·subst c54
                   have H1 : (if (wrap64 ((x5_2.length : Int) - 1)) ≥ 0 then (if 0 ≤ (wrap64 ((x5_2.length : Int) - 1)) then (if (wrap64 ((x5_2.length : Int) - 1)) < (x5_2.length : Int) then ((slices_Concat_int_int_cat.f (rd_L1 x5_2 (wrap64 ((x5_2.length : Int) - 1))) (rd_L1 (rd_L4 l0 x14_1) x25_2)).bind fun t209 => (piece_Whole.l1 k2 l1 (x5_2.set ((wrap64 ((x5_2.length : Int) - 1)) : Int).toNat t209) true x14_1 (rd_L4 l0 x14_1) l0 (l0.length : Int) x14_1 (rd_L4 l0 x14_1) ((rd_L4 l0 x14_1).length : Int) (wrap64 (x25_2 + 1)))) else (none)) else (none)) else ((slices_Clone_int_int.f (rd_L1 (rd_L4 l0 x14_1) x25_2)).bind fun t213 => (if x5_2.length < 5864062014805 then (piece_Whole.l1 k2 l1 (x5_2 ++ [t213]) true x14_1 (rd_L4 l0 x14_1) l0 (l0.length : Int) x14_1 (rd_L4 l0 x14_1) ((rd_L4 l0 x14_1).length : Int) (wrap64 (x25_2 + 1))) else (none)))) = some r := by rw [if_pos rfl] at H; exact H
                   clear H
                   have H := H1
                   clear H1
                   by_cases c55 : (wrap64 ((x5_2.length : Int) - 1)) ≥ 0
                   ·rw [if_pos c55] at H
                    have c55b0 : decide (0 ≤ (wrap64 ((x5_2.length : Int) - 1))) = true := decide_eq_true c55
                    (try (have c55b1 : decide (0 ≤ (IntKind.i64.wrap ((x5_2.length : Int) - 1))) = true := by simp only [i64_w]; exact (decide_eq_true c55)))
                    clear c55
                    obtain ⟨ji56, hji56⟩ : ∃ j_ : Int, (wrap64 ((x5_2.length : Int) - 1)) = j_ := ⟨_, rfl⟩
                    replace H : (if 0 ≤ (ji56) then (if (ji56) < (x5_2.length : Int) then ((slices_Concat_int_int_cat.f (rd_L1 x5_2 (ji56)) (rd_L1 (rd_L4 l0 x14_1) x25_2)).bind fun t209 => (piece_Whole.l1 k2 l1 (x5_2.set ((ji56) : Int).toNat t209) true x14_1 (rd_L4 l0 x14_1) l0 (l0.length : Int) x14_1 (rd_L4 l0 x14_1) ((rd_L4 l0 x14_1).length : Int) (wrap64 (x25_2 + 1)))) else (none)) else (none)) = some r := by first | (rw [hji56] at H; exact H) | (simp only [hji56] at H ⊢; exact H)
                    (try rw [hji56] at c55b0)
                    (try rw [hji56] at A14)
                    have hji56w : (IntKind.i64.wrap ((x5_2.length : Int) - 1)) = ji56 := (i64_w _).trans hji56
                    by_cases c57 : 0 ≤ (ji56)
                    ·rw [if_pos c57] at H
                     have c57b0 : decide (0 ≤ (ji56)) = true := decide_eq_true c57
                     clear c57
                     by_cases c58 : (ji56) < (x5_2.length : Int)
                     ·rw [if_pos c58] at H
                      have c58b0 : decide ((ji56) < (x5_2.length : Int)) = true := decide_eq_true c58
                      clear c58
                      replace H := Option.bind_eq_some_iff.mp H
                      obtain ⟨t209, A590, H⟩ := H
                      replace H : (piece_Whole.l1 k2 l1 (x5_2.set ((ji56) : Int).toNat t209) true x14_1 (rd_L4 l0 x14_1) l0 (l0.length : Int) x14_1 (rd_L4 l0 x14_1) ((rd_L4 l0 x14_1).length : Int) (wrap64 (x25_2 + 1))) = some r := H
                      have A59 := Aside0.mk A590
                      clear A590
                      obtain ⟨y212, hy212⟩ : ∃ y_ : List (List Int), y_ = (x5_2.set ((ji56) : Int).toNat t209) := ⟨_, rfl⟩
                      replace H : (piece_Whole.l1 k2 l1 y212 true x14_1 (rd_L4 l0 x14_1) l0 (l0.length : Int) x14_1 (rd_L4 l0 x14_1) ((rd_L4 l0 x14_1).length : Int) (wrap64 (x25_2 + 1))) = some r := by first | (rw [hy212]; with_reducible exact H) | (have H2_ := (Option.bind_some _ _).symm.trans H; rw [hy212]; with_reducible exact H2_) | (have H2_ := (Option.bind_some _ _).symm.trans H; with_reducible exact H2_) | with_reducible exact H | (rw [hy212]; exact H) | exact H
                      have Ny212 := Aside0.mk hy212
                      clear hy212
                      have H' := Aside0.mk H
                      clear H
                      have p178 : 0 ≤ (x25_2 : Int) := odt
                      have q178 : x25_2 < ((rd_L4 l0 x14_1).length : Int) := odt
                      obtain ⟨ad178, A178_0, c178_0, e178, hx178_0, hl178_0, hi178_0⟩ := at_L1 HR174_0.out x25_2 p178 q178
                      cases e178
                      replace hx178_0 := (HB.out.cell (World.block_lt_of_cell? w _ hx178_0)).trans hx178_0
                      have HR178_0 := Aside0.mk hi178_0
                      have HC178_0 := Aside0.mk hl178_0
                      clear hi178_0 hl178_0
                      replace p178 := eq_true p178
                      replace q178 := eq_true q178
                      have p179 : 0 ≤ (x14_1 : Int) := odt
                      have q179 : x14_1 < (l1.length : Int) := odt
                      obtain ⟨ad179, e179, hx179_0, hx179_1, hx179_2⟩ := at_T24 HR1.out x14_1 p179 q179
                      cases e179
                      replace hx179_0 := (HB.out.cell (World.block_lt_of_cell? w _ hx179_0)).trans hx179_0
                      replace hx179_1 := (HB.out.cell (World.block_lt_of_cell? w _ hx179_1)).trans hx179_1
                      replace hx179_2 := (HB.out.cell (World.block_lt_of_cell? w _ hx179_2)).trans hx179_2
                      replace p179 := eq_true p179
                      replace q179 := eq_true q179
                      have tk_ : True := trivial
                      go_wp2_with (first | (go_at_call 19; clear tk_; (with_reducible refine (piece_hyphened.calls ((rd_T24 l1 x14_1).f0) false _ A14.out).mono ?_); rintro e w' ⟨rfl, ⟨nd, rfl⟩⟩; (try (rw [drewN_self wr]; generalize hq_ : World.drewN wr _ = wr; have n0_ : Aside0 (Kd.S (Kd.slice 3 (Kd.int .i64)) 36 wr w.heap.size (fun _ => True) u5 x5_2) := ⟨by rw [← hq_]; exact (by (with_reducible repeat (first | apply Kd.S_alloc | apply Kd.S_drewN | apply Kd.S_drew)); exact HO_5.out)⟩; have n1_ : Aside0 (Below w.heap.size w wr) := ⟨by rw [← hq_]; exact (by repeat (first | (with_reducible first | exact HB.out | apply below_alloc | apply pw_below_drewN | apply below_drew1) | exact HB.out))⟩; clear HO_5 HB hq_; have HO_5 := n0_; have HB := n1_; clear n0_ n1_)); obtain ⟨Ao61, co61, eo61⟩ := Kd.S_slice HO_5.out; subst eo61; have p208 : 0 ≤ ((ji56) : Int) := odt; have q208 : (ji56) < (x5_2.length : Int) := odt; obtain ⟨ad208, A208_0, c208_0, e208, hx208_0, hl208_0, hi208_0⟩ := at_L1 (Kd.S_reads' HO_5.out).2.2 (ji56) p208 q208; cases e208; obtain ⟨ce208, hce208, hMe208, hcc208⟩ := Kd.S_get HO_5.out [] (ji56) p208 (by first | exact q208 | exact odt | (have e_ := (Kd.S_reads' HO_5.out).1; omega)); obtain ⟨ve208_0, rfl, ge208_0⟩ := hMe208; have hv208_0 := hcc208 0 _ rfl; rw [Nat.add_zero, show ((Kd.slice 3 (Kd.int .i64))).sz = 1 from rfl, Nat.mul_one] at hv208_0; replace hv208_0 := Option.some.inj (hv208_0.symm.trans hx208_0); rw [hv208_0] at ge208_0; have HL208_0 := Aside0.mk (show Kd.R (Kd.int .i64) 3 _ _ _ _ (rd_L1 x5_2 (ji56)) from ge208_0); clear hv208_0 ge208_0; clear hcc208 hce208; have HR208_0 := Aside0.mk hi208_0; have HC208_0 := Aside0.mk hl208_0; clear hi208_0 hl208_0; replace p208 := eq_true p208; replace q208 := eq_true q208))
                      as_aux_lemma =>
                      have tk_ : True := trivial
                      go_wp2_with (first | (go_at_call 24; clear tk_; (with_reducible refine (slices_Concat_int_int_cat.calls _ _ (rd_L1 x5_2 (ji56)) _ _ (rd_L1 (rd_L4 l0 x14_1) x25_2) t209 _ ?side1 ?side2 ?side3 ?side4 A59.out).mono ?_); (case side1 => repeat (first | exact (by repeat (first | (with_reducible exact HR208_0.out) | (with_reducible refine Kd.C_alloc ?_ _) | (with_reducible refine Kd.C_drewN ?_ _) | (with_reducible refine Kd.C_drew ?_) | exact HR208_0.out)) | (with_reducible refine Kd.C_alloc ?_ _) | (with_reducible refine Kd.C_drewN ?_ _) | (with_reducible refine Kd.C_drew ?_))); (case side2 => exact HC208_0.out); (case side3 => repeat (first | exact (Kd.C_below HR178_0.out HB.out) | (with_reducible refine Kd.C_alloc ?_ _) | (with_reducible refine Kd.C_drewN ?_ _) | (with_reducible refine Kd.C_drew ?_))); (case side4 => exact HC178_0.out); rintro e w62 ⟨v210, rfl, ho0, hb⟩; have n0_ := Aside0.mk (Kd.S_elder' (by (with_reducible repeat (first | apply Kd.S_alloc | apply Kd.S_drewN | apply Kd.S_drew)); exact HO_5.out) (Kd.R_base ho0) hb); have n1_ := Aside0.mk (Kd.R_elder' (by (with_reducible repeat (first | apply Kd.R_alloc | apply Kd.R_drewN | apply Kd.R_drew)); exact HL208_0.out) (Kd.R_base ho0) hb); have n2_ := Aside0.mk (Kd.R_lower (Kd.R_new' ho0 (Kd.R_lt (by (with_reducible repeat (first | apply Kd.R_alloc | apply Kd.R_drewN | apply Kd.R_drew)); exact HL208_0.out))) (below_size (by repeat (first | (with_reducible first | exact HB.out | apply below_alloc | apply pw_below_drewN | apply below_drew1) | exact HB.out)))); have n3_ := Aside0.mk (Kd.C_below (by repeat (first | (with_reducible exact HR208_0.out) | (with_reducible refine Kd.C_alloc ?_ _) | (with_reducible refine Kd.C_drewN ?_ _) | (with_reducible refine Kd.C_drew ?_) | exact HR208_0.out)) hb); have n4_ := Aside0.mk (below_step (by repeat (first | (with_reducible first | exact HB.out | apply below_alloc | apply pw_below_drewN | apply below_drew1) | exact HB.out)) hb); clear HO_5; clear HL208_0; clear HR208_0; clear HB; have HO_5 := n0_; have HL208_0 := n1_; have HO211 := n2_; have HR208_0 := n3_; have HB := n4_; clear n0_ n1_ n2_ n3_ n4_; (try clear hb); (try clear hb2); (try clear hk); (try clear hi); (try clear ho0); have p60 : 0 ≤ ((ji56) : Int) := odt; have q60 : ((ji56) : Int) < ((x5_2.length : Int) : Int) := odt; obtain ⟨go60, co60, eo60, gb60, gl60, cl60, HG60⟩ := Kd.S_form HO_5.out (by omega); (first | cases eo60 | (injection eo60 with ea_ en_ ec_; (first | subst ea_ | (injection ea_ with ea_; subst ea_)); subst ec_; clear en_)); have GB60 := Aside0.mk gb60; have GG60 := Aside0.mk HG60; clear gb60 gl60 HG60; (first | simp only [add_plain] at hx208_0 | skip); obtain ⟨_, ce60, hcl60, hM60, hcc60, hfr60, _, _⟩ := Kd.S_elem HO_5.out [] ((ji56) : Int) p60 q60; obtain ⟨ve60_0, rfl, ge60_0⟩ := hM60; have hx60_0 := hcc60 0 _ rfl; have hf60_0 := hfr60 0; (try simp only [show ((Kd.slice 3 (Kd.int .i64))).sz = 1 from rfl, Nat.mul_one, Nat.add_zero] at hx60_0); (try simp only [show ((Kd.slice 3 (Kd.int .i64))).sz = 1 from rfl, Nat.mul_one, Nat.add_zero] at hf60_0); clear hcl60 hcc60 hfr60; (try clear hM60); replace p60 := eq_true p60; replace q60 := eq_true q60; have n_ := Aside0.mk (Kd.S_mono (ok' := (fun k_ => some k_ ≠ (v210 : Value).ownBlock)) HO_5.out (fun k_ hk => hk.2)); clear HO_5; have HO_5 := n_; clear n_; have HX63 := Aside0.mk (show Kd.S (Kd.slice 3 (Kd.int .i64)) 36 w62 w.heap.size (fun k_ => ((fun _ => True)) k_ ∧ ¬ ((fun k_ => some k_ = (v210 : Value).ownBlock)) k_) (.slice (some ⟨go60, 0, none⟩) x5_2.length co61) x5_2 from (by (with_reducible repeat (first | apply Kd.S_alloc | apply Kd.S_drewN | apply Kd.S_drew)); exact Kd.S_mono HO_5.out (fun k_ hk => ⟨trivial, fun e_ => hk e_⟩))); obtain ⟨oki63, ce63, hcl63, hM63, hcc63, hfr63, hoki63, hH63⟩ := Kd.S_elem HX63.out [] ((ji56) : Int) (odt) (by have h_ : ((ji56) : Int) < ((x5_2.length : Int) : Int) := odt; first | exact h_ | (have e_ := (Kd.S_reads' HO_5.out).1; omega) | simpa using h_); obtain ⟨ve63_0, rfl, ge63_0⟩ := hM63; have HP63 := Kd.S_seg hH63 (odt) (by have h_ : ((ji56) : Int) < ((x5_2.length : Int) : Int) := odt; first | exact h_ | (have e_ := (Kd.S_reads' HO_5.out).1; omega) | simpa using h_) (seg := [v210]) (j := 0) (show 1 ≤ 1 from by decide) (x' := t209) (Kd.M_row (Kd.R_mono (Kd.R_tight rfl (Kd.R_mono (ok' := fun k_ => ((fun _ => True)) k_ ∧ k_ ≠ go60) (Kd.R_apart' (HO211.out) (Kd.S_typed HO_5.out) (by decide)) (fun k_ hk => ⟨trivial, fun e_ => (hk.2) (by rw [e_]; rfl)⟩))) (fun _ h_ => Or.inr (h_)))) (fun _ hk => hk) (fun k_ hk_ => ((Kd.R_mono (ok' := fun k_ => ((fun _ => True)) k_ ∧ k_ ≠ go60) (Kd.R_apart' (HO211.out) (Kd.S_typed HO_5.out) (by decide)) (fun k_ hk => ⟨trivial, fun e_ => (hk.2) (by rw [e_]; rfl)⟩))).1 k_ hk_.symm); have hx63_0 := hcc63 0 _ rfl; (try simp only [show ((Kd.slice 3 (Kd.int .i64))).sz = 1 from rfl, Nat.mul_one, Nat.add_zero] at hx63_0); have hf63_0 := hfr63 0; (try simp only [show ((Kd.slice 3 (Kd.int .i64))).sz = 1 from rfl, Nat.mul_one, Nat.add_zero] at hf63_0); clear hcl63 hcc63 hfr63 hoki63 hH63; (try clear hM63); (try simp only [show ((Kd.slice 3 (Kd.int .i64))).sz = 1 from rfl, Nat.mul_one, Nat.add_zero] at HP63)) | ((with_reducible refine gate_store (t := 36) (p := 74) rfl ?_); refine store_event (t := 36) (p := 74) (v := ?vo_w64) (w1 := (w62.setCell ⟨go60, ((ji56) : Int).toNat, none⟩ (v210))) ?hg ?ho ?hn ?hr ?_; (case ho => rfl); (case hg => rfl); (case hn => rfl); (case hr => first | (go_simp; done) | (go_simp; rfl) | (obtain ⟨Az_, cz_, ez_⟩ := Kd.R_slice HO211.out; subst ez_; first | (go_simp; done) | (go_simp; rfl))); intro w64 hw; have hg : w62.grownBy w64 (some go60) := (by rw [hw]; exact HP63.2); have hp_ : Kd.S (Kd.slice 3 (Kd.int .i64)) 36 w64 w.heap.size (fun _ => True) (.slice (some ⟨go60, 0, none⟩) x5_2.length co61) y212 := (by rw [hw, Ny212.out]; exact HP63.1); clear HP63; have n0_ := Aside0.mk (hp_); have n1_ := Aside0.mk (Kd.R_after (v := (.slice (some ⟨go60, 0, none⟩) x5_2.length co61)) (v1 := (.slice (some ⟨go60, 0, none⟩) x5_2.length co61)) (ok := (fun k_ => some k_ ≠ (v210 : Value).ownBlock)) (by (with_reducible repeat (first | apply Kd.R_alloc | apply Kd.R_drewN | apply Kd.R_drew)); exact Kd.R_mono HL208_0.out (fun _ hk => ⟨hk.2, hk.1.2⟩)) hg (.inl rfl)); have n2_ := Aside0.mk ((by rw [hw]; exact below_set (HB.out) GB60.out : Below w.heap.size w w64)); clear HO_5; clear HL208_0; clear HB; clear HO211; have HO_5 := n0_; have HL208_0 := n1_; have HB := n2_; clear n0_ n1_ n2_; clear hg hw hp_))
                      go_roundg k2
                      case measure => have := HK1.out; have := HK2.out; omega
                      case rel => exact ⟨(y212), (wrap64 (x25_2 + 1)), (by first | rfl | (simp; done) | (simp [*]; done)), H', ⟨by have := HK1.out; have := HK2.out; omega⟩, ⟨by (with_reducible repeat (first | apply Kd.S_alloc | apply Kd.S_drewN | apply Kd.S_drew)); exact HO_5.out⟩, ⟨by repeat (first | (with_reducible first | exact HB.out | apply below_alloc | apply pw_below_drewN | apply below_drew1) | exact HB.out)⟩⟩
                     ·rw [if_neg c58] at H
                      exact absurd H (by simp)
                    ·rw [if_neg c57] at H
                     exact absurd H (by simp)
                   ·rw [if_neg c55] at H
                    have c55b0 : decide (0 ≤ (wrap64 ((x5_2.length : Int) - 1))) = false := decide_eq_false c55
                    (try (have c55b1 : decide (0 ≤ (IntKind.i64.wrap ((x5_2.length : Int) - 1))) = false := by simp only [i64_w]; exact (decide_eq_false c55)))
                    clear c55
                    replace H := Option.bind_eq_some_iff.mp H
                    obtain ⟨t213, A650, H⟩ := H
                    replace H : (if x5_2.length < 5864062014805 then (piece_Whole.l1 k2 l1 (x5_2 ++ [t213]) true x14_1 (rd_L4 l0 x14_1) l0 (l0.length : Int) x14_1 (rd_L4 l0 x14_1) ((rd_L4 l0 x14_1).length : Int) (wrap64 (x25_2 + 1))) else (none)) = some r := H
                    have A65 := Aside0.mk A650
                    clear A650
                    by_cases c66 : x5_2.length < 5864062014805
                    ·rw [if_pos c66] at H
                     have LMc66 := Aside0.mk c66
                     clear c66
                     obtain ⟨y216, hy216⟩ : ∃ y_ : List (List Int), y_ = (x5_2 ++ [t213]) := ⟨_, rfl⟩
                     replace H : (piece_Whole.l1 k2 l1 y216 true x14_1 (rd_L4 l0 x14_1) l0 (l0.length : Int) x14_1 (rd_L4 l0 x14_1) ((rd_L4 l0 x14_1).length : Int) (wrap64 (x25_2 + 1))) = some r := by first | (rw [hy216]; with_reducible exact H) | (have H2_ := (Option.bind_some _ _).symm.trans H; rw [hy216]; with_reducible exact H2_) | (have H2_ := (Option.bind_some _ _).symm.trans H; with_reducible exact H2_) | with_reducible exact H | (rw [hy216]; exact H) | exact H
                     have Ny216 := Aside0.mk hy216
                     clear hy216
                     have H' := Aside0.mk H
                     clear H
                     have p178 : 0 ≤ (x25_2 : Int) := odt
                     have q178 : x25_2 < ((rd_L4 l0 x14_1).length : Int) := odt
                     obtain ⟨ad178, A178_0, c178_0, e178, hx178_0, hl178_0, hi178_0⟩ := at_L1 HR174_0.out x25_2 p178 q178
                     cases e178
                     replace hx178_0 := (HB.out.cell (World.block_lt_of_cell? w _ hx178_0)).trans hx178_0
                     have HR178_0 := Aside0.mk hi178_0
                     have HC178_0 := Aside0.mk hl178_0
                     clear hi178_0 hl178_0
                     replace p178 := eq_true p178
                     replace q178 := eq_true q178
                     have p179 : 0 ≤ (x14_1 : Int) := odt
                     have q179 : x14_1 < (l1.length : Int) := odt
                     obtain ⟨ad179, e179, hx179_0, hx179_1, hx179_2⟩ := at_T24 HR1.out x14_1 p179 q179
                     cases e179
                     replace hx179_0 := (HB.out.cell (World.block_lt_of_cell? w _ hx179_0)).trans hx179_0
                     replace hx179_1 := (HB.out.cell (World.block_lt_of_cell? w _ hx179_1)).trans hx179_1
                     replace hx179_2 := (HB.out.cell (World.block_lt_of_cell? w _ hx179_2)).trans hx179_2
                     replace p179 := eq_true p179
                     replace q179 := eq_true q179
                     have tk_ : True := trivial
                     go_wp2_with (first | (go_at_call 19; clear tk_; (with_reducible refine (piece_hyphened.calls ((rd_T24 l1 x14_1).f0) false _ A14.out).mono ?_); rintro e w' ⟨rfl, ⟨nd, rfl⟩⟩; obtain ⟨Ao67, co67, eo67⟩ := Kd.S_slice HO_5.out; subst eo67))
                     as_aux_lemma =>
                     have tk_ : True := trivial
                     go_wp2_with (first | (go_at_call 18; clear tk_; (with_reducible refine (slices_Clone_int_int.calls _ _ (rd_L1 (rd_L4 l0 x14_1) x25_2) t213 _ ?side1 ?side2 A65.out).mono ?_); (case side1 => repeat (first | exact (Kd.C_below HR178_0.out (by repeat (first | (with_reducible first | exact HB.out | apply below_alloc | apply pw_below_drewN | apply below_drew1) | exact HB.out))) | (with_reducible refine Kd.C_alloc ?_ _) | (with_reducible refine Kd.C_drewN ?_ _) | (with_reducible refine Kd.C_drew ?_))); (case side2 => exact HC178_0.out); rintro e w68 ⟨v214, rfl, ho0, hb⟩; have n0_ := Aside0.mk (Kd.S_elder' (by (with_reducible repeat (first | apply Kd.S_alloc | apply Kd.S_drewN | apply Kd.S_drew)); exact HO_5.out) (Kd.R_base ho0) hb); have n1_ := Aside0.mk (Kd.R_lower ho0 (below_size (by repeat (first | (with_reducible first | exact HB.out | apply below_alloc | apply pw_below_drewN | apply below_drew1) | exact HB.out)))); have n2_ := Aside0.mk (below_step (by repeat (first | (with_reducible first | exact HB.out | apply below_alloc | apply pw_below_drewN | apply below_drew1) | exact HB.out)) hb); clear HO_5; clear HB; have HO_5 := n0_; have HO215 := n1_; have HB := n2_; clear n0_ n1_ n2_; (try clear hb); (try clear hb2); (try clear hk); (try clear hi); (try clear ho0); obtain ⟨Ao70, co70, eo70⟩ := Kd.R_slice HO215.out; subst eo70) | ((with_reducible refine gate_builtin (b := .append) (xs := #[.tmp 75, .tmp 78]) rfl ?_); (try (refine gate_guard (by rfl) ?_; dsimp only)); at_builtin; refine Kd.S_append (Kd.slice 3 (Kd.int .i64)) (w0 := w) w.heap.size rfl (.tmp 75) (.tmp 78) 27 36 (.slice none 0 0) 24 rfl Try.underlying27 info36 rfl (by decide) (by omega) (.slice Ao67 x5_2.length co67) x5_2 t213 [.slice Ao70 t213.length co70] (fun _ => True) (fun k_ => some k_ = (.slice Ao70 t213.length co70 : Value).ownBlock) rfl rfl ?aP (fun k_ hk_ => ((Kd.R_mono (ok' := fun k_ => ((fun _ => True)) k_ ∧ some k_ ≠ (.slice Ao67 x5_2.length co67 : Value).ownBlock) (Kd.R_apart' (HO215.out) (Kd.S_typed HO_5.out) (by decide)) (fun k_ hk => ⟨trivial, hk.2⟩))).1 k_ hk_.symm) ?aF ?aO ?aB ?aS ?aL ?_; (case aP => exact Kd.M_row (Kd.R_mono (Kd.R_tight rfl (Kd.R_mono (ok' := fun k_ => ((fun _ => True)) k_ ∧ some k_ ≠ (.slice Ao67 x5_2.length co67 : Value).ownBlock) (Kd.R_apart' (HO215.out) (Kd.S_typed HO_5.out) (by decide)) (fun k_ hk => ⟨trivial, hk.2⟩))) (fun _ h_ => h_))); (case aB => exact (by repeat (first | (with_reducible first | exact HB.out | apply below_alloc | apply pw_below_drewN | apply below_drew1) | exact HB.out))); (case aF => exact (fun _ _ => trivial)); (case aO => exact (by (with_reducible repeat (first | apply Kd.S_alloc | apply Kd.S_drewN | apply Kd.S_drew)); exact Kd.S_mono HO_5.out (fun k_ hk => ⟨trivial, fun e_ => hk.2 e_⟩))); (case aS => exact (below_size (by repeat (first | (with_reducible first | exact HB.out | apply below_alloc | apply pw_below_drewN | apply below_drew1) | exact HB.out)))); (case aL => have := LMc66.out; omega); intro v217 w69 ho hb hg hat; rw [← Ny216.out] at ho; have n0_ := Aside0.mk (hb); have n1_ := Aside0.mk (ho); clear HB; clear HO_5; clear HO215; have HB := n0_; have HO218 := n1_; clear n0_ n1_; clear ho hb hg hat))
                     go_roundg k2
                     case measure => have := HK1.out; have := HK2.out; omega
                     case rel => exact ⟨(y216), (wrap64 (x25_2 + 1)), (by first | rfl | (simp; done) | (simp [*]; done)), H', ⟨by have := HK1.out; have := HK2.out; omega⟩, ⟨by (with_reducible repeat (first | apply Kd.S_alloc | apply Kd.S_drewN | apply Kd.S_drew)); exact HO218.out⟩, ⟨by repeat (first | (with_reducible first | exact HB.out | apply below_alloc | apply pw_below_drewN | apply below_drew1) | exact HB.out)⟩⟩
                    ·rw [if_neg c66] at H
                     exact absurd H (by simp)
                  ·replace c54 := Bool.eq_false_iff.mpr c54
                   subst c54
                   have H1 : ((slices_Clone_int_int.f (rd_L1 (rd_L4 l0 x14_1) x25_2)).bind fun t219 => (if x5_2.length < 5864062014805 then (piece_Whole.l1 k2 l1 (x5_2 ++ [t219]) false x14_1 (rd_L4 l0 x14_1) l0 (l0.length : Int) x14_1 (rd_L4 l0 x14_1) ((rd_L4 l0 x14_1).length : Int) (wrap64 (x25_2 + 1))) else (none))) = some r := by rw [if_neg (show ¬ (false = true) by decide)] at H; exact H
                   clear H
                   have H := H1
                   clear H1
                   replace H := Option.bind_eq_some_iff.mp H
                   obtain ⟨t219, A710, H⟩ := H
                   replace H : (if x5_2.length < 5864062014805 then (piece_Whole.l1 k2 l1 (x5_2 ++ [t219]) false x14_1 (rd_L4 l0 x14_1) l0 (l0.length : Int) x14_1 (rd_L4 l0 x14_1) ((rd_L4 l0 x14_1).length : Int) (wrap64 (x25_2 + 1))) else (none)) = some r := H
                   have A71 := Aside0.mk A710
                   clear A710
                   by_cases c72 : x5_2.length < 5864062014805
                   ·rw [if_pos c72] at H
                    have LMc72 := Aside0.mk c72
                    clear c72
                    obtain ⟨y222, hy222⟩ : ∃ y_ : List (List Int), y_ = (x5_2 ++ [t219]) := ⟨_, rfl⟩
                    replace H : (piece_Whole.l1 k2 l1 y222 false x14_1 (rd_L4 l0 x14_1) l0 (l0.length : Int) x14_1 (rd_L4 l0 x14_1) ((rd_L4 l0 x14_1).length : Int) (wrap64 (x25_2 + 1))) = some r := by first | (rw [hy222]; with_reducible exact H) | (have H2_ := (Option.bind_some _ _).symm.trans H; rw [hy222]; with_reducible exact H2_) | (have H2_ := (Option.bind_some _ _).symm.trans H; with_reducible exact H2_) | with_reducible exact H | (rw [hy222]; exact H) | exact H
                    have Ny222 := Aside0.mk hy222
                    clear hy222
                    have H' := Aside0.mk H
                    clear H
                    have p178 : 0 ≤ (x25_2 : Int) := odt
                    have q178 : x25_2 < ((rd_L4 l0 x14_1).length : Int) := odt
                    obtain ⟨ad178, A178_0, c178_0, e178, hx178_0, hl178_0, hi178_0⟩ := at_L1 HR174_0.out x25_2 p178 q178
                    cases e178
                    replace hx178_0 := (HB.out.cell (World.block_lt_of_cell? w _ hx178_0)).trans hx178_0
                    have HR178_0 := Aside0.mk hi178_0
                    have HC178_0 := Aside0.mk hl178_0
                    clear hi178_0 hl178_0
                    replace p178 := eq_true p178
                    replace q178 := eq_true q178
                    have p179 : 0 ≤ (x14_1 : Int) := odt
                    have q179 : x14_1 < (l1.length : Int) := odt
                    obtain ⟨ad179, e179, hx179_0, hx179_1, hx179_2⟩ := at_T24 HR1.out x14_1 p179 q179
                    cases e179
                    replace hx179_0 := (HB.out.cell (World.block_lt_of_cell? w _ hx179_0)).trans hx179_0
                    replace hx179_1 := (HB.out.cell (World.block_lt_of_cell? w _ hx179_1)).trans hx179_1
                    replace hx179_2 := (HB.out.cell (World.block_lt_of_cell? w _ hx179_2)).trans hx179_2
                    replace p179 := eq_true p179
                    replace q179 := eq_true q179
                    have tk_ : True := trivial
                    go_wp2_with (first | (go_at_call 19; clear tk_; (with_reducible refine (piece_hyphened.calls ((rd_T24 l1 x14_1).f0) false _ A14.out).mono ?_); rintro e w' ⟨rfl, ⟨nd, rfl⟩⟩; obtain ⟨Ao73, co73, eo73⟩ := Kd.S_slice HO_5.out; subst eo73))
                    as_aux_lemma =>
                    have tk_ : True := trivial
                    go_wp2_with (first | (go_at_call 18; clear tk_; (with_reducible refine (slices_Clone_int_int.calls _ _ (rd_L1 (rd_L4 l0 x14_1) x25_2) t219 _ ?side1 ?side2 A71.out).mono ?_); (case side1 => repeat (first | exact (Kd.C_below HR178_0.out (by repeat (first | (with_reducible first | exact HB.out | apply below_alloc | apply pw_below_drewN | apply below_drew1) | exact HB.out))) | (with_reducible refine Kd.C_alloc ?_ _) | (with_reducible refine Kd.C_drewN ?_ _) | (with_reducible refine Kd.C_drew ?_))); (case side2 => exact HC178_0.out); rintro e w74 ⟨v220, rfl, ho0, hb⟩; have n0_ := Aside0.mk (Kd.S_elder' (by (with_reducible repeat (first | apply Kd.S_alloc | apply Kd.S_drewN | apply Kd.S_drew)); exact HO_5.out) (Kd.R_base ho0) hb); have n1_ := Aside0.mk (Kd.R_lower ho0 (below_size (by repeat (first | (with_reducible first | exact HB.out | apply below_alloc | apply pw_below_drewN | apply below_drew1) | exact HB.out)))); have n2_ := Aside0.mk (below_step (by repeat (first | (with_reducible first | exact HB.out | apply below_alloc | apply pw_below_drewN | apply below_drew1) | exact HB.out)) hb); clear HO_5; clear HB; have HO_5 := n0_; have HO221 := n1_; have HB := n2_; clear n0_ n1_ n2_; (try clear hb); (try clear hb2); (try clear hk); (try clear hi); (try clear ho0); obtain ⟨Ao76, co76, eo76⟩ := Kd.R_slice HO221.out; subst eo76) | ((with_reducible refine gate_builtin (b := .append) (xs := #[.tmp 75, .tmp 78]) rfl ?_); (try (refine gate_guard (by rfl) ?_; dsimp only)); at_builtin; refine Kd.S_append (Kd.slice 3 (Kd.int .i64)) (w0 := w) w.heap.size rfl (.tmp 75) (.tmp 78) 27 36 (.slice none 0 0) 24 rfl Try.underlying27 info36 rfl (by decide) (by omega) (.slice Ao73 x5_2.length co73) x5_2 t219 [.slice Ao76 t219.length co76] (fun _ => True) (fun k_ => some k_ = (.slice Ao76 t219.length co76 : Value).ownBlock) rfl rfl ?aP (fun k_ hk_ => ((Kd.R_mono (ok' := fun k_ => ((fun _ => True)) k_ ∧ some k_ ≠ (.slice Ao73 x5_2.length co73 : Value).ownBlock) (Kd.R_apart' (HO221.out) (Kd.S_typed HO_5.out) (by decide)) (fun k_ hk => ⟨trivial, hk.2⟩))).1 k_ hk_.symm) ?aF ?aO ?aB ?aS ?aL ?_; (case aP => exact Kd.M_row (Kd.R_mono (Kd.R_tight rfl (Kd.R_mono (ok' := fun k_ => ((fun _ => True)) k_ ∧ some k_ ≠ (.slice Ao73 x5_2.length co73 : Value).ownBlock) (Kd.R_apart' (HO221.out) (Kd.S_typed HO_5.out) (by decide)) (fun k_ hk => ⟨trivial, hk.2⟩))) (fun _ h_ => h_))); (case aB => exact (by repeat (first | (with_reducible first | exact HB.out | apply below_alloc | apply pw_below_drewN | apply below_drew1) | exact HB.out))); (case aF => exact (fun _ _ => trivial)); (case aO => exact (by (with_reducible repeat (first | apply Kd.S_alloc | apply Kd.S_drewN | apply Kd.S_drew)); exact Kd.S_mono HO_5.out (fun k_ hk => ⟨trivial, fun e_ => hk.2 e_⟩))); (case aS => exact (below_size (by repeat (first | (with_reducible first | exact HB.out | apply below_alloc | apply pw_below_drewN | apply below_drew1) | exact HB.out)))); (case aL => have := LMc72.out; omega); intro v223 w75 ho hb hg hat; rw [← Ny222.out] at ho; have n0_ := Aside0.mk (hb); have n1_ := Aside0.mk (ho); clear HB; clear HO_5; clear HO221; have HB := n0_; have HO224 := n1_; clear n0_ n1_; clear ho hb hg hat))
                    go_roundg k2
                    case measure => have := HK1.out; have := HK2.out; omega
                    case rel => exact ⟨(y222), (wrap64 (x25_2 + 1)), (by first | rfl | (simp; done) | (simp [*]; done)), H', ⟨by have := HK1.out; have := HK2.out; omega⟩, ⟨by (with_reducible repeat (first | apply Kd.S_alloc | apply Kd.S_drewN | apply Kd.S_drew)); exact HO224.out⟩, ⟨by repeat (first | (with_reducible first | exact HB.out | apply below_alloc | apply pw_below_drewN | apply below_drew1) | exact HB.out)⟩⟩
                   ·rw [if_neg c72] at H
                    exact absurd H (by simp)
                 ·rw [if_neg c53] at H
                  have c53b0 : (x25_2 == 0) = false := beq_eq_false_iff_ne.mpr c53
                  have c53b1 : (x25_2 != 0) = true := bne_iff_ne.mpr c53
                  replace H := Option.bind_eq_some_iff.mp H
                  obtain ⟨t225, A770, H⟩ := H
                  replace H : (if x5_2.length < 5864062014805 then (piece_Whole.l1 k2 l1 (x5_2 ++ [t225]) x6_1 x14_1 (rd_L4 l0 x14_1) l0 (l0.length : Int) x14_1 (rd_L4 l0 x14_1) ((rd_L4 l0 x14_1).length : Int) (wrap64 (x25_2 + 1))) else (none)) = some r := H
                  have A77 := Aside0.mk A770
                  clear A770
                  by_cases c78 : x5_2.length < 5864062014805
                  ·rw [if_pos c78] at H
                   have LMc78 := Aside0.mk c78
                   clear c78
                   obtain ⟨y228, hy228⟩ : ∃ y_ : List (List Int), y_ = (x5_2 ++ [t225]) := ⟨_, rfl⟩
                   replace H : (piece_Whole.l1 k2 l1 y228 x6_1 x14_1 (rd_L4 l0 x14_1) l0 (l0.length : Int) x14_1 (rd_L4 l0 x14_1) ((rd_L4 l0 x14_1).length : Int) (wrap64 (x25_2 + 1))) = some r := by first | (rw [hy228]; with_reducible exact H) | (have H2_ := (Option.bind_some _ _).symm.trans H; rw [hy228]; with_reducible exact H2_) | (have H2_ := (Option.bind_some _ _).symm.trans H; with_reducible exact H2_) | with_reducible exact H | (rw [hy228]; exact H) | exact H
                   have Ny228 := Aside0.mk hy228
                   clear hy228
                   have H' := Aside0.mk H
                   clear H
                   have p178 : 0 ≤ (x25_2 : Int) := odt
                   have q178 : x25_2 < ((rd_L4 l0 x14_1).length : Int) := odt
                   obtain ⟨ad178, A178_0, c178_0, e178, hx178_0, hl178_0, hi178_0⟩ := at_L1 HR174_0.out x25_2 p178 q178
                   cases e178
                   replace hx178_0 := (HB.out.cell (World.block_lt_of_cell? w _ hx178_0)).trans hx178_0
                   have HR178_0 := Aside0.mk hi178_0
                   have HC178_0 := Aside0.mk hl178_0
                   clear hi178_0 hl178_0
                   replace p178 := eq_true p178
                   replace q178 := eq_true q178
                   have p179 : 0 ≤ (x14_1 : Int) := odt
                   have q179 : x14_1 < (l1.length : Int) := odt
                   obtain ⟨ad179, e179, hx179_0, hx179_1, hx179_2⟩ := at_T24 HR1.out x14_1 p179 q179
                   cases e179
                   replace hx179_0 := (HB.out.cell (World.block_lt_of_cell? w _ hx179_0)).trans hx179_0
                   replace hx179_1 := (HB.out.cell (World.block_lt_of_cell? w _ hx179_1)).trans hx179_1
                   replace hx179_2 := (HB.out.cell (World.block_lt_of_cell? w _ hx179_2)).trans hx179_2
                   replace p179 := eq_true p179
                   replace q179 := eq_true q179
                   have tk_ : True := trivial
                   go_wp2_with (first | (go_at_call 19; clear tk_; (with_reducible refine (piece_hyphened.calls ((rd_T24 l1 x14_1).f0) false _ A14.out).mono ?_); rintro e w' ⟨rfl, ⟨nd, rfl⟩⟩; obtain ⟨Ao79, co79, eo79⟩ := Kd.S_slice HO_5.out; subst eo79))
                   as_aux_lemma =>
                   have tk_ : True := trivial
                   go_wp2_with (first | (go_at_call 18; clear tk_; (with_reducible refine (slices_Clone_int_int.calls _ _ (rd_L1 (rd_L4 l0 x14_1) x25_2) t225 _ ?side1 ?side2 A77.out).mono ?_); (case side1 => repeat (first | exact (Kd.C_below HR178_0.out (by repeat (first | (with_reducible first | exact HB.out | apply below_alloc | apply pw_below_drewN | apply below_drew1) | exact HB.out))) | (with_reducible refine Kd.C_alloc ?_ _) | (with_reducible refine Kd.C_drewN ?_ _) | (with_reducible refine Kd.C_drew ?_))); (case side2 => exact HC178_0.out); rintro e w80 ⟨v226, rfl, ho0, hb⟩; have n0_ := Aside0.mk (Kd.S_elder' (by (with_reducible repeat (first | apply Kd.S_alloc | apply Kd.S_drewN | apply Kd.S_drew)); exact HO_5.out) (Kd.R_base ho0) hb); have n1_ := Aside0.mk (Kd.R_lower ho0 (below_size (by repeat (first | (with_reducible first | exact HB.out | apply below_alloc | apply pw_below_drewN | apply below_drew1) | exact HB.out)))); have n2_ := Aside0.mk (below_step (by repeat (first | (with_reducible first | exact HB.out | apply below_alloc | apply pw_below_drewN | apply below_drew1) | exact HB.out)) hb); clear HO_5; clear HB; have HO_5 := n0_; have HO227 := n1_; have HB := n2_; clear n0_ n1_ n2_; (try clear hb); (try clear hb2); (try clear hk); (try clear hi); (try clear ho0); obtain ⟨Ao82, co82, eo82⟩ := Kd.R_slice HO227.out; subst eo82) | ((with_reducible refine gate_builtin (b := .append) (xs := #[.tmp 75, .tmp 78]) rfl ?_); (try (refine gate_guard (by rfl) ?_; dsimp only)); at_builtin; refine Kd.S_append (Kd.slice 3 (Kd.int .i64)) (w0 := w) w.heap.size rfl (.tmp 75) (.tmp 78) 27 36 (.slice none 0 0) 24 rfl Try.underlying27 info36 rfl (by decide) (by omega) (.slice Ao79 x5_2.length co79) x5_2 t225 [.slice Ao82 t225.length co82] (fun _ => True) (fun k_ => some k_ = (.slice Ao82 t225.length co82 : Value).ownBlock) rfl rfl ?aP (fun k_ hk_ => ((Kd.R_mono (ok' := fun k_ => ((fun _ => True)) k_ ∧ some k_ ≠ (.slice Ao79 x5_2.length co79 : Value).ownBlock) (Kd.R_apart' (HO227.out) (Kd.S_typed HO_5.out) (by decide)) (fun k_ hk => ⟨trivial, hk.2⟩))).1 k_ hk_.symm) ?aF ?aO ?aB ?aS ?aL ?_; (case aP => exact Kd.M_row (Kd.R_mono (Kd.R_tight rfl (Kd.R_mono (ok' := fun k_ => ((fun _ => True)) k_ ∧ some k_ ≠ (.slice Ao79 x5_2.length co79 : Value).ownBlock) (Kd.R_apart' (HO227.out) (Kd.S_typed HO_5.out) (by decide)) (fun k_ hk => ⟨trivial, hk.2⟩))) (fun _ h_ => h_))); (case aB => exact (by repeat (first | (with_reducible first | exact HB.out | apply below_alloc | apply pw_below_drewN | apply below_drew1) | exact HB.out))); (case aF => exact (fun _ _ => trivial)); (case aO => exact (by (with_reducible repeat (first | apply Kd.S_alloc | apply Kd.S_drewN | apply Kd.S_drew)); exact Kd.S_mono HO_5.out (fun k_ hk => ⟨trivial, fun e_ => hk.2 e_⟩))); (case aS => exact (below_size (by repeat (first | (with_reducible first | exact HB.out | apply below_alloc | apply pw_below_drewN | apply below_drew1) | exact HB.out)))); (case aL => have := LMc78.out; omega); intro v229 w81 ho hb hg hat; rw [← Ny228.out] at ho; have n0_ := Aside0.mk (hb); have n1_ := Aside0.mk (ho); clear HB; clear HO_5; clear HO227; have HB := n0_; have HO230 := n1_; clear n0_ n1_; clear ho hb hg hat))
                   go_roundg k2
                   case measure => have := HK1.out; have := HK2.out; omega
                   case rel => exact ⟨(y228), (wrap64 (x25_2 + 1)), (by first | rfl | (simp; done) | (simp [*]; done)), H', ⟨by have := HK1.out; have := HK2.out; omega⟩, ⟨by (with_reducible repeat (first | apply Kd.S_alloc | apply Kd.S_drewN | apply Kd.S_drew)); exact HO230.out⟩, ⟨by repeat (first | (with_reducible first | exact HB.out | apply below_alloc | apply pw_below_drewN | apply below_drew1) | exact HB.out)⟩⟩
                  ·rw [if_neg c78] at H
                   exact absurd H (by simp)
               ·rw [if_neg c13] at H
                exact absurd H (by simp)
              ·rw [if_neg c12] at H
               exact absurd H (by simp)
             ·rw [if_neg c11] at H
              have c11b0 : decide (0 < ((rd_L1 (rd_L4 l0 x14_1) x25_2).length : Int)) = false := decide_eq_false c11
              have c11b1 : decide (0 < (rd_L1 (rd_L4 l0 x14_1) x25_2).length) = false := decide_eq_false (by omega)
              clear c11
              by_cases c83 : x25_2 = 0
              ·rw [if_pos c83] at H
               have c83b0 : (x25_2 == 0) = true := beq_iff_eq.mpr c83
               have c83b1 : (x25_2 != 0) = false := bne_eq_false_iff_eq.mpr c83
               clear c83
               by_cases c84 : x6_1 = true
               ·subst c84
                have H1 : (if (wrap64 ((x5_2.length : Int) - 1)) ≥ 0 then (if 0 ≤ (wrap64 ((x5_2.length : Int) - 1)) then (if (wrap64 ((x5_2.length : Int) - 1)) < (x5_2.length : Int) then ((slices_Concat_int_int_cat.f (rd_L1 x5_2 (wrap64 ((x5_2.length : Int) - 1))) (rd_L1 (rd_L4 l0 x14_1) x25_2)).bind fun t232 => (piece_Whole.l1 k2 l1 (x5_2.set ((wrap64 ((x5_2.length : Int) - 1)) : Int).toNat t232) true x14_1 (rd_L4 l0 x14_1) l0 (l0.length : Int) x14_1 (rd_L4 l0 x14_1) ((rd_L4 l0 x14_1).length : Int) (wrap64 (x25_2 + 1)))) else (none)) else (none)) else ((slices_Clone_int_int.f (rd_L1 (rd_L4 l0 x14_1) x25_2)).bind fun t236 => (if x5_2.length < 5864062014805 then (piece_Whole.l1 k2 l1 (x5_2 ++ [t236]) true x14_1 (rd_L4 l0 x14_1) l0 (l0.length : Int) x14_1 (rd_L4 l0 x14_1) ((rd_L4 l0 x14_1).length : Int) (wrap64 (x25_2 + 1))) else (none)))) = some r := by rw [if_pos rfl] at H; exact H
                clear H
                have H := H1
                clear H1
                by_cases c85 : (wrap64 ((x5_2.length : Int) - 1)) ≥ 0
                ·rw [if_pos c85] at H
                 have c85b0 : decide (0 ≤ (wrap64 ((x5_2.length : Int) - 1))) = true := decide_eq_true c85
                 (try (have c85b1 : decide (0 ≤ (IntKind.i64.wrap ((x5_2.length : Int) - 1))) = true := by simp only [i64_w]; exact (decide_eq_true c85)))
                 clear c85
                 obtain ⟨ji86, hji86⟩ : ∃ j_ : Int, (wrap64 ((x5_2.length : Int) - 1)) = j_ := ⟨_, rfl⟩
                 replace H : (if 0 ≤ (ji86) then (if (ji86) < (x5_2.length : Int) then ((slices_Concat_int_int_cat.f (rd_L1 x5_2 (ji86)) (rd_L1 (rd_L4 l0 x14_1) x25_2)).bind fun t232 => (piece_Whole.l1 k2 l1 (x5_2.set ((ji86) : Int).toNat t232) true x14_1 (rd_L4 l0 x14_1) l0 (l0.length : Int) x14_1 (rd_L4 l0 x14_1) ((rd_L4 l0 x14_1).length : Int) (wrap64 (x25_2 + 1)))) else (none)) else (none)) = some r := by first | (rw [hji86] at H; exact H) | (simp only [hji86] at H ⊢; exact H)
                 (try rw [hji86] at c85b0)
                 have hji86w : (IntKind.i64.wrap ((x5_2.length : Int) - 1)) = ji86 := (i64_w _).trans hji86
                 by_cases c87 : 0 ≤ (ji86)
                 ·rw [if_pos c87] at H
                  have c87b0 : decide (0 ≤ (ji86)) = true := decide_eq_true c87
                  clear c87
                  by_cases c88 : (ji86) < (x5_2.length : Int)
                  ·rw [if_pos c88] at H
                   have c88b0 : decide ((ji86) < (x5_2.length : Int)) = true := decide_eq_true c88
                   clear c88
                   replace H := Option.bind_eq_some_iff.mp H
                   obtain ⟨t232, A890, H⟩ := H
                   replace H : (piece_Whole.l1 k2 l1 (x5_2.set ((ji86) : Int).toNat t232) true x14_1 (rd_L4 l0 x14_1) l0 (l0.length : Int) x14_1 (rd_L4 l0 x14_1) ((rd_L4 l0 x14_1).length : Int) (wrap64 (x25_2 + 1))) = some r := H
                   have A89 := Aside0.mk A890
                   clear A890
                   obtain ⟨y235, hy235⟩ : ∃ y_ : List (List Int), y_ = (x5_2.set ((ji86) : Int).toNat t232) := ⟨_, rfl⟩
                   replace H : (piece_Whole.l1 k2 l1 y235 true x14_1 (rd_L4 l0 x14_1) l0 (l0.length : Int) x14_1 (rd_L4 l0 x14_1) ((rd_L4 l0 x14_1).length : Int) (wrap64 (x25_2 + 1))) = some r := by first | (rw [hy235]; with_reducible exact H) | (have H2_ := (Option.bind_some _ _).symm.trans H; rw [hy235]; with_reducible exact H2_) | (have H2_ := (Option.bind_some _ _).symm.trans H; with_reducible exact H2_) | with_reducible exact H | (rw [hy235]; exact H) | exact H
                   have Ny235 := Aside0.mk hy235
                   clear hy235
                   have H' := Aside0.mk H
                   clear H
                   have p178 : 0 ≤ (x25_2 : Int) := odt
                   have q178 : x25_2 < ((rd_L4 l0 x14_1).length : Int) := odt
                   obtain ⟨ad178, A178_0, c178_0, e178, hx178_0, hl178_0, hi178_0⟩ := at_L1 HR174_0.out x25_2 p178 q178
                   cases e178
                   replace hx178_0 := (HB.out.cell (World.block_lt_of_cell? w _ hx178_0)).trans hx178_0
                   have HR178_0 := Aside0.mk hi178_0
                   have HC178_0 := Aside0.mk hl178_0
                   clear hi178_0 hl178_0
                   replace p178 := eq_true p178
                   replace q178 := eq_true q178
                   obtain ⟨Ao91, co91, eo91⟩ := Kd.S_slice HO_5.out
                   subst eo91
                   have p231 : 0 ≤ ((ji86) : Int) := odt
                   have q231 : (ji86) < (x5_2.length : Int) := odt
                   obtain ⟨ad231, A231_0, c231_0, e231, hx231_0, hl231_0, hi231_0⟩ := at_L1 (Kd.S_reads' HO_5.out).2.2 (ji86) p231 q231
                   cases e231
                   obtain ⟨ce231, hce231, hMe231, hcc231⟩ := Kd.S_get HO_5.out [] (ji86) p231 (by first | exact q231 | exact odt | (have e_ := (Kd.S_reads' HO_5.out).1; omega))
                   obtain ⟨ve231_0, rfl, ge231_0⟩ := hMe231
                   have hv231_0 := hcc231 0 _ rfl
                   rw [Nat.add_zero, show ((Kd.slice 3 (Kd.int .i64))).sz = 1 from rfl, Nat.mul_one] at hv231_0
                   replace hv231_0 := Option.some.inj (hv231_0.symm.trans hx231_0)
                   rw [hv231_0] at ge231_0
                   have HL231_0 := Aside0.mk (show Kd.R (Kd.int .i64) 3 _ _ _ _ (rd_L1 x5_2 (ji86)) from ge231_0)
                   clear hv231_0 ge231_0
                   clear hcc231 hce231
                   have HR231_0 := Aside0.mk hi231_0
                   have HC231_0 := Aside0.mk hl231_0
                   clear hi231_0 hl231_0
                   replace p231 := eq_true p231
                   replace q231 := eq_true q231
                   go_wp2_with (first | (go_at_call 24; (with_reducible refine (slices_Concat_int_int_cat.calls _ _ (rd_L1 x5_2 (ji86)) _ _ (rd_L1 (rd_L4 l0 x14_1) x25_2) t232 _ ?side1 ?side2 ?side3 ?side4 A89.out).mono ?_); (case side1 => repeat (first | exact (by repeat (first | (with_reducible exact HR231_0.out) | (with_reducible refine Kd.C_alloc ?_ _) | (with_reducible refine Kd.C_drewN ?_ _) | (with_reducible refine Kd.C_drew ?_) | exact HR231_0.out)) | (with_reducible refine Kd.C_alloc ?_ _) | (with_reducible refine Kd.C_drewN ?_ _) | (with_reducible refine Kd.C_drew ?_))); (case side2 => exact HC231_0.out); (case side3 => repeat (first | exact (Kd.C_below HR178_0.out HB.out) | (with_reducible refine Kd.C_alloc ?_ _) | (with_reducible refine Kd.C_drewN ?_ _) | (with_reducible refine Kd.C_drew ?_))); (case side4 => exact HC178_0.out); rintro e w92 ⟨v233, rfl, ho0, hb⟩; have n0_ := Aside0.mk (Kd.S_elder' (by (with_reducible repeat (first | apply Kd.S_alloc | apply Kd.S_drewN | apply Kd.S_drew)); exact HO_5.out) (Kd.R_base ho0) hb); have n1_ := Aside0.mk (Kd.R_elder' (by (with_reducible repeat (first | apply Kd.R_alloc | apply Kd.R_drewN | apply Kd.R_drew)); exact HL231_0.out) (Kd.R_base ho0) hb); have n2_ := Aside0.mk (Kd.R_lower (Kd.R_new' ho0 (Kd.R_lt (by (with_reducible repeat (first | apply Kd.R_alloc | apply Kd.R_drewN | apply Kd.R_drew)); exact HL231_0.out))) (below_size (by repeat (first | (with_reducible first | exact HB.out | apply below_alloc | apply pw_below_drewN | apply below_drew1) | exact HB.out)))); have n3_ := Aside0.mk (Kd.C_below (by repeat (first | (with_reducible exact HR231_0.out) | (with_reducible refine Kd.C_alloc ?_ _) | (with_reducible refine Kd.C_drewN ?_ _) | (with_reducible refine Kd.C_drew ?_) | exact HR231_0.out)) hb); have n4_ := Aside0.mk (below_step (by repeat (first | (with_reducible first | exact HB.out | apply below_alloc | apply pw_below_drewN | apply below_drew1) | exact HB.out)) hb); clear HO_5; clear HL231_0; clear HR231_0; clear HB; have HO_5 := n0_; have HL231_0 := n1_; have HO234 := n2_; have HR231_0 := n3_; have HB := n4_; clear n0_ n1_ n2_ n3_ n4_; (try clear hb); (try clear hb2); (try clear hk); (try clear hi); (try clear ho0); have p90 : 0 ≤ ((ji86) : Int) := odt; have q90 : ((ji86) : Int) < ((x5_2.length : Int) : Int) := odt; obtain ⟨go90, co90, eo90, gb90, gl90, cl90, HG90⟩ := Kd.S_form HO_5.out (by omega); (first | cases eo90 | (injection eo90 with ea_ en_ ec_; (first | subst ea_ | (injection ea_ with ea_; subst ea_)); subst ec_; clear en_)); have GB90 := Aside0.mk gb90; have GG90 := Aside0.mk HG90; clear gb90 gl90 HG90; (first | simp only [add_plain] at hx231_0 | skip); obtain ⟨_, ce90, hcl90, hM90, hcc90, hfr90, _, _⟩ := Kd.S_elem HO_5.out [] ((ji86) : Int) p90 q90; obtain ⟨ve90_0, rfl, ge90_0⟩ := hM90; have hx90_0 := hcc90 0 _ rfl; have hf90_0 := hfr90 0; (try simp only [show ((Kd.slice 3 (Kd.int .i64))).sz = 1 from rfl, Nat.mul_one, Nat.add_zero] at hx90_0); (try simp only [show ((Kd.slice 3 (Kd.int .i64))).sz = 1 from rfl, Nat.mul_one, Nat.add_zero] at hf90_0); clear hcl90 hcc90 hfr90; (try clear hM90); replace p90 := eq_true p90; replace q90 := eq_true q90; have n_ := Aside0.mk (Kd.S_mono (ok' := (fun k_ => some k_ ≠ (v233 : Value).ownBlock)) HO_5.out (fun k_ hk => hk.2)); clear HO_5; have HO_5 := n_; clear n_; have HX93 := Aside0.mk (show Kd.S (Kd.slice 3 (Kd.int .i64)) 36 w92 w.heap.size (fun k_ => ((fun _ => True)) k_ ∧ ¬ ((fun k_ => some k_ = (v233 : Value).ownBlock)) k_) (.slice (some ⟨go90, 0, none⟩) x5_2.length co91) x5_2 from (by (with_reducible repeat (first | apply Kd.S_alloc | apply Kd.S_drewN | apply Kd.S_drew)); exact Kd.S_mono HO_5.out (fun k_ hk => ⟨trivial, fun e_ => hk e_⟩))); obtain ⟨oki93, ce93, hcl93, hM93, hcc93, hfr93, hoki93, hH93⟩ := Kd.S_elem HX93.out [] ((ji86) : Int) (odt) (by have h_ : ((ji86) : Int) < ((x5_2.length : Int) : Int) := odt; first | exact h_ | (have e_ := (Kd.S_reads' HO_5.out).1; omega) | simpa using h_); obtain ⟨ve93_0, rfl, ge93_0⟩ := hM93; have HP93 := Kd.S_seg hH93 (odt) (by have h_ : ((ji86) : Int) < ((x5_2.length : Int) : Int) := odt; first | exact h_ | (have e_ := (Kd.S_reads' HO_5.out).1; omega) | simpa using h_) (seg := [v233]) (j := 0) (show 1 ≤ 1 from by decide) (x' := t232) (Kd.M_row (Kd.R_mono (Kd.R_tight rfl (Kd.R_mono (ok' := fun k_ => ((fun _ => True)) k_ ∧ k_ ≠ go90) (Kd.R_apart' (HO234.out) (Kd.S_typed HO_5.out) (by decide)) (fun k_ hk => ⟨trivial, fun e_ => (hk.2) (by rw [e_]; rfl)⟩))) (fun _ h_ => Or.inr (h_)))) (fun _ hk => hk) (fun k_ hk_ => ((Kd.R_mono (ok' := fun k_ => ((fun _ => True)) k_ ∧ k_ ≠ go90) (Kd.R_apart' (HO234.out) (Kd.S_typed HO_5.out) (by decide)) (fun k_ hk => ⟨trivial, fun e_ => (hk.2) (by rw [e_]; rfl)⟩))).1 k_ hk_.symm); have hx93_0 := hcc93 0 _ rfl; (try simp only [show ((Kd.slice 3 (Kd.int .i64))).sz = 1 from rfl, Nat.mul_one, Nat.add_zero] at hx93_0); have hf93_0 := hfr93 0; (try simp only [show ((Kd.slice 3 (Kd.int .i64))).sz = 1 from rfl, Nat.mul_one, Nat.add_zero] at hf93_0); clear hcl93 hcc93 hfr93 hoki93 hH93; (try clear hM93); (try simp only [show ((Kd.slice 3 (Kd.int .i64))).sz = 1 from rfl, Nat.mul_one, Nat.add_zero] at HP93)) | ((with_reducible refine gate_store (t := 36) (p := 74) rfl ?_); refine store_event (t := 36) (p := 74) (v := ?vo_w94) (w1 := (w92.setCell ⟨go90, ((ji86) : Int).toNat, none⟩ (v233))) ?hg ?ho ?hn ?hr ?_; (case ho => rfl); (case hg => rfl); (case hn => rfl); (case hr => first | (go_simp; done) | (go_simp; rfl) | (obtain ⟨Az_, cz_, ez_⟩ := Kd.R_slice HO234.out; subst ez_; first | (go_simp; done) | (go_simp; rfl))); intro w94 hw; have hg : w92.grownBy w94 (some go90) := (by rw [hw]; exact HP93.2); have hp_ : Kd.S (Kd.slice 3 (Kd.int .i64)) 36 w94 w.heap.size (fun _ => True) (.slice (some ⟨go90, 0, none⟩) x5_2.length co91) y235 := (by rw [hw, Ny235.out]; exact HP93.1); clear HP93; have n0_ := Aside0.mk (hp_); have n1_ := Aside0.mk (Kd.R_after (v := (.slice (some ⟨go90, 0, none⟩) x5_2.length co91)) (v1 := (.slice (some ⟨go90, 0, none⟩) x5_2.length co91)) (ok := (fun k_ => some k_ ≠ (v233 : Value).ownBlock)) (by (with_reducible repeat (first | apply Kd.R_alloc | apply Kd.R_drewN | apply Kd.R_drew)); exact Kd.R_mono HL231_0.out (fun _ hk => ⟨hk.2, hk.1.2⟩)) hg (.inl rfl)); have n2_ := Aside0.mk ((by rw [hw]; exact below_set (HB.out) GB90.out : Below w.heap.size w w94)); clear HO_5; clear HL231_0; clear HB; clear HO234; have HO_5 := n0_; have HL231_0 := n1_; have HB := n2_; clear n0_ n1_ n2_; clear hg hw hp_))
                   go_roundg k2
                   case measure => have := HK1.out; have := HK2.out; omega
                   case rel => exact ⟨(y235), (wrap64 (x25_2 + 1)), (by first | rfl | (simp; done) | (simp [*]; done)), H', ⟨by have := HK1.out; have := HK2.out; omega⟩, ⟨by (with_reducible repeat (first | apply Kd.S_alloc | apply Kd.S_drewN | apply Kd.S_drew)); exact HO_5.out⟩, ⟨by repeat (first | (with_reducible first | exact HB.out | apply below_alloc | apply pw_below_drewN | apply below_drew1) | exact HB.out)⟩⟩
                  ·rw [if_neg c88] at H
                   exact absurd H (by simp)
                 ·rw [if_neg c87] at H
                  exact absurd H (by simp)
                ·rw [if_neg c85] at H
                 have c85b0 : decide (0 ≤ (wrap64 ((x5_2.length : Int) - 1))) = false := decide_eq_false c85
                 (try (have c85b1 : decide (0 ≤ (IntKind.i64.wrap ((x5_2.length : Int) - 1))) = false := by simp only [i64_w]; exact (decide_eq_false c85)))
                 clear c85
                 replace H := Option.bind_eq_some_iff.mp H
                 obtain ⟨t236, A950, H⟩ := H
                 replace H : (if x5_2.length < 5864062014805 then (piece_Whole.l1 k2 l1 (x5_2 ++ [t236]) true x14_1 (rd_L4 l0 x14_1) l0 (l0.length : Int) x14_1 (rd_L4 l0 x14_1) ((rd_L4 l0 x14_1).length : Int) (wrap64 (x25_2 + 1))) else (none)) = some r := H
                 have A95 := Aside0.mk A950
                 clear A950
                 by_cases c96 : x5_2.length < 5864062014805
                 ·rw [if_pos c96] at H
                  have LMc96 := Aside0.mk c96
                  clear c96
                  obtain ⟨y239, hy239⟩ : ∃ y_ : List (List Int), y_ = (x5_2 ++ [t236]) := ⟨_, rfl⟩
                  replace H : (piece_Whole.l1 k2 l1 y239 true x14_1 (rd_L4 l0 x14_1) l0 (l0.length : Int) x14_1 (rd_L4 l0 x14_1) ((rd_L4 l0 x14_1).length : Int) (wrap64 (x25_2 + 1))) = some r := by first | (rw [hy239]; with_reducible exact H) | (have H2_ := (Option.bind_some _ _).symm.trans H; rw [hy239]; with_reducible exact H2_) | (have H2_ := (Option.bind_some _ _).symm.trans H; with_reducible exact H2_) | with_reducible exact H | (rw [hy239]; exact H) | exact H
                  have Ny239 := Aside0.mk hy239
                  clear hy239
                  have H' := Aside0.mk H
                  clear H
                  have p178 : 0 ≤ (x25_2 : Int) := odt
                  have q178 : x25_2 < ((rd_L4 l0 x14_1).length : Int) := odt
                  obtain ⟨ad178, A178_0, c178_0, e178, hx178_0, hl178_0, hi178_0⟩ := at_L1 HR174_0.out x25_2 p178 q178
                  cases e178
                  replace hx178_0 := (HB.out.cell (World.block_lt_of_cell? w _ hx178_0)).trans hx178_0
                  have HR178_0 := Aside0.mk hi178_0
                  have HC178_0 := Aside0.mk hl178_0
                  clear hi178_0 hl178_0
                  replace p178 := eq_true p178
                  replace q178 := eq_true q178
                  obtain ⟨Ao97, co97, eo97⟩ := Kd.S_slice HO_5.out
                  subst eo97
                  go_wp2_with (first | ((with_reducible refine gate_callee (f := 18) rfl ?_); refine goesL_ (some 77) rfl rfl Try.func18 (by kernel_rfl) rfl #[.slice A178_0 (rd_L1 (rd_L4 l0 x14_1) x25_2).length c178_0] rfl (by (try simp only [List.map_toArray, List.map_cons, List.map_nil]); first | done | rfl | (simp only [List.length_drop, List.length_take]; rfl)) ?_; (with_reducible refine (slices_Clone_int_int.calls _ _ (rd_L1 (rd_L4 l0 x14_1) x25_2) t236 _ ?side1 ?side2 A95.out).mono ?_); (case side1 => repeat (first | exact (Kd.C_below HR178_0.out HB.out) | (with_reducible refine Kd.C_alloc ?_ _) | (with_reducible refine Kd.C_drewN ?_ _) | (with_reducible refine Kd.C_drew ?_))); (case side2 => exact HC178_0.out); rintro e w98 ⟨v237, rfl, ho0, hb⟩; refine ⟨_, rfl, ?_⟩; have n0_ := Aside0.mk (Kd.S_elder' (by (with_reducible repeat (first | apply Kd.S_alloc | apply Kd.S_drewN | apply Kd.S_drew)); exact HO_5.out) (Kd.R_base ho0) hb); have n1_ := Aside0.mk (Kd.R_lower ho0 (below_size (by repeat (first | (with_reducible first | exact HB.out | apply below_alloc | apply pw_below_drewN | apply below_drew1) | exact HB.out)))); have n2_ := Aside0.mk (below_step (by repeat (first | (with_reducible first | exact HB.out | apply below_alloc | apply pw_below_drewN | apply below_drew1) | exact HB.out)) hb); clear HO_5; clear HB; have HO_5 := n0_; have HO238 := n1_; have HB := n2_; clear n0_ n1_ n2_; (try clear hb); (try clear hb2); (try clear hk); (try clear hi); (try clear ho0); obtain ⟨Ao100, co100, eo100⟩ := Kd.R_slice HO238.out; subst eo100) | ((with_reducible refine gate_builtin (b := .append) (xs := #[.tmp 75, .tmp 78]) rfl ?_); (try (refine gate_guard (by rfl) ?_; dsimp only)); at_builtin; refine Kd.S_append (Kd.slice 3 (Kd.int .i64)) (w0 := w) w.heap.size rfl (.tmp 75) (.tmp 78) 27 36 (.slice none 0 0) 24 rfl Try.underlying27 info36 rfl (by decide) (by omega) (.slice Ao97 x5_2.length co97) x5_2 t236 [.slice Ao100 t236.length co100] (fun _ => True) (fun k_ => some k_ = (.slice Ao100 t236.length co100 : Value).ownBlock) rfl rfl ?aP (fun k_ hk_ => ((Kd.R_mono (ok' := fun k_ => ((fun _ => True)) k_ ∧ some k_ ≠ (.slice Ao97 x5_2.length co97 : Value).ownBlock) (Kd.R_apart' (HO238.out) (Kd.S_typed HO_5.out) (by decide)) (fun k_ hk => ⟨trivial, hk.2⟩))).1 k_ hk_.symm) ?aF ?aO ?aB ?aS ?aL ?_; (case aP => exact Kd.M_row (Kd.R_mono (Kd.R_tight rfl (Kd.R_mono (ok' := fun k_ => ((fun _ => True)) k_ ∧ some k_ ≠ (.slice Ao97 x5_2.length co97 : Value).ownBlock) (Kd.R_apart' (HO238.out) (Kd.S_typed HO_5.out) (by decide)) (fun k_ hk => ⟨trivial, hk.2⟩))) (fun _ h_ => h_))); (case aB => exact (by repeat (first | (with_reducible first | exact HB.out | apply below_alloc | apply pw_below_drewN | apply below_drew1) | exact HB.out))); (case aF => exact (fun _ _ => trivial)); (case aO => exact (by (with_reducible repeat (first | apply Kd.S_alloc | apply Kd.S_drewN | apply Kd.S_drew)); exact Kd.S_mono HO_5.out (fun k_ hk => ⟨trivial, fun e_ => hk.2 e_⟩))); (case aS => exact (below_size (by repeat (first | (with_reducible first | exact HB.out | apply below_alloc | apply pw_below_drewN | apply below_drew1) | exact HB.out)))); (case aL => have := LMc96.out; omega); intro v240 w99 ho hb hg hat; rw [← Ny239.out] at ho; have n0_ := Aside0.mk (hb); have n1_ := Aside0.mk (ho); clear HB; clear HO_5; clear HO238; have HB := n0_; have HO241 := n1_; clear n0_ n1_; clear ho hb hg hat))
                  go_roundg k2
                  case measure => have := HK1.out; have := HK2.out; omega
                  case rel => exact ⟨(y239), (wrap64 (x25_2 + 1)), (by first | rfl | (simp; done) | (simp [*]; done)), H', ⟨by have := HK1.out; have := HK2.out; omega⟩, ⟨by (with_reducible repeat (first | apply Kd.S_alloc | apply Kd.S_drewN | apply Kd.S_drew)); exact HO241.out⟩, ⟨by repeat (first | (with_reducible first | exact HB.out | apply below_alloc | apply pw_below_drewN | apply below_drew1) | exact HB.out)⟩⟩
                 ·rw [if_neg c96] at H
                  exact absurd H (by simp)
               ·replace c84 := Bool.eq_false_iff.mpr c84
                subst c84
                have H1 : ((slices_Clone_int_int.f (rd_L1 (rd_L4 l0 x14_1) x25_2)).bind fun t242 => (if x5_2.length < 5864062014805 then (piece_Whole.l1 k2 l1 (x5_2 ++ [t242]) false x14_1 (rd_L4 l0 x14_1) l0 (l0.length : Int) x14_1 (rd_L4 l0 x14_1) ((rd_L4 l0 x14_1).length : Int) (wrap64 (x25_2 + 1))) else (none))) = some r := by rw [if_neg (show ¬ (false = true) by decide)] at H; exact H
                clear H
                have H := H1
                clear H1
                replace H := Option.bind_eq_some_iff.mp H
                obtain ⟨t242, A1010, H⟩ := H
                replace H : (if x5_2.length < 5864062014805 then (piece_Whole.l1 k2 l1 (x5_2 ++ [t242]) false x14_1 (rd_L4 l0 x14_1) l0 (l0.length : Int) x14_1 (rd_L4 l0 x14_1) ((rd_L4 l0 x14_1).length : Int) (wrap64 (x25_2 + 1))) else (none)) = some r := H
                have A101 := Aside0.mk A1010
                clear A1010
                by_cases c102 : x5_2.length < 5864062014805
                ·rw [if_pos c102] at H
                 have LMc102 := Aside0.mk c102
                 clear c102
                 obtain ⟨y245, hy245⟩ : ∃ y_ : List (List Int), y_ = (x5_2 ++ [t242]) := ⟨_, rfl⟩
                 replace H : (piece_Whole.l1 k2 l1 y245 false x14_1 (rd_L4 l0 x14_1) l0 (l0.length : Int) x14_1 (rd_L4 l0 x14_1) ((rd_L4 l0 x14_1).length : Int) (wrap64 (x25_2 + 1))) = some r := by first | (rw [hy245]; with_reducible exact H) | (have H2_ := (Option.bind_some _ _).symm.trans H; rw [hy245]; with_reducible exact H2_) | (have H2_ := (Option.bind_some _ _).symm.trans H; with_reducible exact H2_) | with_reducible exact H | (rw [hy245]; exact H) | exact H
                 have Ny245 := Aside0.mk hy245
                 clear hy245
                 have H' := Aside0.mk H
                 clear H
                 have p178 : 0 ≤ (x25_2 : Int) := odt
                 have q178 : x25_2 < ((rd_L4 l0 x14_1).length : Int) := odt
                 obtain ⟨ad178, A178_0, c178_0, e178, hx178_0, hl178_0, hi178_0⟩ := at_L1 HR174_0.out x25_2 p178 q178
                 cases e178
                 replace hx178_0 := (HB.out.cell (World.block_lt_of_cell? w _ hx178_0)).trans hx178_0
                 have HR178_0 := Aside0.mk hi178_0
                 have HC178_0 := Aside0.mk hl178_0
                 clear hi178_0 hl178_0
                 replace p178 := eq_true p178
                 replace q178 := eq_true q178
                 obtain ⟨Ao103, co103, eo103⟩ := Kd.S_slice HO_5.out
                 subst eo103
                 go_wp2_with (first | ((with_reducible refine gate_callee (f := 18) rfl ?_); refine goesL_ (some 77) rfl rfl Try.func18 (by kernel_rfl) rfl #[.slice A178_0 (rd_L1 (rd_L4 l0 x14_1) x25_2).length c178_0] rfl (by (try simp only [List.map_toArray, List.map_cons, List.map_nil]); first | done | rfl | (simp only [List.length_drop, List.length_take]; rfl)) ?_; (with_reducible refine (slices_Clone_int_int.calls _ _ (rd_L1 (rd_L4 l0 x14_1) x25_2) t242 _ ?side1 ?side2 A101.out).mono ?_); (case side1 => repeat (first | exact (Kd.C_below HR178_0.out HB.out) | (with_reducible refine Kd.C_alloc ?_ _) | (with_reducible refine Kd.C_drewN ?_ _) | (with_reducible refine Kd.C_drew ?_))); (case side2 => exact HC178_0.out); rintro e w104 ⟨v243, rfl, ho0, hb⟩; refine ⟨_, rfl, ?_⟩; have n0_ := Aside0.mk (Kd.S_elder' (by (with_reducible repeat (first | apply Kd.S_alloc | apply Kd.S_drewN | apply Kd.S_drew)); exact HO_5.out) (Kd.R_base ho0) hb); have n1_ := Aside0.mk (Kd.R_lower ho0 (below_size (by repeat (first | (with_reducible first | exact HB.out | apply below_alloc | apply pw_below_drewN | apply below_drew1) | exact HB.out)))); have n2_ := Aside0.mk (below_step (by repeat (first | (with_reducible first | exact HB.out | apply below_alloc | apply pw_below_drewN | apply below_drew1) | exact HB.out)) hb); clear HO_5; clear HB; have HO_5 := n0_; have HO244 := n1_; have HB := n2_; clear n0_ n1_ n2_; (try clear hb); (try clear hb2); (try clear hk); (try clear hi); (try clear ho0); obtain ⟨Ao106, co106, eo106⟩ := Kd.R_slice HO244.out; subst eo106) | ((with_reducible refine gate_builtin (b := .append) (xs := #[.tmp 75, .tmp 78]) rfl ?_); (try (refine gate_guard (by rfl) ?_; dsimp only)); at_builtin; refine Kd.S_append (Kd.slice 3 (Kd.int .i64)) (w0 := w) w.heap.size rfl (.tmp 75) (.tmp 78) 27 36 (.slice none 0 0) 24 rfl Try.underlying27 info36 rfl (by decide) (by omega) (.slice Ao103 x5_2.length co103) x5_2 t242 [.slice Ao106 t242.length co106] (fun _ => True) (fun k_ => some k_ = (.slice Ao106 t242.length co106 : Value).ownBlock) rfl rfl ?aP (fun k_ hk_ => ((Kd.R_mono (ok' := fun k_ => ((fun _ => True)) k_ ∧ some k_ ≠ (.slice Ao103 x5_2.length co103 : Value).ownBlock) (Kd.R_apart' (HO244.out) (Kd.S_typed HO_5.out) (by decide)) (fun k_ hk => ⟨trivial, hk.2⟩))).1 k_ hk_.symm) ?aF ?aO ?aB ?aS ?aL ?_; (case aP => exact Kd.M_row (Kd.R_mono (Kd.R_tight rfl (Kd.R_mono (ok' := fun k_ => ((fun _ => True)) k_ ∧ some k_ ≠ (.slice Ao103 x5_2.length co103 : Value).ownBlock) (Kd.R_apart' (HO244.out) (Kd.S_typed HO_5.out) (by decide)) (fun k_ hk => ⟨trivial, hk.2⟩))) (fun _ h_ => h_))); (case aB => exact (by repeat (first | (with_reducible first | exact HB.out | apply below_alloc | apply pw_below_drewN | apply below_drew1) | exact HB.out))); (case aF => exact (fun _ _ => trivial)); (case aO => exact (by (with_reducible repeat (first | apply Kd.S_alloc | apply Kd.S_drewN | apply Kd.S_drew)); exact Kd.S_mono HO_5.out (fun k_ hk => ⟨trivial, fun e_ => hk.2 e_⟩))); (case aS => exact (below_size (by repeat (first | (with_reducible first | exact HB.out | apply below_alloc | apply pw_below_drewN | apply below_drew1) | exact HB.out)))); (case aL => have := LMc102.out; omega); intro v246 w105 ho hb hg hat; rw [← Ny245.out] at ho; have n0_ := Aside0.mk (hb); have n1_ := Aside0.mk (ho); clear HB; clear HO_5; clear HO244; have HB := n0_; have HO247 := n1_; clear n0_ n1_; clear ho hb hg hat))
                 go_roundg k2
                 case measure => have := HK1.out; have := HK2.out; omega
                 case rel => exact ⟨(y245), (wrap64 (x25_2 + 1)), (by first | rfl | (simp; done) | (simp [*]; done)), H', ⟨by have := HK1.out; have := HK2.out; omega⟩, ⟨by (with_reducible repeat (first | apply Kd.S_alloc | apply Kd.S_drewN | apply Kd.S_drew)); exact HO247.out⟩, ⟨by repeat (first | (with_reducible first | exact HB.out | apply below_alloc | apply pw_below_drewN | apply below_drew1) | exact HB.out)⟩⟩
                ·rw [if_neg c102] at H
                 exact absurd H (by simp)
              ·rw [if_neg c83] at H
               have c83b0 : (x25_2 == 0) = false := beq_eq_false_iff_ne.mpr c83
               have c83b1 : (x25_2 != 0) = true := bne_iff_ne.mpr c83
               replace H := Option.bind_eq_some_iff.mp H
               obtain ⟨t248, A1070, H⟩ := H
               replace H : (if x5_2.length < 5864062014805 then (piece_Whole.l1 k2 l1 (x5_2 ++ [t248]) x6_1 x14_1 (rd_L4 l0 x14_1) l0 (l0.length : Int) x14_1 (rd_L4 l0 x14_1) ((rd_L4 l0 x14_1).length : Int) (wrap64 (x25_2 + 1))) else (none)) = some r := H
               have A107 := Aside0.mk A1070
               clear A1070
               by_cases c108 : x5_2.length < 5864062014805
               ·rw [if_pos c108] at H
                have LMc108 := Aside0.mk c108
                clear c108
                obtain ⟨y251, hy251⟩ : ∃ y_ : List (List Int), y_ = (x5_2 ++ [t248]) := ⟨_, rfl⟩
                replace H : (piece_Whole.l1 k2 l1 y251 x6_1 x14_1 (rd_L4 l0 x14_1) l0 (l0.length : Int) x14_1 (rd_L4 l0 x14_1) ((rd_L4 l0 x14_1).length : Int) (wrap64 (x25_2 + 1))) = some r := by first | (rw [hy251]; with_reducible exact H) | (have H2_ := (Option.bind_some _ _).symm.trans H; rw [hy251]; with_reducible exact H2_) | (have H2_ := (Option.bind_some _ _).symm.trans H; with_reducible exact H2_) | with_reducible exact H | (rw [hy251]; exact H) | exact H
                have Ny251 := Aside0.mk hy251
                clear hy251
                have H' := Aside0.mk H
                clear H
                have p178 : 0 ≤ (x25_2 : Int) := odt
                have q178 : x25_2 < ((rd_L4 l0 x14_1).length : Int) := odt
                obtain ⟨ad178, A178_0, c178_0, e178, hx178_0, hl178_0, hi178_0⟩ := at_L1 HR174_0.out x25_2 p178 q178
                cases e178
                replace hx178_0 := (HB.out.cell (World.block_lt_of_cell? w _ hx178_0)).trans hx178_0
                have HR178_0 := Aside0.mk hi178_0
                have HC178_0 := Aside0.mk hl178_0
                clear hi178_0 hl178_0
                replace p178 := eq_true p178
                replace q178 := eq_true q178
                obtain ⟨Ao109, co109, eo109⟩ := Kd.S_slice HO_5.out
                subst eo109
                go_wp2_with (first | ((with_reducible refine gate_callee (f := 18) rfl ?_); refine goesL_ (some 77) rfl rfl Try.func18 (by kernel_rfl) rfl #[.slice A178_0 (rd_L1 (rd_L4 l0 x14_1) x25_2).length c178_0] rfl (by (try simp only [List.map_toArray, List.map_cons, List.map_nil]); first | done | rfl | (simp only [List.length_drop, List.length_take]; rfl)) ?_; (with_reducible refine (slices_Clone_int_int.calls _ _ (rd_L1 (rd_L4 l0 x14_1) x25_2) t248 _ ?side1 ?side2 A107.out).mono ?_); (case side1 => repeat (first | exact (Kd.C_below HR178_0.out HB.out) | (with_reducible refine Kd.C_alloc ?_ _) | (with_reducible refine Kd.C_drewN ?_ _) | (with_reducible refine Kd.C_drew ?_))); (case side2 => exact HC178_0.out); rintro e w110 ⟨v249, rfl, ho0, hb⟩; refine ⟨_, rfl, ?_⟩; have n0_ := Aside0.mk (Kd.S_elder' (by (with_reducible repeat (first | apply Kd.S_alloc | apply Kd.S_drewN | apply Kd.S_drew)); exact HO_5.out) (Kd.R_base ho0) hb); have n1_ := Aside0.mk (Kd.R_lower ho0 (below_size (by repeat (first | (with_reducible first | exact HB.out | apply below_alloc | apply pw_below_drewN | apply below_drew1) | exact HB.out)))); have n2_ := Aside0.mk (below_step (by repeat (first | (with_reducible first | exact HB.out | apply below_alloc | apply pw_below_drewN | apply below_drew1) | exact HB.out)) hb); clear HO_5; clear HB; have HO_5 := n0_; have HO250 := n1_; have HB := n2_; clear n0_ n1_ n2_; (try clear hb); (try clear hb2); (try clear hk); (try clear hi); (try clear ho0); obtain ⟨Ao112, co112, eo112⟩ := Kd.R_slice HO250.out; subst eo112) | ((with_reducible refine gate_builtin (b := .append) (xs := #[.tmp 75, .tmp 78]) rfl ?_); (try (refine gate_guard (by rfl) ?_; dsimp only)); at_builtin; refine Kd.S_append (Kd.slice 3 (Kd.int .i64)) (w0 := w) w.heap.size rfl (.tmp 75) (.tmp 78) 27 36 (.slice none 0 0) 24 rfl Try.underlying27 info36 rfl (by decide) (by omega) (.slice Ao109 x5_2.length co109) x5_2 t248 [.slice Ao112 t248.length co112] (fun _ => True) (fun k_ => some k_ = (.slice Ao112 t248.length co112 : Value).ownBlock) rfl rfl ?aP (fun k_ hk_ => ((Kd.R_mono (ok' := fun k_ => ((fun _ => True)) k_ ∧ some k_ ≠ (.slice Ao109 x5_2.length co109 : Value).ownBlock) (Kd.R_apart' (HO250.out) (Kd.S_typed HO_5.out) (by decide)) (fun k_ hk => ⟨trivial, hk.2⟩))).1 k_ hk_.symm) ?aF ?aO ?aB ?aS ?aL ?_; (case aP => exact Kd.M_row (Kd.R_mono (Kd.R_tight rfl (Kd.R_mono (ok' := fun k_ => ((fun _ => True)) k_ ∧ some k_ ≠ (.slice Ao109 x5_2.length co109 : Value).ownBlock) (Kd.R_apart' (HO250.out) (Kd.S_typed HO_5.out) (by decide)) (fun k_ hk => ⟨trivial, hk.2⟩))) (fun _ h_ => h_))); (case aB => exact (by repeat (first | (with_reducible first | exact HB.out | apply below_alloc | apply pw_below_drewN | apply below_drew1) | exact HB.out))); (case aF => exact (fun _ _ => trivial)); (case aO => exact (by (with_reducible repeat (first | apply Kd.S_alloc | apply Kd.S_drewN | apply Kd.S_drew)); exact Kd.S_mono HO_5.out (fun k_ hk => ⟨trivial, fun e_ => hk.2 e_⟩))); (case aS => exact (below_size (by repeat (first | (with_reducible first | exact HB.out | apply below_alloc | apply pw_below_drewN | apply below_drew1) | exact HB.out)))); (case aL => have := LMc108.out; omega); intro v252 w111 ho hb hg hat; rw [← Ny251.out] at ho; have n0_ := Aside0.mk (hb); have n1_ := Aside0.mk (ho); clear HB; clear HO_5; clear HO250; have HB := n0_; have HO253 := n1_; clear n0_ n1_; clear ho hb hg hat))
                go_roundg k2
                case measure => have := HK1.out; have := HK2.out; omega
                case rel => exact ⟨(y251), (wrap64 (x25_2 + 1)), (by first | rfl | (simp; done) | (simp [*]; done)), H', ⟨by have := HK1.out; have := HK2.out; omega⟩, ⟨by (with_reducible repeat (first | apply Kd.S_alloc | apply Kd.S_drewN | apply Kd.S_drew)); exact HO253.out⟩, ⟨by repeat (first | (with_reducible first | exact HB.out | apply below_alloc | apply pw_below_drewN | apply below_drew1) | exact HB.out)⟩⟩
               ·rw [if_neg c108] at H
                exact absurd H (by simp)
            ·rw [if_neg c10] at H
             have c10b0 : (x25_2 == (wrap64 (((rd_L4 l0 x14_1).length : Int) - 1))) = false := beq_eq_false_iff_ne.mpr c10
             have c10b1 : (x25_2 != (wrap64 (((rd_L4 l0 x14_1).length : Int) - 1))) = true := bne_iff_ne.mpr c10
             (try (have c10b2 : (x25_2 == (IntKind.i64.wrap (((rd_L4 l0 x14_1).length : Int) - 1))) = false := by simp only [i64_w]; exact (beq_eq_false_iff_ne.mpr c10)))
             (try (have c10b3 : (x25_2 != (IntKind.i64.wrap (((rd_L4 l0 x14_1).length : Int) - 1))) = true := by simp only [i64_w]; exact (bne_iff_ne.mpr c10)))
             by_cases c113 : x25_2 = 0
             ·rw [if_pos c113] at H
              have c113b0 : (x25_2 == 0) = true := beq_iff_eq.mpr c113
              have c113b1 : (x25_2 != 0) = false := bne_eq_false_iff_eq.mpr c113
              clear c113
              by_cases c114 : x6_1 = true
              ·subst c114
               have H1 : (if (wrap64 ((x5_2.length : Int) - 1)) ≥ 0 then (if 0 ≤ (wrap64 ((x5_2.length : Int) - 1)) then (if (wrap64 ((x5_2.length : Int) - 1)) < (x5_2.length : Int) then ((slices_Concat_int_int_cat.f (rd_L1 x5_2 (wrap64 ((x5_2.length : Int) - 1))) (rd_L1 (rd_L4 l0 x14_1) x25_2)).bind fun t255 => (piece_Whole.l1 k2 l1 (x5_2.set ((wrap64 ((x5_2.length : Int) - 1)) : Int).toNat t255) true x14_1 (rd_L4 l0 x14_1) l0 (l0.length : Int) x14_1 (rd_L4 l0 x14_1) ((rd_L4 l0 x14_1).length : Int) (wrap64 (x25_2 + 1)))) else (none)) else (none)) else ((slices_Clone_int_int.f (rd_L1 (rd_L4 l0 x14_1) x25_2)).bind fun t259 => (if x5_2.length < 5864062014805 then (piece_Whole.l1 k2 l1 (x5_2 ++ [t259]) true x14_1 (rd_L4 l0 x14_1) l0 (l0.length : Int) x14_1 (rd_L4 l0 x14_1) ((rd_L4 l0 x14_1).length : Int) (wrap64 (x25_2 + 1))) else (none)))) = some r := by rw [if_pos rfl] at H; exact H
               clear H
               have H := H1
               clear H1
               by_cases c115 : (wrap64 ((x5_2.length : Int) - 1)) ≥ 0
               ·rw [if_pos c115] at H
                have c115b0 : decide (0 ≤ (wrap64 ((x5_2.length : Int) - 1))) = true := decide_eq_true c115
                (try (have c115b1 : decide (0 ≤ (IntKind.i64.wrap ((x5_2.length : Int) - 1))) = true := by simp only [i64_w]; exact (decide_eq_true c115)))
                clear c115
                obtain ⟨ji116, hji116⟩ : ∃ j_ : Int, (wrap64 ((x5_2.length : Int) - 1)) = j_ := ⟨_, rfl⟩
                replace H : (if 0 ≤ (ji116) then (if (ji116) < (x5_2.length : Int) then ((slices_Concat_int_int_cat.f (rd_L1 x5_2 (ji116)) (rd_L1 (rd_L4 l0 x14_1) x25_2)).bind fun t255 => (piece_Whole.l1 k2 l1 (x5_2.set ((ji116) : Int).toNat t255) true x14_1 (rd_L4 l0 x14_1) l0 (l0.length : Int) x14_1 (rd_L4 l0 x14_1) ((rd_L4 l0 x14_1).length : Int) (wrap64 (x25_2 + 1)))) else (none)) else (none)) = some r := by first | (rw [hji116] at H; exact H) | (simp only [hji116] at H ⊢; exact H)
                (try rw [hji116] at c115b0)
                have hji116w : (IntKind.i64.wrap ((x5_2.length : Int) - 1)) = ji116 := (i64_w _).trans hji116
                by_cases c117 : 0 ≤ (ji116)
                ·rw [if_pos c117] at H
                 have c117b0 : decide (0 ≤ (ji116)) = true := decide_eq_true c117
                 clear c117
                 by_cases c118 : (ji116) < (x5_2.length : Int)
                 ·rw [if_pos c118] at H
                  have c118b0 : decide ((ji116) < (x5_2.length : Int)) = true := decide_eq_true c118
                  clear c118
                  replace H := Option.bind_eq_some_iff.mp H
                  obtain ⟨t255, A1190, H⟩ := H
                  replace H : (piece_Whole.l1 k2 l1 (x5_2.set ((ji116) : Int).toNat t255) true x14_1 (rd_L4 l0 x14_1) l0 (l0.length : Int) x14_1 (rd_L4 l0 x14_1) ((rd_L4 l0 x14_1).length : Int) (wrap64 (x25_2 + 1))) = some r := H
                  have A119 := Aside0.mk A1190
                  clear A1190
                  obtain ⟨y258, hy258⟩ : ∃ y_ : List (List Int), y_ = (x5_2.set ((ji116) : Int).toNat t255) := ⟨_, rfl⟩
                  replace H : (piece_Whole.l1 k2 l1 y258 true x14_1 (rd_L4 l0 x14_1) l0 (l0.length : Int) x14_1 (rd_L4 l0 x14_1) ((rd_L4 l0 x14_1).length : Int) (wrap64 (x25_2 + 1))) = some r := by first | (rw [hy258]; with_reducible exact H) | (have H2_ := (Option.bind_some _ _).symm.trans H; rw [hy258]; with_reducible exact H2_) | (have H2_ := (Option.bind_some _ _).symm.trans H; with_reducible exact H2_) | with_reducible exact H | (rw [hy258]; exact H) | exact H
                  have Ny258 := Aside0.mk hy258
                  clear hy258
                  have H' := Aside0.mk H
                  clear H
                  have p178 : 0 ≤ (x25_2 : Int) := odt
                  have q178 : x25_2 < ((rd_L4 l0 x14_1).length : Int) := odt
                  obtain ⟨ad178, A178_0, c178_0, e178, hx178_0, hl178_0, hi178_0⟩ := at_L1 HR174_0.out x25_2 p178 q178
                  cases e178
                  replace hx178_0 := (HB.out.cell (World.block_lt_of_cell? w _ hx178_0)).trans hx178_0
                  have HR178_0 := Aside0.mk hi178_0
                  have HC178_0 := Aside0.mk hl178_0
                  clear hi178_0 hl178_0
                  replace p178 := eq_true p178
                  replace q178 := eq_true q178
                  obtain ⟨Ao121, co121, eo121⟩ := Kd.S_slice HO_5.out
                  subst eo121
                  have p254 : 0 ≤ ((ji116) : Int) := odt
                  have q254 : (ji116) < (x5_2.length : Int) := odt
                  obtain ⟨ad254, A254_0, c254_0, e254, hx254_0, hl254_0, hi254_0⟩ := at_L1 (Kd.S_reads' HO_5.out).2.2 (ji116) p254 q254
                  cases e254
                  obtain ⟨ce254, hce254, hMe254, hcc254⟩ := Kd.S_get HO_5.out [] (ji116) p254 (by first | exact q254 | exact odt | (have e_ := (Kd.S_reads' HO_5.out).1; omega))
                  obtain ⟨ve254_0, rfl, ge254_0⟩ := hMe254
                  have hv254_0 := hcc254 0 _ rfl
                  rw [Nat.add_zero, show ((Kd.slice 3 (Kd.int .i64))).sz = 1 from rfl, Nat.mul_one] at hv254_0
                  replace hv254_0 := Option.some.inj (hv254_0.symm.trans hx254_0)
                  rw [hv254_0] at ge254_0
                  have HL254_0 := Aside0.mk (show Kd.R (Kd.int .i64) 3 _ _ _ _ (rd_L1 x5_2 (ji116)) from ge254_0)
                  clear hv254_0 ge254_0
                  clear hcc254 hce254
                  have HR254_0 := Aside0.mk hi254_0
                  have HC254_0 := Aside0.mk hl254_0
                  clear hi254_0 hl254_0
                  replace p254 := eq_true p254
                  replace q254 := eq_true q254
                  go_wp2_with (first | (go_at_call 24; (with_reducible refine (slices_Concat_int_int_cat.calls _ _ (rd_L1 x5_2 (ji116)) _ _ (rd_L1 (rd_L4 l0 x14_1) x25_2) t255 _ ?side1 ?side2 ?side3 ?side4 A119.out).mono ?_); (case side1 => repeat (first | exact (by repeat (first | (with_reducible exact HR254_0.out) | (with_reducible refine Kd.C_alloc ?_ _) | (with_reducible refine Kd.C_drewN ?_ _) | (with_reducible refine Kd.C_drew ?_) | exact HR254_0.out)) | (with_reducible refine Kd.C_alloc ?_ _) | (with_reducible refine Kd.C_drewN ?_ _) | (with_reducible refine Kd.C_drew ?_))); (case side2 => exact HC254_0.out); (case side3 => repeat (first | exact (Kd.C_below HR178_0.out HB.out) | (with_reducible refine Kd.C_alloc ?_ _) | (with_reducible refine Kd.C_drewN ?_ _) | (with_reducible refine Kd.C_drew ?_))); (case side4 => exact HC178_0.out); rintro e w122 ⟨v256, rfl, ho0, hb⟩; have n0_ := Aside0.mk (Kd.S_elder' (by (with_reducible repeat (first | apply Kd.S_alloc | apply Kd.S_drewN | apply Kd.S_drew)); exact HO_5.out) (Kd.R_base ho0) hb); have n1_ := Aside0.mk (Kd.R_elder' (by (with_reducible repeat (first | apply Kd.R_alloc | apply Kd.R_drewN | apply Kd.R_drew)); exact HL254_0.out) (Kd.R_base ho0) hb); have n2_ := Aside0.mk (Kd.R_lower (Kd.R_new' ho0 (Kd.R_lt (by (with_reducible repeat (first | apply Kd.R_alloc | apply Kd.R_drewN | apply Kd.R_drew)); exact HL254_0.out))) (below_size (by repeat (first | (with_reducible first | exact HB.out | apply below_alloc | apply pw_below_drewN | apply below_drew1) | exact HB.out)))); have n3_ := Aside0.mk (Kd.C_below (by repeat (first | (with_reducible exact HR254_0.out) | (with_reducible refine Kd.C_alloc ?_ _) | (with_reducible refine Kd.C_drewN ?_ _) | (with_reducible refine Kd.C_drew ?_) | exact HR254_0.out)) hb); have n4_ := Aside0.mk (below_step (by repeat (first | (with_reducible first | exact HB.out | apply below_alloc | apply pw_below_drewN | apply below_drew1) | exact HB.out)) hb); clear HO_5; clear HL254_0; clear HR254_0; clear HB; have HO_5 := n0_; have HL254_0 := n1_; have HO257 := n2_; have HR254_0 := n3_; have HB := n4_; clear n0_ n1_ n2_ n3_ n4_; (try clear hb); (try clear hb2); (try clear hk); (try clear hi); (try clear ho0); have p120 : 0 ≤ ((ji116) : Int) := odt; have q120 : ((ji116) : Int) < ((x5_2.length : Int) : Int) := odt; obtain ⟨go120, co120, eo120, gb120, gl120, cl120, HG120⟩ := Kd.S_form HO_5.out (by omega); (first | cases eo120 | (injection eo120 with ea_ en_ ec_; (first | subst ea_ | (injection ea_ with ea_; subst ea_)); subst ec_; clear en_)); have GB120 := Aside0.mk gb120; have GG120 := Aside0.mk HG120; clear gb120 gl120 HG120; (first | simp only [add_plain] at hx254_0 | skip); obtain ⟨_, ce120, hcl120, hM120, hcc120, hfr120, _, _⟩ := Kd.S_elem HO_5.out [] ((ji116) : Int) p120 q120; obtain ⟨ve120_0, rfl, ge120_0⟩ := hM120; have hx120_0 := hcc120 0 _ rfl; have hf120_0 := hfr120 0; (try simp only [show ((Kd.slice 3 (Kd.int .i64))).sz = 1 from rfl, Nat.mul_one, Nat.add_zero] at hx120_0); (try simp only [show ((Kd.slice 3 (Kd.int .i64))).sz = 1 from rfl, Nat.mul_one, Nat.add_zero] at hf120_0); clear hcl120 hcc120 hfr120; (try clear hM120); replace p120 := eq_true p120; replace q120 := eq_true q120; have n_ := Aside0.mk (Kd.S_mono (ok' := (fun k_ => some k_ ≠ (v256 : Value).ownBlock)) HO_5.out (fun k_ hk => hk.2)); clear HO_5; have HO_5 := n_; clear n_; have HX123 := Aside0.mk (show Kd.S (Kd.slice 3 (Kd.int .i64)) 36 w122 w.heap.size (fun k_ => ((fun _ => True)) k_ ∧ ¬ ((fun k_ => some k_ = (v256 : Value).ownBlock)) k_) (.slice (some ⟨go120, 0, none⟩) x5_2.length co121) x5_2 from (by (with_reducible repeat (first | apply Kd.S_alloc | apply Kd.S_drewN | apply Kd.S_drew)); exact Kd.S_mono HO_5.out (fun k_ hk => ⟨trivial, fun e_ => hk e_⟩))); obtain ⟨oki123, ce123, hcl123, hM123, hcc123, hfr123, hoki123, hH123⟩ := Kd.S_elem HX123.out [] ((ji116) : Int) (odt) (by have h_ : ((ji116) : Int) < ((x5_2.length : Int) : Int) := odt; first | exact h_ | (have e_ := (Kd.S_reads' HO_5.out).1; omega) | simpa using h_); obtain ⟨ve123_0, rfl, ge123_0⟩ := hM123; have HP123 := Kd.S_seg hH123 (odt) (by have h_ : ((ji116) : Int) < ((x5_2.length : Int) : Int) := odt; first | exact h_ | (have e_ := (Kd.S_reads' HO_5.out).1; omega) | simpa using h_) (seg := [v256]) (j := 0) (show 1 ≤ 1 from by decide) (x' := t255) (Kd.M_row (Kd.R_mono (Kd.R_tight rfl (Kd.R_mono (ok' := fun k_ => ((fun _ => True)) k_ ∧ k_ ≠ go120) (Kd.R_apart' (HO257.out) (Kd.S_typed HO_5.out) (by decide)) (fun k_ hk => ⟨trivial, fun e_ => (hk.2) (by rw [e_]; rfl)⟩))) (fun _ h_ => Or.inr (h_)))) (fun _ hk => hk) (fun k_ hk_ => ((Kd.R_mono (ok' := fun k_ => ((fun _ => True)) k_ ∧ k_ ≠ go120) (Kd.R_apart' (HO257.out) (Kd.S_typed HO_5.out) (by decide)) (fun k_ hk => ⟨trivial, fun e_ => (hk.2) (by rw [e_]; rfl)⟩))).1 k_ hk_.symm); have hx123_0 := hcc123 0 _ rfl; (try simp only [show ((Kd.slice 3 (Kd.int .i64))).sz = 1 from rfl, Nat.mul_one, Nat.add_zero] at hx123_0); have hf123_0 := hfr123 0; (try simp only [show ((Kd.slice 3 (Kd.int .i64))).sz = 1 from rfl, Nat.mul_one, Nat.add_zero] at hf123_0); clear hcl123 hcc123 hfr123 hoki123 hH123; (try clear hM123); (try simp only [show ((Kd.slice 3 (Kd.int .i64))).sz = 1 from rfl, Nat.mul_one, Nat.add_zero] at HP123)) | ((with_reducible refine gate_store (t := 36) (p := 74) rfl ?_); refine store_event (t := 36) (p := 74) (v := ?vo_w124) (w1 := (w122.setCell ⟨go120, ((ji116) : Int).toNat, none⟩ (v256))) ?hg ?ho ?hn ?hr ?_; (case ho => rfl); (case hg => rfl); (case hn => rfl); (case hr => first | (go_simp; done) | (go_simp; rfl) | (obtain ⟨Az_, cz_, ez_⟩ := Kd.R_slice HO257.out; subst ez_; first | (go_simp; done) | (go_simp; rfl))); intro w124 hw; have hg : w122.grownBy w124 (some go120) := (by rw [hw]; exact HP123.2); have hp_ : Kd.S (Kd.slice 3 (Kd.int .i64)) 36 w124 w.heap.size (fun _ => True) (.slice (some ⟨go120, 0, none⟩) x5_2.length co121) y258 := (by rw [hw, Ny258.out]; exact HP123.1); clear HP123; have n0_ := Aside0.mk (hp_); have n1_ := Aside0.mk (Kd.R_after (v := (.slice (some ⟨go120, 0, none⟩) x5_2.length co121)) (v1 := (.slice (some ⟨go120, 0, none⟩) x5_2.length co121)) (ok := (fun k_ => some k_ ≠ (v256 : Value).ownBlock)) (by (with_reducible repeat (first | apply Kd.R_alloc | apply Kd.R_drewN | apply Kd.R_drew)); exact Kd.R_mono HL254_0.out (fun _ hk => ⟨hk.2, hk.1.2⟩)) hg (.inl rfl)); have n2_ := Aside0.mk ((by rw [hw]; exact below_set (HB.out) GB120.out : Below w.heap.size w w124)); clear HO_5; clear HL254_0; clear HB; clear HO257; have HO_5 := n0_; have HL254_0 := n1_; have HB := n2_; clear n0_ n1_ n2_; clear hg hw hp_))
                  go_roundg k2
                  case measure => have := HK1.out; have := HK2.out; omega
                  case rel => exact ⟨(y258), (wrap64 (x25_2 + 1)), (by first | rfl | (simp; done) | (simp [*]; done)), H', ⟨by have := HK1.out; have := HK2.out; omega⟩, ⟨by (with_reducible repeat (first | apply Kd.S_alloc | apply Kd.S_drewN | apply Kd.S_drew)); exact HO_5.out⟩, ⟨by repeat (first | (with_reducible first | exact HB.out | apply below_alloc | apply pw_below_drewN | apply below_drew1) | exact HB.out)⟩⟩
                 ·rw [if_neg c118] at H
                  exact absurd H (by simp)
                ·rw [if_neg c117] at H
                 exact absurd H (by simp)
               ·rw [if_neg c115] at H
                have c115b0 : decide (0 ≤ (wrap64 ((x5_2.length : Int) - 1))) = false := decide_eq_false c115
                (try (have c115b1 : decide (0 ≤ (IntKind.i64.wrap ((x5_2.length : Int) - 1))) = false := by simp only [i64_w]; exact (decide_eq_false c115)))
                clear c115
                replace H := Option.bind_eq_some_iff.mp H
                obtain ⟨t259, A1250, H⟩ := H
                replace H : (if x5_2.length < 5864062014805 then (piece_Whole.l1 k2 l1 (x5_2 ++ [t259]) true x14_1 (rd_L4 l0 x14_1) l0 (l0.length : Int) x14_1 (rd_L4 l0 x14_1) ((rd_L4 l0 x14_1).length : Int) (wrap64 (x25_2 + 1))) else (none)) = some r := H
                have A125 := Aside0.mk A1250
                clear A1250
                by_cases c126 : x5_2.length < 5864062014805
                ·rw [if_pos c126] at H
                 have LMc126 := Aside0.mk c126
                 clear c126
                 obtain ⟨y262, hy262⟩ : ∃ y_ : List (List Int), y_ = (x5_2 ++ [t259]) := ⟨_, rfl⟩
                 replace H : (piece_Whole.l1 k2 l1 y262 true x14_1 (rd_L4 l0 x14_1) l0 (l0.length : Int) x14_1 (rd_L4 l0 x14_1) ((rd_L4 l0 x14_1).length : Int) (wrap64 (x25_2 + 1))) = some r := by first | (rw [hy262]; with_reducible exact H) | (have H2_ := (Option.bind_some _ _).symm.trans H; rw [hy262]; with_reducible exact H2_) | (have H2_ := (Option.bind_some _ _).symm.trans H; with_reducible exact H2_) | with_reducible exact H | (rw [hy262]; exact H) | exact H
                 have Ny262 := Aside0.mk hy262
                 clear hy262
                 have H' := Aside0.mk H
                 clear H
                 have p178 : 0 ≤ (x25_2 : Int) := odt
                 have q178 : x25_2 < ((rd_L4 l0 x14_1).length : Int) := odt
                 obtain ⟨ad178, A178_0, c178_0, e178, hx178_0, hl178_0, hi178_0⟩ := at_L1 HR174_0.out x25_2 p178 q178
                 cases e178
                 replace hx178_0 := (HB.out.cell (World.block_lt_of_cell? w _ hx178_0)).trans hx178_0
                 have HR178_0 := Aside0.mk hi178_0
                 have HC178_0 := Aside0.mk hl178_0
                 clear hi178_0 hl178_0
                 replace p178 := eq_true p178
                 replace q178 := eq_true q178
                 obtain ⟨Ao127, co127, eo127⟩ := Kd.S_slice HO_5.out
                 subst eo127
                 go_wp2_with (first | ((with_reducible refine gate_callee (f := 18) rfl ?_); refine goesL_ (some 77) rfl rfl Try.func18 (by kernel_rfl) rfl #[.slice A178_0 (rd_L1 (rd_L4 l0 x14_1) x25_2).length c178_0] rfl (by (try simp only [List.map_toArray, List.map_cons, List.map_nil]); first | done | rfl | (simp only [List.length_drop, List.length_take]; rfl)) ?_; (with_reducible refine (slices_Clone_int_int.calls _ _ (rd_L1 (rd_L4 l0 x14_1) x25_2) t259 _ ?side1 ?side2 A125.out).mono ?_); (case side1 => repeat (first | exact (Kd.C_below HR178_0.out HB.out) | (with_reducible refine Kd.C_alloc ?_ _) | (with_reducible refine Kd.C_drewN ?_ _) | (with_reducible refine Kd.C_drew ?_))); (case side2 => exact HC178_0.out); rintro e w128 ⟨v260, rfl, ho0, hb⟩; refine ⟨_, rfl, ?_⟩; have n0_ := Aside0.mk (Kd.S_elder' (by (with_reducible repeat (first | apply Kd.S_alloc | apply Kd.S_drewN | apply Kd.S_drew)); exact HO_5.out) (Kd.R_base ho0) hb); have n1_ := Aside0.mk (Kd.R_lower ho0 (below_size (by repeat (first | (with_reducible first | exact HB.out | apply below_alloc | apply pw_below_drewN | apply below_drew1) | exact HB.out)))); have n2_ := Aside0.mk (below_step (by repeat (first | (with_reducible first | exact HB.out | apply below_alloc | apply pw_below_drewN | apply below_drew1) | exact HB.out)) hb); clear HO_5; clear HB; have HO_5 := n0_; have HO261 := n1_; have HB := n2_; clear n0_ n1_ n2_; (try clear hb); (try clear hb2); (try clear hk); (try clear hi); (try clear ho0); obtain ⟨Ao130, co130, eo130⟩ := Kd.R_slice HO261.out; subst eo130) | ((with_reducible refine gate_builtin (b := .append) (xs := #[.tmp 75, .tmp 78]) rfl ?_); (try (refine gate_guard (by rfl) ?_; dsimp only)); at_builtin; refine Kd.S_append (Kd.slice 3 (Kd.int .i64)) (w0 := w) w.heap.size rfl (.tmp 75) (.tmp 78) 27 36 (.slice none 0 0) 24 rfl Try.underlying27 info36 rfl (by decide) (by omega) (.slice Ao127 x5_2.length co127) x5_2 t259 [.slice Ao130 t259.length co130] (fun _ => True) (fun k_ => some k_ = (.slice Ao130 t259.length co130 : Value).ownBlock) rfl rfl ?aP (fun k_ hk_ => ((Kd.R_mono (ok' := fun k_ => ((fun _ => True)) k_ ∧ some k_ ≠ (.slice Ao127 x5_2.length co127 : Value).ownBlock) (Kd.R_apart' (HO261.out) (Kd.S_typed HO_5.out) (by decide)) (fun k_ hk => ⟨trivial, hk.2⟩))).1 k_ hk_.symm) ?aF ?aO ?aB ?aS ?aL ?_; (case aP => exact Kd.M_row (Kd.R_mono (Kd.R_tight rfl (Kd.R_mono (ok' := fun k_ => ((fun _ => True)) k_ ∧ some k_ ≠ (.slice Ao127 x5_2.length co127 : Value).ownBlock) (Kd.R_apart' (HO261.out) (Kd.S_typed HO_5.out) (by decide)) (fun k_ hk => ⟨trivial, hk.2⟩))) (fun _ h_ => h_))); (case aB => exact (by repeat (first | (with_reducible first | exact HB.out | apply below_alloc | apply pw_below_drewN | apply below_drew1) | exact HB.out))); (case aF => exact (fun _ _ => trivial)); (case aO => exact (by (with_reducible repeat (first | apply Kd.S_alloc | apply Kd.S_drewN | apply Kd.S_drew)); exact Kd.S_mono HO_5.out (fun k_ hk => ⟨trivial, fun e_ => hk.2 e_⟩))); (case aS => exact (below_size (by repeat (first | (with_reducible first | exact HB.out | apply below_alloc | apply pw_below_drewN | apply below_drew1) | exact HB.out)))); (case aL => have := LMc126.out; omega); intro v263 w129 ho hb hg hat; rw [← Ny262.out] at ho; have n0_ := Aside0.mk (hb); have n1_ := Aside0.mk (ho); clear HB; clear HO_5; clear HO261; have HB := n0_; have HO264 := n1_; clear n0_ n1_; clear ho hb hg hat))
                 go_roundg k2
                 case measure => have := HK1.out; have := HK2.out; omega
                 case rel => exact ⟨(y262), (wrap64 (x25_2 + 1)), (by first | rfl | (simp; done) | (simp [*]; done)), H', ⟨by have := HK1.out; have := HK2.out; omega⟩, ⟨by (with_reducible repeat (first | apply Kd.S_alloc | apply Kd.S_drewN | apply Kd.S_drew)); exact HO264.out⟩, ⟨by repeat (first | (with_reducible first | exact HB.out | apply below_alloc | apply pw_below_drewN | apply below_drew1) | exact HB.out)⟩⟩
                ·rw [if_neg c126] at H
                 exact absurd H (by simp)
              ·replace c114 := Bool.eq_false_iff.mpr c114
               subst c114
               have H1 : ((slices_Clone_int_int.f (rd_L1 (rd_L4 l0 x14_1) x25_2)).bind fun t265 => (if x5_2.length < 5864062014805 then (piece_Whole.l1 k2 l1 (x5_2 ++ [t265]) false x14_1 (rd_L4 l0 x14_1) l0 (l0.length : Int) x14_1 (rd_L4 l0 x14_1) ((rd_L4 l0 x14_1).length : Int) (wrap64 (x25_2 + 1))) else (none))) = some r := by rw [if_neg (show ¬ (false = true) by decide)] at H; exact H
               clear H
               have H := H1
               clear H1
               replace H := Option.bind_eq_some_iff.mp H
               obtain ⟨t265, A1310, H⟩ := H
               replace H : (if x5_2.length < 5864062014805 then (piece_Whole.l1 k2 l1 (x5_2 ++ [t265]) false x14_1 (rd_L4 l0 x14_1) l0 (l0.length : Int) x14_1 (rd_L4 l0 x14_1) ((rd_L4 l0 x14_1).length : Int) (wrap64 (x25_2 + 1))) else (none)) = some r := H
               have A131 := Aside0.mk A1310
               clear A1310
               by_cases c132 : x5_2.length < 5864062014805
               ·rw [if_pos c132] at H
                have LMc132 := Aside0.mk c132
                clear c132
                obtain ⟨y268, hy268⟩ : ∃ y_ : List (List Int), y_ = (x5_2 ++ [t265]) := ⟨_, rfl⟩
                replace H : (piece_Whole.l1 k2 l1 y268 false x14_1 (rd_L4 l0 x14_1) l0 (l0.length : Int) x14_1 (rd_L4 l0 x14_1) ((rd_L4 l0 x14_1).length : Int) (wrap64 (x25_2 + 1))) = some r := by first | (rw [hy268]; with_reducible exact H) | (have H2_ := (Option.bind_some _ _).symm.trans H; rw [hy268]; with_reducible exact H2_) | (have H2_ := (Option.bind_some _ _).symm.trans H; with_reducible exact H2_) | with_reducible exact H | (rw [hy268]; exact H) | exact H
                have Ny268 := Aside0.mk hy268
                clear hy268
                have H' := Aside0.mk H
                clear H
                have p178 : 0 ≤ (x25_2 : Int) := odt
                have q178 : x25_2 < ((rd_L4 l0 x14_1).length : Int) := odt
                obtain ⟨ad178, A178_0, c178_0, e178, hx178_0, hl178_0, hi178_0⟩ := at_L1 HR174_0.out x25_2 p178 q178
                cases e178
                replace hx178_0 := (HB.out.cell (World.block_lt_of_cell? w _ hx178_0)).trans hx178_0
                have HR178_0 := Aside0.mk hi178_0
                have HC178_0 := Aside0.mk hl178_0
                clear hi178_0 hl178_0
                replace p178 := eq_true p178
                replace q178 := eq_true q178
                obtain ⟨Ao133, co133, eo133⟩ := Kd.S_slice HO_5.out
                subst eo133
                go_wp2_with (first | ((with_reducible refine gate_callee (f := 18) rfl ?_); refine goesL_ (some 77) rfl rfl Try.func18 (by kernel_rfl) rfl #[.slice A178_0 (rd_L1 (rd_L4 l0 x14_1) x25_2).length c178_0] rfl (by (try simp only [List.map_toArray, List.map_cons, List.map_nil]); first | done | rfl | (simp only [List.length_drop, List.length_take]; rfl)) ?_; (with_reducible refine (slices_Clone_int_int.calls _ _ (rd_L1 (rd_L4 l0 x14_1) x25_2) t265 _ ?side1 ?side2 A131.out).mono ?_); (case side1 => repeat (first | exact (Kd.C_below HR178_0.out HB.out) | (with_reducible refine Kd.C_alloc ?_ _) | (with_reducible refine Kd.C_drewN ?_ _) | (with_reducible refine Kd.C_drew ?_))); (case side2 => exact HC178_0.out); rintro e w134 ⟨v266, rfl, ho0, hb⟩; refine ⟨_, rfl, ?_⟩; have n0_ := Aside0.mk (Kd.S_elder' (by (with_reducible repeat (first | apply Kd.S_alloc | apply Kd.S_drewN | apply Kd.S_drew)); exact HO_5.out) (Kd.R_base ho0) hb); have n1_ := Aside0.mk (Kd.R_lower ho0 (below_size (by repeat (first | (with_reducible first | exact HB.out | apply below_alloc | apply pw_below_drewN | apply below_drew1) | exact HB.out)))); have n2_ := Aside0.mk (below_step (by repeat (first | (with_reducible first | exact HB.out | apply below_alloc | apply pw_below_drewN | apply below_drew1) | exact HB.out)) hb); clear HO_5; clear HB; have HO_5 := n0_; have HO267 := n1_; have HB := n2_; clear n0_ n1_ n2_; (try clear hb); (try clear hb2); (try clear hk); (try clear hi); (try clear ho0); obtain ⟨Ao136, co136, eo136⟩ := Kd.R_slice HO267.out; subst eo136) | ((with_reducible refine gate_builtin (b := .append) (xs := #[.tmp 75, .tmp 78]) rfl ?_); (try (refine gate_guard (by rfl) ?_; dsimp only)); at_builtin; refine Kd.S_append (Kd.slice 3 (Kd.int .i64)) (w0 := w) w.heap.size rfl (.tmp 75) (.tmp 78) 27 36 (.slice none 0 0) 24 rfl Try.underlying27 info36 rfl (by decide) (by omega) (.slice Ao133 x5_2.length co133) x5_2 t265 [.slice Ao136 t265.length co136] (fun _ => True) (fun k_ => some k_ = (.slice Ao136 t265.length co136 : Value).ownBlock) rfl rfl ?aP (fun k_ hk_ => ((Kd.R_mono (ok' := fun k_ => ((fun _ => True)) k_ ∧ some k_ ≠ (.slice Ao133 x5_2.length co133 : Value).ownBlock) (Kd.R_apart' (HO267.out) (Kd.S_typed HO_5.out) (by decide)) (fun k_ hk => ⟨trivial, hk.2⟩))).1 k_ hk_.symm) ?aF ?aO ?aB ?aS ?aL ?_; (case aP => exact Kd.M_row (Kd.R_mono (Kd.R_tight rfl (Kd.R_mono (ok' := fun k_ => ((fun _ => True)) k_ ∧ some k_ ≠ (.slice Ao133 x5_2.length co133 : Value).ownBlock) (Kd.R_apart' (HO267.out) (Kd.S_typed HO_5.out) (by decide)) (fun k_ hk => ⟨trivial, hk.2⟩))) (fun _ h_ => h_))); (case aB => exact (by repeat (first | (with_reducible first | exact HB.out | apply below_alloc | apply pw_below_drewN | apply below_drew1) | exact HB.out))); (case aF => exact (fun _ _ => trivial)); (case aO => exact (by (with_reducible repeat (first | apply Kd.S_alloc | apply Kd.S_drewN | apply Kd.S_drew)); exact Kd.S_mono HO_5.out (fun k_ hk => ⟨trivial, fun e_ => hk.2 e_⟩))); (case aS => exact (below_size (by repeat (first | (with_reducible first | exact HB.out | apply below_alloc | apply pw_below_drewN | apply below_drew1) | exact HB.out)))); (case aL => have := LMc132.out; omega); intro v269 w135 ho hb hg hat; rw [← Ny268.out] at ho; have n0_ := Aside0.mk (hb); have n1_ := Aside0.mk (ho); clear HB; clear HO_5; clear HO267; have HB := n0_; have HO270 := n1_; clear n0_ n1_; clear ho hb hg hat))
                go_roundg k2
                case measure => have := HK1.out; have := HK2.out; omega
                case rel => exact ⟨(y268), (wrap64 (x25_2 + 1)), (by first | rfl | (simp; done) | (simp [*]; done)), H', ⟨by have := HK1.out; have := HK2.out; omega⟩, ⟨by (with_reducible repeat (first | apply Kd.S_alloc | apply Kd.S_drewN | apply Kd.S_drew)); exact HO270.out⟩, ⟨by repeat (first | (with_reducible first | exact HB.out | apply below_alloc | apply pw_below_drewN | apply below_drew1) | exact HB.out)⟩⟩
               ·rw [if_neg c132] at H
                exact absurd H (by simp)
             ·rw [if_neg c113] at H
              have c113b0 : (x25_2 == 0) = false := beq_eq_false_iff_ne.mpr c113
              have c113b1 : (x25_2 != 0) = true := bne_iff_ne.mpr c113
              replace H := Option.bind_eq_some_iff.mp H
              obtain ⟨t271, A1370, H⟩ := H
              replace H : (if x5_2.length < 5864062014805 then (piece_Whole.l1 k2 l1 (x5_2 ++ [t271]) x6_1 x14_1 (rd_L4 l0 x14_1) l0 (l0.length : Int) x14_1 (rd_L4 l0 x14_1) ((rd_L4 l0 x14_1).length : Int) (wrap64 (x25_2 + 1))) else (none)) = some r := H
              have A137 := Aside0.mk A1370
              clear A1370
              by_cases c138 : x5_2.length < 5864062014805
              ·rw [if_pos c138] at H
               have LMc138 := Aside0.mk c138
               clear c138
               obtain ⟨y274, hy274⟩ : ∃ y_ : List (List Int), y_ = (x5_2 ++ [t271]) := ⟨_, rfl⟩
               replace H : (piece_Whole.l1 k2 l1 y274 x6_1 x14_1 (rd_L4 l0 x14_1) l0 (l0.length : Int) x14_1 (rd_L4 l0 x14_1) ((rd_L4 l0 x14_1).length : Int) (wrap64 (x25_2 + 1))) = some r := by first | (rw [hy274]; with_reducible exact H) | (have H2_ := (Option.bind_some _ _).symm.trans H; rw [hy274]; with_reducible exact H2_) | (have H2_ := (Option.bind_some _ _).symm.trans H; with_reducible exact H2_) | with_reducible exact H | (rw [hy274]; exact H) | exact H
               have Ny274 := Aside0.mk hy274
               clear hy274
               have H' := Aside0.mk H
               clear H
               have p178 : 0 ≤ (x25_2 : Int) := odt
               have q178 : x25_2 < ((rd_L4 l0 x14_1).length : Int) := odt
               obtain ⟨ad178, A178_0, c178_0, e178, hx178_0, hl178_0, hi178_0⟩ := at_L1 HR174_0.out x25_2 p178 q178
               cases e178
               replace hx178_0 := (HB.out.cell (World.block_lt_of_cell? w _ hx178_0)).trans hx178_0
               have HR178_0 := Aside0.mk hi178_0
               have HC178_0 := Aside0.mk hl178_0
               clear hi178_0 hl178_0
               replace p178 := eq_true p178
               replace q178 := eq_true q178
               obtain ⟨Ao139, co139, eo139⟩ := Kd.S_slice HO_5.out
               subst eo139
               go_wp2_with (first | ((with_reducible refine gate_callee (f := 18) rfl ?_); refine goesL_ (some 77) rfl rfl Try.func18 (by kernel_rfl) rfl #[.slice A178_0 (rd_L1 (rd_L4 l0 x14_1) x25_2).length c178_0] rfl (by (try simp only [List.map_toArray, List.map_cons, List.map_nil]); first | done | rfl | (simp only [List.length_drop, List.length_take]; rfl)) ?_; (with_reducible refine (slices_Clone_int_int.calls _ _ (rd_L1 (rd_L4 l0 x14_1) x25_2) t271 _ ?side1 ?side2 A137.out).mono ?_); (case side1 => repeat (first | exact (Kd.C_below HR178_0.out HB.out) | (with_reducible refine Kd.C_alloc ?_ _) | (with_reducible refine Kd.C_drewN ?_ _) | (with_reducible refine Kd.C_drew ?_))); (case side2 => exact HC178_0.out); rintro e w140 ⟨v272, rfl, ho0, hb⟩; refine ⟨_, rfl, ?_⟩; have n0_ := Aside0.mk (Kd.S_elder' (by (with_reducible repeat (first | apply Kd.S_alloc | apply Kd.S_drewN | apply Kd.S_drew)); exact HO_5.out) (Kd.R_base ho0) hb); have n1_ := Aside0.mk (Kd.R_lower ho0 (below_size (by repeat (first | (with_reducible first | exact HB.out | apply below_alloc | apply pw_below_drewN | apply below_drew1) | exact HB.out)))); have n2_ := Aside0.mk (below_step (by repeat (first | (with_reducible first | exact HB.out | apply below_alloc | apply pw_below_drewN | apply below_drew1) | exact HB.out)) hb); clear HO_5; clear HB; have HO_5 := n0_; have HO273 := n1_; have HB := n2_; clear n0_ n1_ n2_; (try clear hb); (try clear hb2); (try clear hk); (try clear hi); (try clear ho0); obtain ⟨Ao142, co142, eo142⟩ := Kd.R_slice HO273.out; subst eo142) | ((with_reducible refine gate_builtin (b := .append) (xs := #[.tmp 75, .tmp 78]) rfl ?_); (try (refine gate_guard (by rfl) ?_; dsimp only)); at_builtin; refine Kd.S_append (Kd.slice 3 (Kd.int .i64)) (w0 := w) w.heap.size rfl (.tmp 75) (.tmp 78) 27 36 (.slice none 0 0) 24 rfl Try.underlying27 info36 rfl (by decide) (by omega) (.slice Ao139 x5_2.length co139) x5_2 t271 [.slice Ao142 t271.length co142] (fun _ => True) (fun k_ => some k_ = (.slice Ao142 t271.length co142 : Value).ownBlock) rfl rfl ?aP (fun k_ hk_ => ((Kd.R_mono (ok' := fun k_ => ((fun _ => True)) k_ ∧ some k_ ≠ (.slice Ao139 x5_2.length co139 : Value).ownBlock) (Kd.R_apart' (HO273.out) (Kd.S_typed HO_5.out) (by decide)) (fun k_ hk => ⟨trivial, hk.2⟩))).1 k_ hk_.symm) ?aF ?aO ?aB ?aS ?aL ?_; (case aP => exact Kd.M_row (Kd.R_mono (Kd.R_tight rfl (Kd.R_mono (ok' := fun k_ => ((fun _ => True)) k_ ∧ some k_ ≠ (.slice Ao139 x5_2.length co139 : Value).ownBlock) (Kd.R_apart' (HO273.out) (Kd.S_typed HO_5.out) (by decide)) (fun k_ hk => ⟨trivial, hk.2⟩))) (fun _ h_ => h_))); (case aB => exact (by repeat (first | (with_reducible first | exact HB.out | apply below_alloc | apply pw_below_drewN | apply below_drew1) | exact HB.out))); (case aF => exact (fun _ _ => trivial)); (case aO => exact (by (with_reducible repeat (first | apply Kd.S_alloc | apply Kd.S_drewN | apply Kd.S_drew)); exact Kd.S_mono HO_5.out (fun k_ hk => ⟨trivial, fun e_ => hk.2 e_⟩))); (case aS => exact (below_size (by repeat (first | (with_reducible first | exact HB.out | apply below_alloc | apply pw_below_drewN | apply below_drew1) | exact HB.out)))); (case aL => have := LMc138.out; omega); intro v275 w141 ho hb hg hat; rw [← Ny274.out] at ho; have n0_ := Aside0.mk (hb); have n1_ := Aside0.mk (ho); clear HB; clear HO_5; clear HO273; have HB := n0_; have HO276 := n1_; clear n0_ n1_; clear ho hb hg hat))
               go_roundg k2
               case measure => have := HK1.out; have := HK2.out; omega
               case rel => exact ⟨(y274), (wrap64 (x25_2 + 1)), (by first | rfl | (simp; done) | (simp [*]; done)), H', ⟨by have := HK1.out; have := HK2.out; omega⟩, ⟨by (with_reducible repeat (first | apply Kd.S_alloc | apply Kd.S_drewN | apply Kd.S_drew)); exact HO276.out⟩, ⟨by repeat (first | (with_reducible first | exact HB.out | apply below_alloc | apply pw_below_drewN | apply below_drew1) | exact HB.out)⟩⟩
              ·rw [if_neg c138] at H
               exact absurd H (by simp)
           ·rw [if_neg c9] at H
            exact absurd H (by simp)
          ·rw [if_neg c8] at H
           exact absurd H (by simp)
         ·rw [if_neg c7] at H
          have c7b0 : decide (x25_2 < ((rd_L4 l0 x14_1).length : Int)) = false := decide_eq_false c7
          clear c7
          by_cases c143 : 0 ≤ x14_1
          ·rw [if_pos c143] at H
           have c143b0 : decide (0 ≤ x14_1) = true := decide_eq_true c143
           clear c143
           by_cases c144 : x14_1 < (l1.length : Int)
           ·rw [if_pos c144] at H
            have c144b0 : decide (x14_1 < (l1.length : Int)) = true := decide_eq_true c144
            clear c144
            replace H := Option.bind_eq_some_iff.mp H
            obtain ⟨t176, A1450, H⟩ := H
            replace H : (if t176 = true then (piece_Whole.l0 k2 l1 x5_2 true l0 (l0.length : Int) (wrap64 (x14_1 + 1))) else (piece_Whole.l0 k2 l1 x5_2 (((rd_T24 l1 x14_1).f0) == 4) l0 (l0.length : Int) (wrap64 (x14_1 + 1)))) = some r := H
            have A145 := Aside0.mk A1450
            clear A1450
            by_cases c146 : t176 = true
            ·subst c146
             have H1 : (piece_Whole.l0 k2 l1 x5_2 true l0 (l0.length : Int) (wrap64 (x14_1 + 1))) = some r := by rw [if_pos rfl] at H; exact H
             clear H
             have H := H1
             clear H1
             have H' := Aside0.mk H
             clear H
             have p175 : 0 ≤ (x14_1 : Int) := odt
             have q175 : x14_1 < (l1.length : Int) := odt
             obtain ⟨ad175, e175, hx175_0, hx175_1, hx175_2⟩ := at_T24 HR1.out x14_1 p175 q175
             cases e175
             replace hx175_0 := (HB.out.cell (World.block_lt_of_cell? w _ hx175_0)).trans hx175_0
             replace hx175_1 := (HB.out.cell (World.block_lt_of_cell? w _ hx175_1)).trans hx175_1
             replace hx175_2 := (HB.out.cell (World.block_lt_of_cell? w _ hx175_2)).trans hx175_2
             replace p175 := eq_true p175
             replace q175 := eq_true q175
             go_wp2_with (first | ((with_reducible refine gate_callee (f := 19) rfl ?_); refine goesL_ (some 86) rfl rfl Try.func19 (by kernel_rfl) rfl #[.int .i64 ((rd_T24 l1 x14_1).f0)] rfl (by (try simp only [List.map_toArray, List.map_cons, List.map_nil]); first | done | rfl | (simp only [List.length_drop, List.length_take]; rfl)) ?_; (with_reducible refine (piece_hyphened.calls ((rd_T24 l1 x14_1).f0) true _ A145.out).mono ?_); rintro e w' ⟨rfl, ⟨nd, rfl⟩⟩; refine ⟨_, rfl, ?_⟩))
             go_roundg k2
             case measure => have := HK1.out; have := HK2.out; omega
             case rel => exact ⟨(x5_2), (true), (wrap64 (x14_1 + 1)), (by first | rfl | (simp; done) | (simp [*]; done)), (by first | rfl | (simp; done) | (simp [*]; done)), H', ⟨by have := HK1.out; have := HK2.out; omega⟩, ⟨by (with_reducible repeat (first | apply Kd.S_alloc | apply Kd.S_drewN | apply Kd.S_drew)); exact HO_5.out⟩, ⟨by repeat (first | (with_reducible first | exact HB.out | apply below_alloc | apply pw_below_drewN | apply below_drew1) | exact HB.out)⟩⟩
            ·replace c146 := Bool.eq_false_iff.mpr c146
             subst c146
             have H1 : (piece_Whole.l0 k2 l1 x5_2 (((rd_T24 l1 x14_1).f0) == 4) l0 (l0.length : Int) (wrap64 (x14_1 + 1))) = some r := by rw [if_neg (show ¬ (false = true) by decide)] at H; exact H
             clear H
             have H := H1
             clear H1
             have H' := Aside0.mk H
             clear H
             have p175 : 0 ≤ (x14_1 : Int) := odt
             have q175 : x14_1 < (l1.length : Int) := odt
             obtain ⟨ad175, e175, hx175_0, hx175_1, hx175_2⟩ := at_T24 HR1.out x14_1 p175 q175
             cases e175
             replace hx175_0 := (HB.out.cell (World.block_lt_of_cell? w _ hx175_0)).trans hx175_0
             replace hx175_1 := (HB.out.cell (World.block_lt_of_cell? w _ hx175_1)).trans hx175_1
             replace hx175_2 := (HB.out.cell (World.block_lt_of_cell? w _ hx175_2)).trans hx175_2
             replace p175 := eq_true p175
             replace q175 := eq_true q175
             go_wp2_with (first | ((with_reducible refine gate_callee (f := 19) rfl ?_); refine goesL_ (some 86) rfl rfl Try.func19 (by kernel_rfl) rfl #[.int .i64 ((rd_T24 l1 x14_1).f0)] rfl (by (try simp only [List.map_toArray, List.map_cons, List.map_nil]); first | done | rfl | (simp only [List.length_drop, List.length_take]; rfl)) ?_; (with_reducible refine (piece_hyphened.calls ((rd_T24 l1 x14_1).f0) false _ A145.out).mono ?_); rintro e w' ⟨rfl, ⟨nd, rfl⟩⟩; refine ⟨_, rfl, ?_⟩; have p177 : 0 ≤ (x14_1 : Int) := odt; have q177 : x14_1 < (l1.length : Int) := odt; obtain ⟨ad177, e177, hx177_0, hx177_1, hx177_2⟩ := at_T24 HR1.out x14_1 p177 q177; obtain rfl : ad175 = ad177 := (by injection e177); replace hx177_0 := (HB.out.cell (World.block_lt_of_cell? w _ hx177_0)).trans hx177_0; replace hx177_1 := (HB.out.cell (World.block_lt_of_cell? w _ hx177_1)).trans hx177_1; replace hx177_2 := (HB.out.cell (World.block_lt_of_cell? w _ hx177_2)).trans hx177_2; replace p177 := eq_true p177; replace q177 := eq_true q177))
             go_roundg k2
             case measure => have := HK1.out; have := HK2.out; omega
             case rel => exact ⟨(x5_2), ((((rd_T24 l1 x14_1).f0) == 4)), (wrap64 (x14_1 + 1)), (by first | rfl | (simp; done) | (simp [*]; done)), (by first | rfl | (simp; done) | (simp [*]; done)), H', ⟨by have := HK1.out; have := HK2.out; omega⟩, ⟨by (with_reducible repeat (first | apply Kd.S_alloc | apply Kd.S_drewN | apply Kd.S_drew)); exact HO_5.out⟩, ⟨by repeat (first | (with_reducible first | exact HB.out | apply below_alloc | apply pw_below_drewN | apply below_drew1) | exact HB.out)⟩⟩
           ·rw [if_neg c144] at H
            exact absurd H (by simp)
          ·rw [if_neg c143] at H
           exact absurd H (by simp)
     ·rw [if_neg c5] at H
      exact absurd H (by simp)
    ·rw [if_neg c4] at H
     exact absurd H (by simp)
   ·rw [if_neg c3] at H
    have c3b0 : decide (x14_1 < (l0.length : Int)) = false := decide_eq_false c3
    clear c3
    obtain rfl := Option.some.inj H
    go_wp2
    (try rw [Exit.noGoto_ret]); go_ret
    exact ⟨_, by first | rfl | (simp [errW_none, errW_some] <;> rfl) | (simp [*, errW_none, errW_some] <;> rfl), by (with_reducible repeat (first | apply Kd.S_alloc | apply Kd.S_drewN | apply Kd.S_drew)); exact HO_5.out, by repeat (first | (with_reducible first | exact HB.out | apply below_alloc | apply pw_below_drewN | apply below_drew1) | exact HB.out)⟩

end Go.Proofs.Ytepllkdlnajbjaa.G
