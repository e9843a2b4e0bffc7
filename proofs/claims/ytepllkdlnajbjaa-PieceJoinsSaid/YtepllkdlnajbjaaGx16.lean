/- Contracts of the functions of this seat: what each call computes, as a plain Lean function. Made by this session's own generator. -/
import Derived.Test.YtepllkdlnajbjaaGx0
namespace Go.Proofs.Ytepllkdlnajbjaa.G
open Go.RowKit Go.Proofs.YtepllkdlnajbjaaMy Go.Proofs.YtepllkdlnajbjaaW.PrintWords Go.Proofs.YtepllkdlnajbjaaW.PrintLast Go.Proofs.YtepllkdlnajbjaaW.PrintMore
attribute [local go_sem] max2_int min2_int max_two min_two max_three min_three max_four min_four   -- for this text's walks alone
set_option linter.unusedVariables false
set_option linter.unusedSimpArgs false

/-! ### compositorref17_Cut: function 22 -/
mutual
def compositorref17_Cut.l0 : Nat → List (S41) → List (List Int) → Int → Int → Int → Int → Int → Int → Int → Option ((List (List Int)))
 | 0, _, _, _, _, _, _, _, _, _ => none
 | k + 1, x0, x7, x8, x358000, x358001, x358002, x359000, x359001, x359002 => if x8 < (x0.length : Int) then (compositorref17_Cut.l1 k x0 x7 x8 ([] : List Int) 0 x358000 x358001 x358002 x359000 x359001 x359002) else (if (x7.length : Int) > 0 then (if x359000 = 2 then ((some (([] : List Int) : List Int)).bind fun y359 => (if 0 ≤ (wrap64 ((x7.length : Int) - 1)) then (if (wrap64 ((x7.length : Int) - 1)) < (x7.length : Int) then (if y359.length + (rd_L1 x7 (wrap64 ((x7.length : Int) - 1))).length < 17592186044416 then ((some (y359 ++ (rd_L1 x7 (wrap64 ((x7.length : Int) - 1))) : List Int)).bind fun y363 => (if y363.length < 17592186044416 then (some (x7.set ((wrap64 ((x7.length : Int) - 1)) : Int).toNat (y363 ++ [45]))) else (none))) else (none)) else (none)) else (none))) else (if x359000 = 3 then ((some (([] : List Int) : List Int)).bind fun y370 => (if 0 ≤ (wrap64 ((x7.length : Int) - 1)) then (if (wrap64 ((x7.length : Int) - 1)) < (x7.length : Int) then (if y370.length + (rd_L1 x7 (wrap64 ((x7.length : Int) - 1))).length < 17592186044416 then ((some (y370 ++ (rd_L1 x7 (wrap64 ((x7.length : Int) - 1))) : List Int)).bind fun y374 => (if y374.length < 17592186044416 then (some (x7.set ((wrap64 ((x7.length : Int) - 1)) : Int).toNat (y374 ++ [45]))) else (none))) else (none)) else (none)) else (none))) else (some x7))) else (some x7))
def compositorref17_Cut.l1 : Nat → List (S41) → List (List Int) → Int → List Int → Int → Int → Int → Int → Int → Int → Int → Option ((List (List Int)))
 | 0, _, _, _, _, _, _, _, _, _, _, _ => none
 | k + 1, x0, x7, x8, x9, x10, x358000, x358001, x358002, x359000, x359001, x359002 => if 0 ≤ x8 then (if x8 < (x0.length : Int) then (if x10 < (((rd_T41 x0 x8).f0).length : Int) then (if x358000 = 0 then (if x8 < x359001 then (if 0 ≤ x10 then (if x9.length < 17592186044416 then (compositorref17_Cut.l1 k x0 x7 x8 (x9 ++ [rd ((rd_T41 x0 x8).f0) x10]) (wrap64 (x10 + 1)) x358000 x358001 x358002 x359000 x359001 x359002) else (none)) else (none)) else (if x8 = x359001 then (if x10 < x359002 then (if 0 ≤ x10 then (if x9.length < 17592186044416 then (compositorref17_Cut.l1 k x0 x7 x8 (x9 ++ [rd ((rd_T41 x0 x8).f0) x10]) (wrap64 (x10 + 1)) x358000 x358001 x358002 x359000 x359001 x359002) else (none)) else (none)) else (compositorref17_Cut.l1 k x0 x7 x8 x9 (wrap64 (x10 + 1)) x358000 x358001 x358002 x359000 x359001 x359002)) else (compositorref17_Cut.l1 k x0 x7 x8 x9 (wrap64 (x10 + 1)) x358000 x358001 x358002 x359000 x359001 x359002))) else (if x8 > x358001 then (if x8 < x359001 then (if 0 ≤ x10 then (if x9.length < 17592186044416 then (compositorref17_Cut.l1 k x0 x7 x8 (x9 ++ [rd ((rd_T41 x0 x8).f0) x10]) (wrap64 (x10 + 1)) x358000 x358001 x358002 x359000 x359001 x359002) else (none)) else (none)) else (if x8 = x359001 then (if x10 < x359002 then (if 0 ≤ x10 then (if x9.length < 17592186044416 then (compositorref17_Cut.l1 k x0 x7 x8 (x9 ++ [rd ((rd_T41 x0 x8).f0) x10]) (wrap64 (x10 + 1)) x358000 x358001 x358002 x359000 x359001 x359002) else (none)) else (none)) else (compositorref17_Cut.l1 k x0 x7 x8 x9 (wrap64 (x10 + 1)) x358000 x358001 x358002 x359000 x359001 x359002)) else (compositorref17_Cut.l1 k x0 x7 x8 x9 (wrap64 (x10 + 1)) x358000 x358001 x358002 x359000 x359001 x359002))) else (if x8 = x358001 then (if x8 < x359001 then (if x10 ≥ x358002 then (if 0 ≤ x10 then (if x9.length < 17592186044416 then (compositorref17_Cut.l1 k x0 x7 x8 (x9 ++ [rd ((rd_T41 x0 x8).f0) x10]) (wrap64 (x10 + 1)) x358000 x358001 x358002 x359000 x359001 x359002) else (none)) else (none)) else (compositorref17_Cut.l1 k x0 x7 x8 x9 (wrap64 (x10 + 1)) x358000 x358001 x358002 x359000 x359001 x359002)) else (if x8 = x359001 then (if x10 ≥ x358002 then (if x10 < x359002 then (if 0 ≤ x10 then (if x9.length < 17592186044416 then (compositorref17_Cut.l1 k x0 x7 x8 (x9 ++ [rd ((rd_T41 x0 x8).f0) x10]) (wrap64 (x10 + 1)) x358000 x358001 x358002 x359000 x359001 x359002) else (none)) else (none)) else (compositorref17_Cut.l1 k x0 x7 x8 x9 (wrap64 (x10 + 1)) x358000 x358001 x358002 x359000 x359001 x359002)) else (compositorref17_Cut.l1 k x0 x7 x8 x9 (wrap64 (x10 + 1)) x358000 x358001 x358002 x359000 x359001 x359002)) else (if x10 ≥ x358002 then (compositorref17_Cut.l1 k x0 x7 x8 x9 (wrap64 (x10 + 1)) x358000 x358001 x358002 x359000 x359001 x359002) else (compositorref17_Cut.l1 k x0 x7 x8 x9 (wrap64 (x10 + 1)) x358000 x358001 x358002 x359000 x359001 x359002)))) else (if x8 < x359001 then (compositorref17_Cut.l1 k x0 x7 x8 x9 (wrap64 (x10 + 1)) x358000 x358001 x358002 x359000 x359001 x359002) else (if x8 = x359001 then (compositorref17_Cut.l1 k x0 x7 x8 x9 (wrap64 (x10 + 1)) x358000 x358001 x358002 x359000 x359001 x359002) else (compositorref17_Cut.l1 k x0 x7 x8 x9 (wrap64 (x10 + 1)) x358000 x358001 x358002 x359000 x359001 x359002)))))) else (if (x9.length : Int) > 0 then (if x7.length < 5864062014805 then (compositorref17_Cut.l0 k x0 (x7 ++ [x9]) (wrap64 (x8 + 1)) x358000 x358001 x358002 x359000 x359001 x359002) else (none)) else (compositorref17_Cut.l0 k x0 x7 (wrap64 (x8 + 1)) x358000 x358001 x358002 x359000 x359001 x359002))) else (none)) else (none)
end
def compositorref17_Cut.f (k : Nat) (l0 : List (S41)) (a1_0 : Int) (a1_1 : Int) (a1_2 : Int) (a2_0 : Int) (a2_1 : Int) (a2_2 : Int) : Option ((List (List Int))) := compositorref17_Cut.l0 k l0 ([] : List (List Int)) 0 a1_0 a1_1 a1_2 a2_0 a2_1 a2_2
theorem compositorref17_Cut.mono_l : ∀ k, (∀ y0 y1 y2 y3 y4 y5 y6 y7 y8, LeO (compositorref17_Cut.l0 k y0 y1 y2 y3 y4 y5 y6 y7 y8) (compositorref17_Cut.l0 (k + 1) y0 y1 y2 y3 y4 y5 y6 y7 y8)) ∧ (∀ y0 y1 y2 y3 y4 y5 y6 y7 y8 y9 y10, LeO (compositorref17_Cut.l1 k y0 y1 y2 y3 y4 y5 y6 y7 y8 y9 y10) (compositorref17_Cut.l1 (k + 1) y0 y1 y2 y3 y4 y5 y6 y7 y8 y9 y10))
 | 0 => ⟨fun _ _ _ _ _ _ _ _ _ r h => by simp [compositorref17_Cut.l0] at h, fun _ _ _ _ _ _ _ _ _ _ _ r h => by simp [compositorref17_Cut.l1] at h⟩
 | k + 1 => by
  obtain ⟨ih0, ih1⟩ := compositorref17_Cut.mono_l k
  refine ⟨?_, ?_⟩
  ·intro y0 y1 y2 y3 y4 y5 y6 y7 y8
   unfold compositorref17_Cut.l0
   repeat' first
   | (with_reducible exact ih0 _ _ _ _ _ _ _ _ _)
   | (with_reducible exact ih1 _ _ _ _ _ _ _ _ _ _ _)
   | (with_reducible exact LeO.refl _)
   | (with_reducible exact LeO.none _)
   | (with_reducible refine LeO.ite ?_ ?_)
   | (with_reducible refine LeO.bind ?_ (fun _ => ?_))
   | exact ih0 _ _ _ _ _ _ _ _ _
   | exact ih1 _ _ _ _ _ _ _ _ _ _ _
   | exact LeO.none _
   | refine LeO.ite ?_ ?_
   | refine LeO.bind ?_ (fun _ => ?_)
  ·intro y0 y1 y2 y3 y4 y5 y6 y7 y8 y9 y10
   unfold compositorref17_Cut.l1
   repeat' first
   | (with_reducible exact ih0 _ _ _ _ _ _ _ _ _)
   | (with_reducible exact ih1 _ _ _ _ _ _ _ _ _ _ _)
   | (with_reducible exact LeO.refl _)
   | (with_reducible exact LeO.none _)
   | (with_reducible refine LeO.ite ?_ ?_)
   | (with_reducible refine LeO.bind ?_ (fun _ => ?_))
   | exact ih0 _ _ _ _ _ _ _ _ _
   | exact ih1 _ _ _ _ _ _ _ _ _ _ _
   | exact LeO.none _
   | refine LeO.ite ?_ ?_
   | refine LeO.bind ?_ (fun _ => ?_)
theorem compositorref17_Cut.mono : ∀ a0 a1 a2 a3 a4 a5 a6 k, LeO (compositorref17_Cut.f k a0 a1 a2 a3 a4 a5 a6) (compositorref17_Cut.f (k + 1) a0 a1 a2 a3 a4 a5 a6) := by
 intro a0 a1 a2 a3 a4 a5 a6 k
 obtain ⟨ih0, ih1⟩ := compositorref17_Cut.mono_l k
 unfold compositorref17_Cut.f
 repeat' first
   | (with_reducible exact ih0 _ _ _ _ _ _ _ _ _)
   | (with_reducible exact ih1 _ _ _ _ _ _ _ _ _ _ _)
   | (with_reducible exact LeO.refl _)
   | (with_reducible exact LeO.none _)
   | (with_reducible refine LeO.ite ?_ ?_)
   | (with_reducible refine LeO.bind ?_ (fun _ => ?_))
   | exact ih0 _ _ _ _ _ _ _ _ _
   | exact ih1 _ _ _ _ _ _ _ _ _ _ _
   | exact LeO.none _
   | refine LeO.ite ?_ ?_
   | refine LeO.bind ?_ (fun _ => ?_)
set_option maxHeartbeats 8000000 in
set_option maxRecDepth 100000 in
theorem compositorref17_Cut.calls (k : Nat) (A0 : Option Addr) (c0 : Nat) (l0 : List (S41)) (a1_0 : Int) (a1_1 : Int) (a1_2 : Int) (a2_0 : Int) (a2_1 : Int) (a2_2 : Int) (r : List (List Int)) (w : World) (hr0 : Kd.C k41 w A0 l0.length l0) (hc0 : l0.length ≤ c0) (h : compositorref17_Cut.f k l0 a1_0 a1_1 a1_2 a2_0 a2_1 a2_2 = some r) :
  Calls Try.prog 22 #[.slice A0 l0.length c0, .agg #[.int .i64 a1_0, .int .i64 a1_1, .int .i64 a1_2], .agg #[.int .i64 a2_0, .int .i64 a2_1, .int .i64 a2_2]] w fun e w' => ∃ v0_ : Value, e = .returned (v0_) ∧ Kd.S (Kd.slice 3 (Kd.int .i64)) 36 w' w.heap.size (fun _ => True) v0_ r ∧ Below w.heap.size w w' := by
 have hu24 := Try.underlying24
 have HR0 := Aside0.mk hr0
 have HC0 := Aside0.mk hc0
 clear hr0 hc0
 have HB := Aside0.mk (Below.refl w.heap.size w)
 have H : (compositorref17_Cut.l0 k l0 ([] : List (List Int)) 0 a1_0 a1_1 a1_2 a2_0 a2_1 a2_2) = some r := h
 clear h
 have H' := Aside0.mk H
 clear H
 go_enter Try.func22, Try.ntmps22
 go_wp2_with (first | ((with_reducible refine gate_dst (N := 4) rfl ?_); refine box_event ?hg (N := 4) ?hd (cs := #[.int .i64 a1_0, .int .i64 a1_1, .int .i64 a1_2]) (t := 24) ?hr ?_; (case hd => rfl); (case hg => rfl); (case hr => first | (go_simp; done) | (go_simp; rfl)); intro gb357 hg w4 hbox hb; have n0_ := Aside0.mk (below_step (by repeat (first | (with_reducible first | exact HB.out | apply below_alloc | apply pw_below_drewN | apply below_drew1) | exact HB.out)) hb); have n1_ := Aside0.mk (hbox); have n2_ := Aside0.mk ((by rw [hg]; exact (below_size (by repeat (first | (with_reducible first | exact HB.out | apply below_alloc | apply pw_below_drewN | apply below_drew1) | exact HB.out))) : w.heap.size ≤ gb357)); have n3_ := Aside0.mk ((by rw [hg]; exact (below_size (by repeat (first | (with_reducible first | exact HB.out | apply below_alloc | apply pw_below_drewN | apply below_drew1) | exact HB.out))) : w.heap.size ≤ gb357)); clear HB; have HB := n0_; have BK357 := n1_; have GW357 := n2_; have GE357 := n3_; clear n0_ n1_ n2_ n3_; clear hb hbox hg) | ((with_reducible refine gate_dst (N := 5) rfl ?_); refine box_event ?hg (N := 5) ?hd (cs := #[.int .i64 a2_0, .int .i64 a2_1, .int .i64 a2_2]) (t := 24) ?hr ?_; (case hd => rfl); (case hg => rfl); (case hr => first | (go_simp; done) | (go_simp; rfl)); intro gb358 hg w5 hbox hb; have n0_ := Aside0.mk (blk_below (g := gb357) (o := .cells #[.int .i64 a1_0, .int .i64 a1_1, .int .i64 a1_2] 24 (0, 0)) (by (with_reducible repeat (first | refine blk_drewN ?_ _ | refine blk_drew ?_ | refine blk_alloc ?_ _)); exact BK357.out) hb); have n1_ := Aside0.mk (below_step (by repeat (first | (with_reducible first | exact HB.out | apply below_alloc | apply pw_below_drewN | apply below_drew1 | refine below_set ?_ GE357.out) | exact HB.out)) hb); have n2_ := Aside0.mk (hbox); have n3_ := Aside0.mk ((by rw [hg]; exact (below_size (by repeat (first | (with_reducible first | exact HB.out | apply below_alloc | apply pw_below_drewN | apply below_drew1 | refine below_set ?_ GE357.out) | exact HB.out))) : w.heap.size ≤ gb358)); have n4_ := Aside0.mk ((by rw [hg]; exact (below_size (by repeat (first | (with_reducible first | exact HB.out | apply below_alloc | apply pw_below_drewN | apply below_drew1 | refine below_set ?_ GE357.out) | exact HB.out))) : w.heap.size ≤ gb358)); have n5_ := Aside0.mk ((by rw [hg]; exact Nat.ne_of_lt (blk_lt (g := gb357) (o := .cells #[.int .i64 a1_0, .int .i64 a1_1, .int .i64 a1_2] 24 (0, 0)) (by (with_reducible repeat (first | refine blk_drewN ?_ _ | refine blk_drew ?_ | refine blk_alloc ?_ _)); exact BK357.out)) : gb357 ≠ gb358)); have n6_ := Aside0.mk ((by rw [hg]; exact Nat.ne_of_gt (blk_lt (g := gb357) (o := .cells #[.int .i64 a1_0, .int .i64 a1_1, .int .i64 a1_2] 24 (0, 0)) (by (with_reducible repeat (first | refine blk_drewN ?_ _ | refine blk_drew ?_ | refine blk_alloc ?_ _)); exact BK357.out)) : gb358 ≠ gb357)); clear BK357; clear HB; have BK357 := n0_; have HB := n1_; have BK358 := n2_; have GW358 := n3_; have GE358 := n4_; have NB357_358 := n5_; have NB358_357 := n6_; clear n0_ n1_ n2_ n3_ n4_ n5_ n6_; clear hb hbox hg))
 go_loopg [7, 8] k (fun kq v7 v8 w' => ∃ (x7_1 : List (List Int)) (x8_1 : Int), v8 = .int .i64 x8_1 ∧ Aside0 (compositorref17_Cut.l0 kq l0 x7_1 x8_1 a1_0 a1_1 a1_2 a2_0 a2_1 a2_2 = some r) ∧ Aside0 (kq ≤ k) ∧ Aside0 (Kd.S (Kd.slice 3 (Kd.int .i64)) 36 w' w.heap.size (fun _ => True) v7 x7_1) ∧ Aside0 (w'.heap[gb357]? = some (.cells #[.int .i64 a1_0, .int .i64 a1_1, .int .i64 a1_2] 24 (0, 0))) ∧ Aside0 (w'.heap[gb358]? = some (.cells #[.int .i64 a2_0, .int .i64 a2_1, .int .i64 a2_2] 24 (0, 0))) ∧ Aside0 (Below w.heap.size w w'))
 case atStart => exact ⟨(([] : List (List Int))), (0), (by first | rfl | (simp; done) | (simp [*]; done)), H', ⟨Nat.le_refl _⟩, ⟨by first | exact Kd.S_nil _ _ _ _ _ | exact Kd.N_nil _ _ _ _ _ | exact Kd.V_nil _ _ _ _ _ | exact Kd.Q_nil _ _ _ _ _ | exact Kd.R_nil _ _ _ _ _⟩, ⟨by (with_reducible repeat (first | refine blk_drewN ?_ _ | refine blk_drew ?_ | refine blk_alloc ?_ _)); exact BK357.out⟩, ⟨by (with_reducible repeat (first | refine blk_drewN ?_ _ | refine blk_drew ?_ | refine blk_alloc ?_ _)); exact BK358.out⟩, ⟨by repeat (first | (with_reducible first | exact HB.out | apply below_alloc | apply pw_below_drewN | apply below_drew1 | refine below_set ?_ GE357.out | refine below_set ?_ GE358.out) | exact HB.out)⟩⟩
 case round =>
  clear H'
  try clear c2
  try clear p2
  obtain ⟨x7_1, x8_1, rfl, HA, HK1, HO_7, BK357, BK358, HB⟩ := hrel
  cases gk with
  | zero => exact absurd HA.out (by simp [compositorref17_Cut.l0])
  | succ k1 =>
   have H := HA.out
   clear HA
   simp only [compositorref17_Cut.l0] at H
   by_cases c6 : x8_1 < (l0.length : Int)
   ·rw [if_pos c6] at H
    have c6b0 : decide (x8_1 < (l0.length : Int)) = true := decide_eq_true c6
    clear c6
    have H' := Aside0.mk H
    clear H
    go_wp2
    go_loopg [9, 10] k1 (fun kq v9 v10 w' => ∃ (x9_2 : List Int) (x10_2 : Int), v10 = .int .i64 x10_2 ∧ Aside0 (compositorref17_Cut.l1 kq l0 x7_1 x8_1 x9_2 x10_2 a1_0 a1_1 a1_2 a2_0 a2_1 a2_2 = some r) ∧ Aside0 (kq ≤ k1) ∧ Aside0 (Kd.S (Kd.slice 3 (Kd.int .i64)) 36 w' w.heap.size (fun k_ => some k_ ≠ (v9 : Value).ownBlock) u7 x7_1) ∧ Aside0 (Kd.R (Kd.int .i64) 3 w' w.heap.size (fun _ => True) v9 x9_2) ∧ Aside0 (w'.heap[gb357]? = some (.cells #[.int .i64 a1_0, .int .i64 a1_1, .int .i64 a1_2] 24 (0, 0))) ∧ Aside0 (w'.heap[gb358]? = some (.cells #[.int .i64 a2_0, .int .i64 a2_1, .int .i64 a2_2] 24 (0, 0))) ∧ Aside0 (Below w.heap.size w w'))
    case atStart => exact ⟨(([] : List Int)), (0), (by first | rfl | (simp; done) | (simp [*]; done)), H', ⟨Nat.le_refl _⟩, ⟨by (with_reducible repeat (first | apply Kd.S_alloc | apply Kd.S_drewN | apply Kd.S_drew)); exact Kd.S_mono HO_7.out (fun _ hk => (by simp [Value.ownBlock]))⟩, ⟨by first | exact Kd.R_nil _ _ _ _ _ | exact Kd.N_nil _ _ _ _ _ | exact Kd.V_nil _ _ _ _ _ | exact Kd.Q_nil _ _ _ _ _ | exact Kd.S_nil _ _ _ _ _⟩, ⟨by (with_reducible repeat (first | refine blk_drewN ?_ _ | refine blk_drew ?_ | refine blk_alloc ?_ _)); exact BK357.out⟩, ⟨by (with_reducible repeat (first | refine blk_drewN ?_ _ | refine blk_drew ?_ | refine blk_alloc ?_ _)); exact BK358.out⟩, ⟨by repeat (first | (with_reducible first | exact HB.out | apply below_alloc | apply pw_below_drewN | apply below_drew1 | refine below_set ?_ GE357.out | refine below_set ?_ GE358.out) | exact HB.out)⟩⟩
    case round =>
     clear H'
     try clear c2
     try clear p2
     try clear c6
     try clear c6b0
     try clear p2
     obtain ⟨x9_2, x10_2, rfl, HA, HK2, HO_7, HO_9, BK357, BK358, HB⟩ := hrel
     cases gk with
     | zero => exact absurd HA.out (by simp [compositorref17_Cut.l1])
     | succ k2 =>
      have H := HA.out
      clear HA
      simp only [compositorref17_Cut.l1] at H
      by_cases c7 : 0 ≤ x8_1
      ·rw [if_pos c7] at H
       have c7b0 : decide (0 ≤ x8_1) = true := decide_eq_true c7
       clear c7
       by_cases c8 : x8_1 < (l0.length : Int)
       ·rw [if_pos c8] at H
        have c8b0 : decide (x8_1 < (l0.length : Int)) = true := decide_eq_true c8
        clear c8
        by_cases c9 : x10_2 < (((rd_T41 l0 x8_1).f0).length : Int)
        ·rw [if_pos c9] at H
         have c9b0 : decide (x10_2 < (((rd_T41 l0 x8_1).f0).length : Int)) = true := decide_eq_true c9
         clear c9
         by_cases c10 : a1_0 = 0
         ·rw [if_pos c10] at H
          have c10b0 : (a1_0 == 0) = true := beq_iff_eq.mpr c10
          have c10b1 : (a1_0 != 0) = false := bne_eq_false_iff_eq.mpr c10
          clear c10
          by_cases c11 : x8_1 < a2_1
          ·rw [if_pos c11] at H
           have c11b0 : decide (x8_1 < a2_1) = true := decide_eq_true c11
           clear c11
           by_cases c12 : 0 ≤ x10_2
           ·rw [if_pos c12] at H
            have c12b0 : decide (0 ≤ x10_2) = true := decide_eq_true c12
            clear c12
            by_cases c13 : x9_2.length < 17592186044416
            ·rw [if_pos c13] at H
             have LMc13 := Aside0.mk c13
             clear c13
             obtain ⟨y384, hy384⟩ : ∃ y_ : List Int, y_ = (x9_2 ++ [rd ((rd_T41 l0 x8_1).f0) x10_2]) := ⟨_, rfl⟩
             replace H : (compositorref17_Cut.l1 k2 l0 x7_1 x8_1 y384 (wrap64 (x10_2 + 1)) a1_0 a1_1 a1_2 a2_0 a2_1 a2_2) = some r := by first | (rw [hy384]; with_reducible exact H) | (have H2_ := (Option.bind_some _ _).symm.trans H; rw [hy384]; with_reducible exact H2_) | (have H2_ := (Option.bind_some _ _).symm.trans H; with_reducible exact H2_) | with_reducible exact H | (rw [hy384]; exact H) | exact H
             have Ny384 := Aside0.mk hy384
             clear hy384
             have H' := Aside0.mk H
             clear H
             have p381 : 0 ≤ (x8_1 : Int) := odt
             have q381 : x8_1 < (l0.length : Int) := odt
             obtain ⟨ad381, A381_0, c381_0, A381_1, c381_1, e381, hx381_0, hx381_1, hl381_0, hi381_0, hl381_1, hi381_1⟩ := at_T41 HR0.out x8_1 p381 q381
             cases e381
             replace hx381_0 := (HB.out.cell (World.block_lt_of_cell? w _ hx381_0)).trans hx381_0
             replace hx381_1 := (HB.out.cell (World.block_lt_of_cell? w _ hx381_1)).trans hx381_1
             have HR381_0 := Aside0.mk hi381_0
             have HC381_0 := Aside0.mk hl381_0
             clear hi381_0 hl381_0
             have HR381_1 := Aside0.mk hi381_1
             have HC381_1 := Aside0.mk hl381_1
             clear hi381_1 hl381_1
             replace p381 := eq_true p381
             replace q381 := eq_true q381
             have hnb14 := NB357_358.out
             have hnc14 := NB358_357.out
             have hcz15_0 : wr.cell? ⟨gb357, 0, none⟩ = some (.int .i64 a1_0) := (blk_cell BK357.out 0).trans rfl
             have hcz15_1 : wr.cell? ⟨gb357, 1, none⟩ = some (.int .i64 a1_1) := (blk_cell BK357.out 1).trans rfl
             have hcz15_2 : wr.cell? ⟨gb357, 2, none⟩ = some (.int .i64 a1_2) := (blk_cell BK357.out 2).trans rfl
             have hfz15_0 := blk_frozen BK357.out 0
             have hfz15_1 := blk_frozen BK357.out 1
             have hfz15_2 := blk_frozen BK357.out 2
             have hcz16_0 : wr.cell? ⟨gb358, 0, none⟩ = some (.int .i64 a2_0) := (blk_cell BK358.out 0).trans rfl
             have hcz16_1 : wr.cell? ⟨gb358, 1, none⟩ = some (.int .i64 a2_1) := (blk_cell BK358.out 1).trans rfl
             have hcz16_2 : wr.cell? ⟨gb358, 2, none⟩ = some (.int .i64 a2_2) := (blk_cell BK358.out 2).trans rfl
             have hfz16_0 := blk_frozen BK358.out 0
             have hfz16_1 := blk_frozen BK358.out 1
             have hfz16_2 := blk_frozen BK358.out 2
             have p382 : 0 ≤ (x8_1 : Int) := odt
             have q382 : x8_1 < (l0.length : Int) := odt
             obtain ⟨ad382, A382_0, c382_0, A382_1, c382_1, e382, hx382_0, hx382_1, hl382_0, hi382_0, hl382_1, hi382_1⟩ := at_T41 HR0.out x8_1 p382 q382
             obtain rfl : ad381 = ad382 := (by injection e382)
             replace hx382_0 := (HB.out.cell (World.block_lt_of_cell? w _ hx382_0)).trans hx382_0
             replace hx382_1 := (HB.out.cell (World.block_lt_of_cell? w _ hx382_1)).trans hx382_1
             have HR382_0 := Aside0.mk hi382_0
             have HC382_0 := Aside0.mk hl382_0
             clear hi382_0 hl382_0
             have HR382_1 := Aside0.mk hi382_1
             have HC382_1 := Aside0.mk hl382_1
             clear hi382_1 hl382_1
             replace p382 := eq_true p382
             replace q382 := eq_true q382
             have ea_ := Option.some.inj (hx381_0.symm.trans hx382_0)
             injection ea_ with ea_ en_ ec_
             subst ea_
             subst ec_
             clear en_
             have ea_ := Option.some.inj (hx381_1.symm.trans hx382_1)
             injection ea_ with ea_ en_ ec_
             subst ea_
             subst ec_
             clear en_
             have p383 : 0 ≤ (x10_2 : Int) := odt
             have q383 : x10_2 < (((rd_T41 l0 x8_1).f0).length : Int) := odt
             obtain ⟨ad383, e383, hx383_0⟩ := Kd.at_int HR382_0.out x10_2 p383 q383
             cases e383
             replace hx383_0 := (HB.out.cell (World.block_lt_of_cell? w _ hx383_0)).trans hx383_0
             replace p383 := eq_true p383
             replace q383 := eq_true q383
             go_wp2_with (first | ((with_reducible refine gate_builtin (b := .append) (xs := #[.tmp 70, .tmp 79]) rfl ?_); at_builtin; refine Kd.R_append (Kd.int .i64) (w0 := w) w.heap.size rfl (.tmp 70) (.tmp 79) 36 3 (.int .i64 0) 8 rfl Try.underlying36 info3 rfl (by decide) (by omega) u9 x9_2 (rd ((rd_T41 l0 x8_1).f0) x10_2) [.int .i64 (rd ((rd_T41 l0 x8_1).f0) x10_2)] (fun _ => True) (fun _ => False) rfl rfl ?aP (fun _ hk => hk.elim) ?aF ?aO ?aB ?aS ?aL ?_; (case aP => exact rfl); (case aB => exact (by repeat (first | (with_reducible first | exact HB.out | apply below_alloc | apply pw_below_drewN | apply below_drew1 | refine below_set ?_ GE357.out | refine below_set ?_ GE358.out) | exact HB.out))); (case aF => exact (fun _ _ => trivial)); (case aO => exact (by (with_reducible repeat (first | apply Kd.R_alloc | apply Kd.R_drewN | apply Kd.R_drew)); exact HO_9.out)); (case aS => exact (below_size (by repeat (first | (with_reducible first | exact HB.out | apply below_alloc | apply pw_below_drewN | apply below_drew1 | refine below_set ?_ GE357.out | refine below_set ?_ GE358.out) | exact HB.out)))); (case aL => have := LMc13.out; omega); intro v385 w17 ho hb hg hat; rw [← Ny384.out] at ho; have n0_ := Aside0.mk (Kd.S_after (ok := (fun _ => True)) (by (with_reducible repeat (first | apply Kd.S_alloc | apply Kd.S_drewN | apply Kd.S_drew)); exact Kd.S_mono HO_7.out (fun _ hk => ⟨trivial, hk⟩)) hg hat); have n1_ := Aside0.mk (blk_grown (g := gb357) (o := .cells #[.int .i64 a1_0, .int .i64 a1_1, .int .i64 a1_2] 24 (0, 0)) (by (with_reducible repeat (first | refine blk_drewN ?_ _ | refine blk_drew ?_ | refine blk_alloc ?_ _)); exact BK357.out) hg (Kd.R_ne HO_9.out BK357.out (by decide))); have n2_ := Aside0.mk (blk_grown (g := gb358) (o := .cells #[.int .i64 a2_0, .int .i64 a2_1, .int .i64 a2_2] 24 (0, 0)) (by (with_reducible repeat (first | refine blk_drewN ?_ _ | refine blk_drew ?_ | refine blk_alloc ?_ _)); exact BK358.out) hg (Kd.R_ne HO_9.out BK358.out (by decide))); have n3_ := Aside0.mk (hb); have n4_ := Aside0.mk (ho); clear HO_7; clear BK357; clear BK358; clear HB; clear HO_9; have HO_7 := n0_; have BK357 := n1_; have BK358 := n2_; have HB := n3_; have HO386 := n4_; clear n0_ n1_ n2_ n3_ n4_; clear ho hb hg hat))
             go_roundg k2
             case measure => have := HK1.out; have := HK2.out; omega
             case rel => exact ⟨(y384), (wrap64 (x10_2 + 1)), (by first | rfl | (simp; done) | (simp [*]; done)), H', ⟨by have := HK1.out; have := HK2.out; omega⟩, ⟨by (with_reducible repeat (first | apply Kd.S_alloc | apply Kd.S_drewN | apply Kd.S_drew)); exact Kd.S_mono HO_7.out (fun _ hk => hk.2)⟩, ⟨by (with_reducible repeat (first | apply Kd.R_alloc | apply Kd.R_drewN | apply Kd.R_drew)); exact HO386.out⟩, ⟨by (with_reducible repeat (first | refine blk_drewN ?_ _ | refine blk_drew ?_ | refine blk_alloc ?_ _)); exact BK357.out⟩, ⟨by (with_reducible repeat (first | refine blk_drewN ?_ _ | refine blk_drew ?_ | refine blk_alloc ?_ _)); exact BK358.out⟩, ⟨by repeat (first | (with_reducible first | exact HB.out | apply below_alloc | apply pw_below_drewN | apply below_drew1 | refine below_set ?_ GE357.out | refine below_set ?_ GE358.out) | exact HB.out)⟩⟩
            ·rw [if_neg c13] at H
             exact absurd H (by simp)
           ·rw [if_neg c12] at H
            exact absurd H (by simp)
          ·rw [if_neg c11] at H
           have c11b0 : decide (x8_1 < a2_1) = false := decide_eq_false c11
           clear c11
           by_cases c18 : x8_1 = a2_1
           ·rw [if_pos c18] at H
            have c18b0 : (x8_1 == a2_1) = true := beq_iff_eq.mpr c18
            have c18b1 : (x8_1 != a2_1) = false := bne_eq_false_iff_eq.mpr c18
            clear c18
            by_cases c19 : x10_2 < a2_2
            ·rw [if_pos c19] at H
             have c19b0 : decide (x10_2 < a2_2) = true := decide_eq_true c19
             clear c19
             by_cases c20 : 0 ≤ x10_2
             ·rw [if_pos c20] at H
              have c20b0 : decide (0 ≤ x10_2) = true := decide_eq_true c20
              clear c20
              by_cases c21 : x9_2.length < 17592186044416
              ·rw [if_pos c21] at H
               have LMc21 := Aside0.mk c21
               clear c21
               obtain ⟨y389, hy389⟩ : ∃ y_ : List Int, y_ = (x9_2 ++ [rd ((rd_T41 l0 x8_1).f0) x10_2]) := ⟨_, rfl⟩
               replace H : (compositorref17_Cut.l1 k2 l0 x7_1 x8_1 y389 (wrap64 (x10_2 + 1)) a1_0 a1_1 a1_2 a2_0 a2_1 a2_2) = some r := by first | (rw [hy389]; with_reducible exact H) | (have H2_ := (Option.bind_some _ _).symm.trans H; rw [hy389]; with_reducible exact H2_) | (have H2_ := (Option.bind_some _ _).symm.trans H; with_reducible exact H2_) | with_reducible exact H | (rw [hy389]; exact H) | exact H
               have Ny389 := Aside0.mk hy389
               clear hy389
               have H' := Aside0.mk H
               clear H
               have p381 : 0 ≤ (x8_1 : Int) := odt
               have q381 : x8_1 < (l0.length : Int) := odt
               obtain ⟨ad381, A381_0, c381_0, A381_1, c381_1, e381, hx381_0, hx381_1, hl381_0, hi381_0, hl381_1, hi381_1⟩ := at_T41 HR0.out x8_1 p381 q381
               cases e381
               replace hx381_0 := (HB.out.cell (World.block_lt_of_cell? w _ hx381_0)).trans hx381_0
               replace hx381_1 := (HB.out.cell (World.block_lt_of_cell? w _ hx381_1)).trans hx381_1
               have HR381_0 := Aside0.mk hi381_0
               have HC381_0 := Aside0.mk hl381_0
               clear hi381_0 hl381_0
               have HR381_1 := Aside0.mk hi381_1
               have HC381_1 := Aside0.mk hl381_1
               clear hi381_1 hl381_1
               replace p381 := eq_true p381
               replace q381 := eq_true q381
               have hnb22 := NB357_358.out
               have hnc22 := NB358_357.out
               have hcz23_0 : wr.cell? ⟨gb357, 0, none⟩ = some (.int .i64 a1_0) := (blk_cell BK357.out 0).trans rfl
               have hcz23_1 : wr.cell? ⟨gb357, 1, none⟩ = some (.int .i64 a1_1) := (blk_cell BK357.out 1).trans rfl
               have hcz23_2 : wr.cell? ⟨gb357, 2, none⟩ = some (.int .i64 a1_2) := (blk_cell BK357.out 2).trans rfl
               have hfz23_0 := blk_frozen BK357.out 0
               have hfz23_1 := blk_frozen BK357.out 1
               have hfz23_2 := blk_frozen BK357.out 2
               have hcz24_0 : wr.cell? ⟨gb358, 0, none⟩ = some (.int .i64 a2_0) := (blk_cell BK358.out 0).trans rfl
               have hcz24_1 : wr.cell? ⟨gb358, 1, none⟩ = some (.int .i64 a2_1) := (blk_cell BK358.out 1).trans rfl
               have hcz24_2 : wr.cell? ⟨gb358, 2, none⟩ = some (.int .i64 a2_2) := (blk_cell BK358.out 2).trans rfl
               have hfz24_0 := blk_frozen BK358.out 0
               have hfz24_1 := blk_frozen BK358.out 1
               have hfz24_2 := blk_frozen BK358.out 2
               have p387 : 0 ≤ (x8_1 : Int) := odt
               have q387 : x8_1 < (l0.length : Int) := odt
               obtain ⟨ad387, A387_0, c387_0, A387_1, c387_1, e387, hx387_0, hx387_1, hl387_0, hi387_0, hl387_1, hi387_1⟩ := at_T41 HR0.out x8_1 p387 q387
               obtain rfl : ad381 = ad387 := (by injection e387)
               replace hx387_0 := (HB.out.cell (World.block_lt_of_cell? w _ hx387_0)).trans hx387_0
               replace hx387_1 := (HB.out.cell (World.block_lt_of_cell? w _ hx387_1)).trans hx387_1
               have HR387_0 := Aside0.mk hi387_0
               have HC387_0 := Aside0.mk hl387_0
               clear hi387_0 hl387_0
               have HR387_1 := Aside0.mk hi387_1
               have HC387_1 := Aside0.mk hl387_1
               clear hi387_1 hl387_1
               replace p387 := eq_true p387
               replace q387 := eq_true q387
               have ea_ := Option.some.inj (hx381_0.symm.trans hx387_0)
               injection ea_ with ea_ en_ ec_
               subst ea_
               subst ec_
               clear en_
               have ea_ := Option.some.inj (hx381_1.symm.trans hx387_1)
               injection ea_ with ea_ en_ ec_
               subst ea_
               subst ec_
               clear en_
               have p388 : 0 ≤ (x10_2 : Int) := odt
               have q388 : x10_2 < (((rd_T41 l0 x8_1).f0).length : Int) := odt
               obtain ⟨ad388, e388, hx388_0⟩ := Kd.at_int HR387_0.out x10_2 p388 q388
               cases e388
               replace hx388_0 := (HB.out.cell (World.block_lt_of_cell? w _ hx388_0)).trans hx388_0
               replace p388 := eq_true p388
               replace q388 := eq_true q388
               go_wp2_with (first | ((with_reducible refine gate_builtin (b := .append) (xs := #[.tmp 70, .tmp 79]) rfl ?_); at_builtin; refine Kd.R_append (Kd.int .i64) (w0 := w) w.heap.size rfl (.tmp 70) (.tmp 79) 36 3 (.int .i64 0) 8 rfl Try.underlying36 info3 rfl (by decide) (by omega) u9 x9_2 (rd ((rd_T41 l0 x8_1).f0) x10_2) [.int .i64 (rd ((rd_T41 l0 x8_1).f0) x10_2)] (fun _ => True) (fun _ => False) rfl rfl ?aP (fun _ hk => hk.elim) ?aF ?aO ?aB ?aS ?aL ?_; (case aP => exact rfl); (case aB => exact (by repeat (first | (with_reducible first | exact HB.out | apply below_alloc | apply pw_below_drewN | apply below_drew1 | refine below_set ?_ GE357.out | refine below_set ?_ GE358.out) | exact HB.out))); (case aF => exact (fun _ _ => trivial)); (case aO => exact (by (with_reducible repeat (first | apply Kd.R_alloc | apply Kd.R_drewN | apply Kd.R_drew)); exact HO_9.out)); (case aS => exact (below_size (by repeat (first | (with_reducible first | exact HB.out | apply below_alloc | apply pw_below_drewN | apply below_drew1 | refine below_set ?_ GE357.out | refine below_set ?_ GE358.out) | exact HB.out)))); (case aL => have := LMc21.out; omega); intro v390 w25 ho hb hg hat; rw [← Ny389.out] at ho; have n0_ := Aside0.mk (Kd.S_after (ok := (fun _ => True)) (by (with_reducible repeat (first | apply Kd.S_alloc | apply Kd.S_drewN | apply Kd.S_drew)); exact Kd.S_mono HO_7.out (fun _ hk => ⟨trivial, hk⟩)) hg hat); have n1_ := Aside0.mk (blk_grown (g := gb357) (o := .cells #[.int .i64 a1_0, .int .i64 a1_1, .int .i64 a1_2] 24 (0, 0)) (by (with_reducible repeat (first | refine blk_drewN ?_ _ | refine blk_drew ?_ | refine blk_alloc ?_ _)); exact BK357.out) hg (Kd.R_ne HO_9.out BK357.out (by decide))); have n2_ := Aside0.mk (blk_grown (g := gb358) (o := .cells #[.int .i64 a2_0, .int .i64 a2_1, .int .i64 a2_2] 24 (0, 0)) (by (with_reducible repeat (first | refine blk_drewN ?_ _ | refine blk_drew ?_ | refine blk_alloc ?_ _)); exact BK358.out) hg (Kd.R_ne HO_9.out BK358.out (by decide))); have n3_ := Aside0.mk (hb); have n4_ := Aside0.mk (ho); clear HO_7; clear BK357; clear BK358; clear HB; clear HO_9; have HO_7 := n0_; have BK357 := n1_; have BK358 := n2_; have HB := n3_; have HO391 := n4_; clear n0_ n1_ n2_ n3_ n4_; clear ho hb hg hat))
               go_roundg k2
               case measure => have := HK1.out; have := HK2.out; omega
               case rel => exact ⟨(y389), (wrap64 (x10_2 + 1)), (by first | rfl | (simp; done) | (simp [*]; done)), H', ⟨by have := HK1.out; have := HK2.out; omega⟩, ⟨by (with_reducible repeat (first | apply Kd.S_alloc | apply Kd.S_drewN | apply Kd.S_drew)); exact Kd.S_mono HO_7.out (fun _ hk => hk.2)⟩, ⟨by (with_reducible repeat (first | apply Kd.R_alloc | apply Kd.R_drewN | apply Kd.R_drew)); exact HO391.out⟩, ⟨by (with_reducible repeat (first | refine blk_drewN ?_ _ | refine blk_drew ?_ | refine blk_alloc ?_ _)); exact BK357.out⟩, ⟨by (with_reducible repeat (first | refine blk_drewN ?_ _ | refine blk_drew ?_ | refine blk_alloc ?_ _)); exact BK358.out⟩, ⟨by repeat (first | (with_reducible first | exact HB.out | apply below_alloc | apply pw_below_drewN | apply below_drew1 | refine below_set ?_ GE357.out | refine below_set ?_ GE358.out) | exact HB.out)⟩⟩
              ·rw [if_neg c21] at H
               exact absurd H (by simp)
             ·rw [if_neg c20] at H
              exact absurd H (by simp)
            ·rw [if_neg c19] at H
             have c19b0 : decide (x10_2 < a2_2) = false := decide_eq_false c19
             clear c19
             have H' := Aside0.mk H
             clear H
             have p381 : 0 ≤ (x8_1 : Int) := odt
             have q381 : x8_1 < (l0.length : Int) := odt
             obtain ⟨ad381, A381_0, c381_0, A381_1, c381_1, e381, hx381_0, hx381_1, hl381_0, hi381_0, hl381_1, hi381_1⟩ := at_T41 HR0.out x8_1 p381 q381
             cases e381
             replace hx381_0 := (HB.out.cell (World.block_lt_of_cell? w _ hx381_0)).trans hx381_0
             replace hx381_1 := (HB.out.cell (World.block_lt_of_cell? w _ hx381_1)).trans hx381_1
             have HR381_0 := Aside0.mk hi381_0
             have HC381_0 := Aside0.mk hl381_0
             clear hi381_0 hl381_0
             have HR381_1 := Aside0.mk hi381_1
             have HC381_1 := Aside0.mk hl381_1
             clear hi381_1 hl381_1
             replace p381 := eq_true p381
             replace q381 := eq_true q381
             have hnb26 := NB357_358.out
             have hnc26 := NB358_357.out
             have hcz27_0 : wr.cell? ⟨gb357, 0, none⟩ = some (.int .i64 a1_0) := (blk_cell BK357.out 0).trans rfl
             have hcz27_1 : wr.cell? ⟨gb357, 1, none⟩ = some (.int .i64 a1_1) := (blk_cell BK357.out 1).trans rfl
             have hcz27_2 : wr.cell? ⟨gb357, 2, none⟩ = some (.int .i64 a1_2) := (blk_cell BK357.out 2).trans rfl
             have hfz27_0 := blk_frozen BK357.out 0
             have hfz27_1 := blk_frozen BK357.out 1
             have hfz27_2 := blk_frozen BK357.out 2
             have hcz28_0 : wr.cell? ⟨gb358, 0, none⟩ = some (.int .i64 a2_0) := (blk_cell BK358.out 0).trans rfl
             have hcz28_1 : wr.cell? ⟨gb358, 1, none⟩ = some (.int .i64 a2_1) := (blk_cell BK358.out 1).trans rfl
             have hcz28_2 : wr.cell? ⟨gb358, 2, none⟩ = some (.int .i64 a2_2) := (blk_cell BK358.out 2).trans rfl
             have hfz28_0 := blk_frozen BK358.out 0
             have hfz28_1 := blk_frozen BK358.out 1
             have hfz28_2 := blk_frozen BK358.out 2
             go_wp2
             go_roundg k2
             case measure => have := HK1.out; have := HK2.out; omega
             case rel => exact ⟨(x9_2), (wrap64 (x10_2 + 1)), (by first | rfl | (simp; done) | (simp [*]; done)), H', ⟨by have := HK1.out; have := HK2.out; omega⟩, ⟨by (with_reducible repeat (first | apply Kd.S_alloc | apply Kd.S_drewN | apply Kd.S_drew)); exact HO_7.out⟩, ⟨by (with_reducible repeat (first | apply Kd.R_alloc | apply Kd.R_drewN | apply Kd.R_drew)); exact HO_9.out⟩, ⟨by (with_reducible repeat (first | refine blk_drewN ?_ _ | refine blk_drew ?_ | refine blk_alloc ?_ _)); exact BK357.out⟩, ⟨by (with_reducible repeat (first | refine blk_drewN ?_ _ | refine blk_drew ?_ | refine blk_alloc ?_ _)); exact BK358.out⟩, ⟨by repeat (first | (with_reducible first | exact HB.out | apply below_alloc | apply pw_below_drewN | apply below_drew1 | refine below_set ?_ GE357.out | refine below_set ?_ GE358.out) | exact HB.out)⟩⟩
           ·rw [if_neg c18] at H
            have c18b0 : (x8_1 == a2_1) = false := beq_eq_false_iff_ne.mpr c18
            have c18b1 : (x8_1 != a2_1) = true := bne_iff_ne.mpr c18
            have H' := Aside0.mk H
            clear H
            have p381 : 0 ≤ (x8_1 : Int) := odt
            have q381 : x8_1 < (l0.length : Int) := odt
            obtain ⟨ad381, A381_0, c381_0, A381_1, c381_1, e381, hx381_0, hx381_1, hl381_0, hi381_0, hl381_1, hi381_1⟩ := at_T41 HR0.out x8_1 p381 q381
            cases e381
            replace hx381_0 := (HB.out.cell (World.block_lt_of_cell? w _ hx381_0)).trans hx381_0
            replace hx381_1 := (HB.out.cell (World.block_lt_of_cell? w _ hx381_1)).trans hx381_1
            have HR381_0 := Aside0.mk hi381_0
            have HC381_0 := Aside0.mk hl381_0
            clear hi381_0 hl381_0
            have HR381_1 := Aside0.mk hi381_1
            have HC381_1 := Aside0.mk hl381_1
            clear hi381_1 hl381_1
            replace p381 := eq_true p381
            replace q381 := eq_true q381
            have hnb29 := NB357_358.out
            have hnc29 := NB358_357.out
            have hcz30_0 : wr.cell? ⟨gb357, 0, none⟩ = some (.int .i64 a1_0) := (blk_cell BK357.out 0).trans rfl
            have hcz30_1 : wr.cell? ⟨gb357, 1, none⟩ = some (.int .i64 a1_1) := (blk_cell BK357.out 1).trans rfl
            have hcz30_2 : wr.cell? ⟨gb357, 2, none⟩ = some (.int .i64 a1_2) := (blk_cell BK357.out 2).trans rfl
            have hfz30_0 := blk_frozen BK357.out 0
            have hfz30_1 := blk_frozen BK357.out 1
            have hfz30_2 := blk_frozen BK357.out 2
            have hcz31_0 : wr.cell? ⟨gb358, 0, none⟩ = some (.int .i64 a2_0) := (blk_cell BK358.out 0).trans rfl
            have hcz31_1 : wr.cell? ⟨gb358, 1, none⟩ = some (.int .i64 a2_1) := (blk_cell BK358.out 1).trans rfl
            have hcz31_2 : wr.cell? ⟨gb358, 2, none⟩ = some (.int .i64 a2_2) := (blk_cell BK358.out 2).trans rfl
            have hfz31_0 := blk_frozen BK358.out 0
            have hfz31_1 := blk_frozen BK358.out 1
            have hfz31_2 := blk_frozen BK358.out 2
            go_wp2
            go_roundg k2
            case measure => have := HK1.out; have := HK2.out; omega
            case rel => exact ⟨(x9_2), (wrap64 (x10_2 + 1)), (by first | rfl | (simp; done) | (simp [*]; done)), H', ⟨by have := HK1.out; have := HK2.out; omega⟩, ⟨by (with_reducible repeat (first | apply Kd.S_alloc | apply Kd.S_drewN | apply Kd.S_drew)); exact HO_7.out⟩, ⟨by (with_reducible repeat (first | apply Kd.R_alloc | apply Kd.R_drewN | apply Kd.R_drew)); exact HO_9.out⟩, ⟨by (with_reducible repeat (first | refine blk_drewN ?_ _ | refine blk_drew ?_ | refine blk_alloc ?_ _)); exact BK357.out⟩, ⟨by (with_reducible repeat (first | refine blk_drewN ?_ _ | refine blk_drew ?_ | refine blk_alloc ?_ _)); exact BK358.out⟩, ⟨by repeat (first | (with_reducible first | exact HB.out | apply below_alloc | apply pw_below_drewN | apply below_drew1 | refine below_set ?_ GE357.out | refine below_set ?_ GE358.out) | exact HB.out)⟩⟩
         ·rw [if_neg c10] at H
          have c10b0 : (a1_0 == 0) = false := beq_eq_false_iff_ne.mpr c10
          have c10b1 : (a1_0 != 0) = true := bne_iff_ne.mpr c10
          by_cases c32 : x8_1 > a1_1
          ·rw [if_pos c32] at H
           have c32b0 : decide (a1_1 < x8_1) = true := decide_eq_true c32
           clear c32
           by_cases c33 : x8_1 < a2_1
           ·rw [if_pos c33] at H
            have c33b0 : decide (x8_1 < a2_1) = true := decide_eq_true c33
            clear c33
            by_cases c34 : 0 ≤ x10_2
            ·rw [if_pos c34] at H
             have c34b0 : decide (0 ≤ x10_2) = true := decide_eq_true c34
             clear c34
             by_cases c35 : x9_2.length < 17592186044416
             ·rw [if_pos c35] at H
              have LMc35 := Aside0.mk c35
              clear c35
              obtain ⟨y394, hy394⟩ : ∃ y_ : List Int, y_ = (x9_2 ++ [rd ((rd_T41 l0 x8_1).f0) x10_2]) := ⟨_, rfl⟩
              replace H : (compositorref17_Cut.l1 k2 l0 x7_1 x8_1 y394 (wrap64 (x10_2 + 1)) a1_0 a1_1 a1_2 a2_0 a2_1 a2_2) = some r := by first | (rw [hy394]; with_reducible exact H) | (have H2_ := (Option.bind_some _ _).symm.trans H; rw [hy394]; with_reducible exact H2_) | (have H2_ := (Option.bind_some _ _).symm.trans H; with_reducible exact H2_) | with_reducible exact H | (rw [hy394]; exact H) | exact H
              have Ny394 := Aside0.mk hy394
              clear hy394
              have H' := Aside0.mk H
              clear H
              have p381 : 0 ≤ (x8_1 : Int) := odt
              have q381 : x8_1 < (l0.length : Int) := odt
              obtain ⟨ad381, A381_0, c381_0, A381_1, c381_1, e381, hx381_0, hx381_1, hl381_0, hi381_0, hl381_1, hi381_1⟩ := at_T41 HR0.out x8_1 p381 q381
              cases e381
              replace hx381_0 := (HB.out.cell (World.block_lt_of_cell? w _ hx381_0)).trans hx381_0
              replace hx381_1 := (HB.out.cell (World.block_lt_of_cell? w _ hx381_1)).trans hx381_1
              have HR381_0 := Aside0.mk hi381_0
              have HC381_0 := Aside0.mk hl381_0
              clear hi381_0 hl381_0
              have HR381_1 := Aside0.mk hi381_1
              have HC381_1 := Aside0.mk hl381_1
              clear hi381_1 hl381_1
              replace p381 := eq_true p381
              replace q381 := eq_true q381
              have hnb36 := NB357_358.out
              have hnc36 := NB358_357.out
              have hcz37_0 : wr.cell? ⟨gb357, 0, none⟩ = some (.int .i64 a1_0) := (blk_cell BK357.out 0).trans rfl
              have hcz37_1 : wr.cell? ⟨gb357, 1, none⟩ = some (.int .i64 a1_1) := (blk_cell BK357.out 1).trans rfl
              have hcz37_2 : wr.cell? ⟨gb357, 2, none⟩ = some (.int .i64 a1_2) := (blk_cell BK357.out 2).trans rfl
              have hfz37_0 := blk_frozen BK357.out 0
              have hfz37_1 := blk_frozen BK357.out 1
              have hfz37_2 := blk_frozen BK357.out 2
              have hcz38_0 : wr.cell? ⟨gb358, 0, none⟩ = some (.int .i64 a2_0) := (blk_cell BK358.out 0).trans rfl
              have hcz38_1 : wr.cell? ⟨gb358, 1, none⟩ = some (.int .i64 a2_1) := (blk_cell BK358.out 1).trans rfl
              have hcz38_2 : wr.cell? ⟨gb358, 2, none⟩ = some (.int .i64 a2_2) := (blk_cell BK358.out 2).trans rfl
              have hfz38_0 := blk_frozen BK358.out 0
              have hfz38_1 := blk_frozen BK358.out 1
              have hfz38_2 := blk_frozen BK358.out 2
              have p392 : 0 ≤ (x8_1 : Int) := odt
              have q392 : x8_1 < (l0.length : Int) := odt
              obtain ⟨ad392, A392_0, c392_0, A392_1, c392_1, e392, hx392_0, hx392_1, hl392_0, hi392_0, hl392_1, hi392_1⟩ := at_T41 HR0.out x8_1 p392 q392
              obtain rfl : ad381 = ad392 := (by injection e392)
              replace hx392_0 := (HB.out.cell (World.block_lt_of_cell? w _ hx392_0)).trans hx392_0
              replace hx392_1 := (HB.out.cell (World.block_lt_of_cell? w _ hx392_1)).trans hx392_1
              have HR392_0 := Aside0.mk hi392_0
              have HC392_0 := Aside0.mk hl392_0
              clear hi392_0 hl392_0
              have HR392_1 := Aside0.mk hi392_1
              have HC392_1 := Aside0.mk hl392_1
              clear hi392_1 hl392_1
              replace p392 := eq_true p392
              replace q392 := eq_true q392
              have ea_ := Option.some.inj (hx381_0.symm.trans hx392_0)
              injection ea_ with ea_ en_ ec_
              subst ea_
              subst ec_
              clear en_
              have ea_ := Option.some.inj (hx381_1.symm.trans hx392_1)
              injection ea_ with ea_ en_ ec_
              subst ea_
              subst ec_
              clear en_
              have p393 : 0 ≤ (x10_2 : Int) := odt
              have q393 : x10_2 < (((rd_T41 l0 x8_1).f0).length : Int) := odt
              obtain ⟨ad393, e393, hx393_0⟩ := Kd.at_int HR392_0.out x10_2 p393 q393
              cases e393
              replace hx393_0 := (HB.out.cell (World.block_lt_of_cell? w _ hx393_0)).trans hx393_0
              replace p393 := eq_true p393
              replace q393 := eq_true q393
              go_wp2_with (first | ((with_reducible refine gate_builtin (b := .append) (xs := #[.tmp 70, .tmp 79]) rfl ?_); at_builtin; refine Kd.R_append (Kd.int .i64) (w0 := w) w.heap.size rfl (.tmp 70) (.tmp 79) 36 3 (.int .i64 0) 8 rfl Try.underlying36 info3 rfl (by decide) (by omega) u9 x9_2 (rd ((rd_T41 l0 x8_1).f0) x10_2) [.int .i64 (rd ((rd_T41 l0 x8_1).f0) x10_2)] (fun _ => True) (fun _ => False) rfl rfl ?aP (fun _ hk => hk.elim) ?aF ?aO ?aB ?aS ?aL ?_; (case aP => exact rfl); (case aB => exact (by repeat (first | (with_reducible first | exact HB.out | apply below_alloc | apply pw_below_drewN | apply below_drew1 | refine below_set ?_ GE357.out | refine below_set ?_ GE358.out) | exact HB.out))); (case aF => exact (fun _ _ => trivial)); (case aO => exact (by (with_reducible repeat (first | apply Kd.R_alloc | apply Kd.R_drewN | apply Kd.R_drew)); exact HO_9.out)); (case aS => exact (below_size (by repeat (first | (with_reducible first | exact HB.out | apply below_alloc | apply pw_below_drewN | apply below_drew1 | refine below_set ?_ GE357.out | refine below_set ?_ GE358.out) | exact HB.out)))); (case aL => have := LMc35.out; omega); intro v395 w39 ho hb hg hat; rw [← Ny394.out] at ho; have n0_ := Aside0.mk (Kd.S_after (ok := (fun _ => True)) (by (with_reducible repeat (first | apply Kd.S_alloc | apply Kd.S_drewN | apply Kd.S_drew)); exact Kd.S_mono HO_7.out (fun _ hk => ⟨trivial, hk⟩)) hg hat); have n1_ := Aside0.mk (blk_grown (g := gb357) (o := .cells #[.int .i64 a1_0, .int .i64 a1_1, .int .i64 a1_2] 24 (0, 0)) (by (with_reducible repeat (first | refine blk_drewN ?_ _ | refine blk_drew ?_ | refine blk_alloc ?_ _)); exact BK357.out) hg (Kd.R_ne HO_9.out BK357.out (by decide))); have n2_ := Aside0.mk (blk_grown (g := gb358) (o := .cells #[.int .i64 a2_0, .int .i64 a2_1, .int .i64 a2_2] 24 (0, 0)) (by (with_reducible repeat (first | refine blk_drewN ?_ _ | refine blk_drew ?_ | refine blk_alloc ?_ _)); exact BK358.out) hg (Kd.R_ne HO_9.out BK358.out (by decide))); have n3_ := Aside0.mk (hb); have n4_ := Aside0.mk (ho); clear HO_7; clear BK357; clear BK358; clear HB; clear HO_9; have HO_7 := n0_; have BK357 := n1_; have BK358 := n2_; have HB := n3_; have HO396 := n4_; clear n0_ n1_ n2_ n3_ n4_; clear ho hb hg hat))
              go_roundg k2
              case measure => have := HK1.out; have := HK2.out; omega
              case rel => exact ⟨(y394), (wrap64 (x10_2 + 1)), (by first | rfl | (simp; done) | (simp [*]; done)), H', ⟨by have := HK1.out; have := HK2.out; omega⟩, ⟨by (with_reducible repeat (first | apply Kd.S_alloc | apply Kd.S_drewN | apply Kd.S_drew)); exact Kd.S_mono HO_7.out (fun _ hk => hk.2)⟩, ⟨by (with_reducible repeat (first | apply Kd.R_alloc | apply Kd.R_drewN | apply Kd.R_drew)); exact HO396.out⟩, ⟨by (with_reducible repeat (first | refine blk_drewN ?_ _ | refine blk_drew ?_ | refine blk_alloc ?_ _)); exact BK357.out⟩, ⟨by (with_reducible repeat (first | refine blk_drewN ?_ _ | refine blk_drew ?_ | refine blk_alloc ?_ _)); exact BK358.out⟩, ⟨by repeat (first | (with_reducible first | exact HB.out | apply below_alloc | apply pw_below_drewN | apply below_drew1 | refine below_set ?_ GE357.out | refine below_set ?_ GE358.out) | exact HB.out)⟩⟩
             ·rw [if_neg c35] at H
              exact absurd H (by simp)
            ·rw [if_neg c34] at H
             exact absurd H (by simp)
           ·rw [if_neg c33] at H
            have c33b0 : decide (x8_1 < a2_1) = false := decide_eq_false c33
            clear c33
            by_cases c40 : x8_1 = a2_1
            ·rw [if_pos c40] at H
             have c40b0 : (x8_1 == a2_1) = true := beq_iff_eq.mpr c40
             have c40b1 : (x8_1 != a2_1) = false := bne_eq_false_iff_eq.mpr c40
             clear c40
             by_cases c41 : x10_2 < a2_2
             ·rw [if_pos c41] at H
              have c41b0 : decide (x10_2 < a2_2) = true := decide_eq_true c41
              clear c41
              by_cases c42 : 0 ≤ x10_2
              ·rw [if_pos c42] at H
               have c42b0 : decide (0 ≤ x10_2) = true := decide_eq_true c42
               clear c42
               by_cases c43 : x9_2.length < 17592186044416
               ·rw [if_pos c43] at H
                have LMc43 := Aside0.mk c43
                clear c43
                obtain ⟨y399, hy399⟩ : ∃ y_ : List Int, y_ = (x9_2 ++ [rd ((rd_T41 l0 x8_1).f0) x10_2]) := ⟨_, rfl⟩
                replace H : (compositorref17_Cut.l1 k2 l0 x7_1 x8_1 y399 (wrap64 (x10_2 + 1)) a1_0 a1_1 a1_2 a2_0 a2_1 a2_2) = some r := by first | (rw [hy399]; with_reducible exact H) | (have H2_ := (Option.bind_some _ _).symm.trans H; rw [hy399]; with_reducible exact H2_) | (have H2_ := (Option.bind_some _ _).symm.trans H; with_reducible exact H2_) | with_reducible exact H | (rw [hy399]; exact H) | exact H
                have Ny399 := Aside0.mk hy399
                clear hy399
                have H' := Aside0.mk H
                clear H
                have p381 : 0 ≤ (x8_1 : Int) := odt
                have q381 : x8_1 < (l0.length : Int) := odt
                obtain ⟨ad381, A381_0, c381_0, A381_1, c381_1, e381, hx381_0, hx381_1, hl381_0, hi381_0, hl381_1, hi381_1⟩ := at_T41 HR0.out x8_1 p381 q381
                cases e381
                replace hx381_0 := (HB.out.cell (World.block_lt_of_cell? w _ hx381_0)).trans hx381_0
                replace hx381_1 := (HB.out.cell (World.block_lt_of_cell? w _ hx381_1)).trans hx381_1
                have HR381_0 := Aside0.mk hi381_0
                have HC381_0 := Aside0.mk hl381_0
                clear hi381_0 hl381_0
                have HR381_1 := Aside0.mk hi381_1
                have HC381_1 := Aside0.mk hl381_1
                clear hi381_1 hl381_1
                replace p381 := eq_true p381
                replace q381 := eq_true q381
                have hnb44 := NB357_358.out
                have hnc44 := NB358_357.out
                have hcz45_0 : wr.cell? ⟨gb357, 0, none⟩ = some (.int .i64 a1_0) := (blk_cell BK357.out 0).trans rfl
                have hcz45_1 : wr.cell? ⟨gb357, 1, none⟩ = some (.int .i64 a1_1) := (blk_cell BK357.out 1).trans rfl
                have hcz45_2 : wr.cell? ⟨gb357, 2, none⟩ = some (.int .i64 a1_2) := (blk_cell BK357.out 2).trans rfl
                have hfz45_0 := blk_frozen BK357.out 0
                have hfz45_1 := blk_frozen BK357.out 1
                have hfz45_2 := blk_frozen BK357.out 2
                have hcz46_0 : wr.cell? ⟨gb358, 0, none⟩ = some (.int .i64 a2_0) := (blk_cell BK358.out 0).trans rfl
                have hcz46_1 : wr.cell? ⟨gb358, 1, none⟩ = some (.int .i64 a2_1) := (blk_cell BK358.out 1).trans rfl
                have hcz46_2 : wr.cell? ⟨gb358, 2, none⟩ = some (.int .i64 a2_2) := (blk_cell BK358.out 2).trans rfl
                have hfz46_0 := blk_frozen BK358.out 0
                have hfz46_1 := blk_frozen BK358.out 1
                have hfz46_2 := blk_frozen BK358.out 2
                have p397 : 0 ≤ (x8_1 : Int) := odt
                have q397 : x8_1 < (l0.length : Int) := odt
                obtain ⟨ad397, A397_0, c397_0, A397_1, c397_1, e397, hx397_0, hx397_1, hl397_0, hi397_0, hl397_1, hi397_1⟩ := at_T41 HR0.out x8_1 p397 q397
                obtain rfl : ad381 = ad397 := (by injection e397)
                replace hx397_0 := (HB.out.cell (World.block_lt_of_cell? w _ hx397_0)).trans hx397_0
                replace hx397_1 := (HB.out.cell (World.block_lt_of_cell? w _ hx397_1)).trans hx397_1
                have HR397_0 := Aside0.mk hi397_0
                have HC397_0 := Aside0.mk hl397_0
                clear hi397_0 hl397_0
                have HR397_1 := Aside0.mk hi397_1
                have HC397_1 := Aside0.mk hl397_1
                clear hi397_1 hl397_1
                replace p397 := eq_true p397
                replace q397 := eq_true q397
                have ea_ := Option.some.inj (hx381_0.symm.trans hx397_0)
                injection ea_ with ea_ en_ ec_
                subst ea_
                subst ec_
                clear en_
                have ea_ := Option.some.inj (hx381_1.symm.trans hx397_1)
                injection ea_ with ea_ en_ ec_
                subst ea_
                subst ec_
                clear en_
                have p398 : 0 ≤ (x10_2 : Int) := odt
                have q398 : x10_2 < (((rd_T41 l0 x8_1).f0).length : Int) := odt
                obtain ⟨ad398, e398, hx398_0⟩ := Kd.at_int HR397_0.out x10_2 p398 q398
                cases e398
                replace hx398_0 := (HB.out.cell (World.block_lt_of_cell? w _ hx398_0)).trans hx398_0
                replace p398 := eq_true p398
                replace q398 := eq_true q398
                go_wp2_with (first | ((with_reducible refine gate_builtin (b := .append) (xs := #[.tmp 70, .tmp 79]) rfl ?_); at_builtin; refine Kd.R_append (Kd.int .i64) (w0 := w) w.heap.size rfl (.tmp 70) (.tmp 79) 36 3 (.int .i64 0) 8 rfl Try.underlying36 info3 rfl (by decide) (by omega) u9 x9_2 (rd ((rd_T41 l0 x8_1).f0) x10_2) [.int .i64 (rd ((rd_T41 l0 x8_1).f0) x10_2)] (fun _ => True) (fun _ => False) rfl rfl ?aP (fun _ hk => hk.elim) ?aF ?aO ?aB ?aS ?aL ?_; (case aP => exact rfl); (case aB => exact (by repeat (first | (with_reducible first | exact HB.out | apply below_alloc | apply pw_below_drewN | apply below_drew1 | refine below_set ?_ GE357.out | refine below_set ?_ GE358.out) | exact HB.out))); (case aF => exact (fun _ _ => trivial)); (case aO => exact (by (with_reducible repeat (first | apply Kd.R_alloc | apply Kd.R_drewN | apply Kd.R_drew)); exact HO_9.out)); (case aS => exact (below_size (by repeat (first | (with_reducible first | exact HB.out | apply below_alloc | apply pw_below_drewN | apply below_drew1 | refine below_set ?_ GE357.out | refine below_set ?_ GE358.out) | exact HB.out)))); (case aL => have := LMc43.out; omega); intro v400 w47 ho hb hg hat; rw [← Ny399.out] at ho; have n0_ := Aside0.mk (Kd.S_after (ok := (fun _ => True)) (by (with_reducible repeat (first | apply Kd.S_alloc | apply Kd.S_drewN | apply Kd.S_drew)); exact Kd.S_mono HO_7.out (fun _ hk => ⟨trivial, hk⟩)) hg hat); have n1_ := Aside0.mk (blk_grown (g := gb357) (o := .cells #[.int .i64 a1_0, .int .i64 a1_1, .int .i64 a1_2] 24 (0, 0)) (by (with_reducible repeat (first | refine blk_drewN ?_ _ | refine blk_drew ?_ | refine blk_alloc ?_ _)); exact BK357.out) hg (Kd.R_ne HO_9.out BK357.out (by decide))); have n2_ := Aside0.mk (blk_grown (g := gb358) (o := .cells #[.int .i64 a2_0, .int .i64 a2_1, .int .i64 a2_2] 24 (0, 0)) (by (with_reducible repeat (first | refine blk_drewN ?_ _ | refine blk_drew ?_ | refine blk_alloc ?_ _)); exact BK358.out) hg (Kd.R_ne HO_9.out BK358.out (by decide))); have n3_ := Aside0.mk (hb); have n4_ := Aside0.mk (ho); clear HO_7; clear BK357; clear BK358; clear HB; clear HO_9; have HO_7 := n0_; have BK357 := n1_; have BK358 := n2_; have HB := n3_; have HO401 := n4_; clear n0_ n1_ n2_ n3_ n4_; clear ho hb hg hat))
                go_roundg k2
                case measure => have := HK1.out; have := HK2.out; omega
                case rel => exact ⟨(y399), (wrap64 (x10_2 + 1)), (by first | rfl | (simp; done) | (simp [*]; done)), H', ⟨by have := HK1.out; have := HK2.out; omega⟩, ⟨by (with_reducible repeat (first | apply Kd.S_alloc | apply Kd.S_drewN | apply Kd.S_drew)); exact Kd.S_mono HO_7.out (fun _ hk => hk.2)⟩, ⟨by (with_reducible repeat (first | apply Kd.R_alloc | apply Kd.R_drewN | apply Kd.R_drew)); exact HO401.out⟩, ⟨by (with_reducible repeat (first | refine blk_drewN ?_ _ | refine blk_drew ?_ | refine blk_alloc ?_ _)); exact BK357.out⟩, ⟨by (with_reducible repeat (first | refine blk_drewN ?_ _ | refine blk_drew ?_ | refine blk_alloc ?_ _)); exact BK358.out⟩, ⟨by repeat (first | (with_reducible first | exact HB.out | apply below_alloc | apply pw_below_drewN | apply below_drew1 | refine below_set ?_ GE357.out | refine below_set ?_ GE358.out) | exact HB.out)⟩⟩
               ·rw [if_neg c43] at H
                exact absurd H (by simp)
              ·rw [if_neg c42] at H
               exact absurd H (by simp)
             ·rw [if_neg c41] at H
              have c41b0 : decide (x10_2 < a2_2) = false := decide_eq_false c41
              clear c41
              have H' := Aside0.mk H
              clear H
              have p381 : 0 ≤ (x8_1 : Int) := odt
              have q381 : x8_1 < (l0.length : Int) := odt
              obtain ⟨ad381, A381_0, c381_0, A381_1, c381_1, e381, hx381_0, hx381_1, hl381_0, hi381_0, hl381_1, hi381_1⟩ := at_T41 HR0.out x8_1 p381 q381
              cases e381
              replace hx381_0 := (HB.out.cell (World.block_lt_of_cell? w _ hx381_0)).trans hx381_0
              replace hx381_1 := (HB.out.cell (World.block_lt_of_cell? w _ hx381_1)).trans hx381_1
              have HR381_0 := Aside0.mk hi381_0
              have HC381_0 := Aside0.mk hl381_0
              clear hi381_0 hl381_0
              have HR381_1 := Aside0.mk hi381_1
              have HC381_1 := Aside0.mk hl381_1
              clear hi381_1 hl381_1
              replace p381 := eq_true p381
              replace q381 := eq_true q381
              have hnb48 := NB357_358.out
              have hnc48 := NB358_357.out
              have hcz49_0 : wr.cell? ⟨gb357, 0, none⟩ = some (.int .i64 a1_0) := (blk_cell BK357.out 0).trans rfl
              have hcz49_1 : wr.cell? ⟨gb357, 1, none⟩ = some (.int .i64 a1_1) := (blk_cell BK357.out 1).trans rfl
              have hcz49_2 : wr.cell? ⟨gb357, 2, none⟩ = some (.int .i64 a1_2) := (blk_cell BK357.out 2).trans rfl
              have hfz49_0 := blk_frozen BK357.out 0
              have hfz49_1 := blk_frozen BK357.out 1
              have hfz49_2 := blk_frozen BK357.out 2
              have hcz50_0 : wr.cell? ⟨gb358, 0, none⟩ = some (.int .i64 a2_0) := (blk_cell BK358.out 0).trans rfl
              have hcz50_1 : wr.cell? ⟨gb358, 1, none⟩ = some (.int .i64 a2_1) := (blk_cell BK358.out 1).trans rfl
              have hcz50_2 : wr.cell? ⟨gb358, 2, none⟩ = some (.int .i64 a2_2) := (blk_cell BK358.out 2).trans rfl
              have hfz50_0 := blk_frozen BK358.out 0
              have hfz50_1 := blk_frozen BK358.out 1
              have hfz50_2 := blk_frozen BK358.out 2
              go_wp2
              go_roundg k2
              case measure => have := HK1.out; have := HK2.out; omega
              case rel => exact ⟨(x9_2), (wrap64 (x10_2 + 1)), (by first | rfl | (simp; done) | (simp [*]; done)), H', ⟨by have := HK1.out; have := HK2.out; omega⟩, ⟨by (with_reducible repeat (first | apply Kd.S_alloc | apply Kd.S_drewN | apply Kd.S_drew)); exact HO_7.out⟩, ⟨by (with_reducible repeat (first | apply Kd.R_alloc | apply Kd.R_drewN | apply Kd.R_drew)); exact HO_9.out⟩, ⟨by (with_reducible repeat (first | refine blk_drewN ?_ _ | refine blk_drew ?_ | refine blk_alloc ?_ _)); exact BK357.out⟩, ⟨by (with_reducible repeat (first | refine blk_drewN ?_ _ | refine blk_drew ?_ | refine blk_alloc ?_ _)); exact BK358.out⟩, ⟨by repeat (first | (with_reducible first | exact HB.out | apply below_alloc | apply pw_below_drewN | apply below_drew1 | refine below_set ?_ GE357.out | refine below_set ?_ GE358.out) | exact HB.out)⟩⟩
            ·rw [if_neg c40] at H
             have c40b0 : (x8_1 == a2_1) = false := beq_eq_false_iff_ne.mpr c40
             have c40b1 : (x8_1 != a2_1) = true := bne_iff_ne.mpr c40
             have H' := Aside0.mk H
             clear H
             have p381 : 0 ≤ (x8_1 : Int) := odt
             have q381 : x8_1 < (l0.length : Int) := odt
             obtain ⟨ad381, A381_0, c381_0, A381_1, c381_1, e381, hx381_0, hx381_1, hl381_0, hi381_0, hl381_1, hi381_1⟩ := at_T41 HR0.out x8_1 p381 q381
             cases e381
             replace hx381_0 := (HB.out.cell (World.block_lt_of_cell? w _ hx381_0)).trans hx381_0
             replace hx381_1 := (HB.out.cell (World.block_lt_of_cell? w _ hx381_1)).trans hx381_1
             have HR381_0 := Aside0.mk hi381_0
             have HC381_0 := Aside0.mk hl381_0
             clear hi381_0 hl381_0
             have HR381_1 := Aside0.mk hi381_1
             have HC381_1 := Aside0.mk hl381_1
             clear hi381_1 hl381_1
             replace p381 := eq_true p381
             replace q381 := eq_true q381
             have hnb51 := NB357_358.out
             have hnc51 := NB358_357.out
             have hcz52_0 : wr.cell? ⟨gb357, 0, none⟩ = some (.int .i64 a1_0) := (blk_cell BK357.out 0).trans rfl
             have hcz52_1 : wr.cell? ⟨gb357, 1, none⟩ = some (.int .i64 a1_1) := (blk_cell BK357.out 1).trans rfl
             have hcz52_2 : wr.cell? ⟨gb357, 2, none⟩ = some (.int .i64 a1_2) := (blk_cell BK357.out 2).trans rfl
             have hfz52_0 := blk_frozen BK357.out 0
             have hfz52_1 := blk_frozen BK357.out 1
             have hfz52_2 := blk_frozen BK357.out 2
             have hcz53_0 : wr.cell? ⟨gb358, 0, none⟩ = some (.int .i64 a2_0) := (blk_cell BK358.out 0).trans rfl
             have hcz53_1 : wr.cell? ⟨gb358, 1, none⟩ = some (.int .i64 a2_1) := (blk_cell BK358.out 1).trans rfl
             have hcz53_2 : wr.cell? ⟨gb358, 2, none⟩ = some (.int .i64 a2_2) := (blk_cell BK358.out 2).trans rfl
             have hfz53_0 := blk_frozen BK358.out 0
             have hfz53_1 := blk_frozen BK358.out 1
             have hfz53_2 := blk_frozen BK358.out 2
             go_wp2
             go_roundg k2
             case measure => have := HK1.out; have := HK2.out; omega
             case rel => exact ⟨(x9_2), (wrap64 (x10_2 + 1)), (by first | rfl | (simp; done) | (simp [*]; done)), H', ⟨by have := HK1.out; have := HK2.out; omega⟩, ⟨by (with_reducible repeat (first | apply Kd.S_alloc | apply Kd.S_drewN | apply Kd.S_drew)); exact HO_7.out⟩, ⟨by (with_reducible repeat (first | apply Kd.R_alloc | apply Kd.R_drewN | apply Kd.R_drew)); exact HO_9.out⟩, ⟨by (with_reducible repeat (first | refine blk_drewN ?_ _ | refine blk_drew ?_ | refine blk_alloc ?_ _)); exact BK357.out⟩, ⟨by (with_reducible repeat (first | refine blk_drewN ?_ _ | refine blk_drew ?_ | refine blk_alloc ?_ _)); exact BK358.out⟩, ⟨by repeat (first | (with_reducible first | exact HB.out | apply below_alloc | apply pw_below_drewN | apply below_drew1 | refine below_set ?_ GE357.out | refine below_set ?_ GE358.out) | exact HB.out)⟩⟩
          ·rw [if_neg c32] at H
           have c32b0 : decide (a1_1 < x8_1) = false := decide_eq_false c32
           clear c32
           by_cases c54 : x8_1 = a1_1
           ·rw [if_pos c54] at H
            have c54b0 : (x8_1 == a1_1) = true := beq_iff_eq.mpr c54
            have c54b1 : (x8_1 != a1_1) = false := bne_eq_false_iff_eq.mpr c54
            clear c54
            by_cases c55 : x8_1 < a2_1
            ·rw [if_pos c55] at H
             have c55b0 : decide (x8_1 < a2_1) = true := decide_eq_true c55
             clear c55
             by_cases c56 : x10_2 ≥ a1_2
             ·rw [if_pos c56] at H
              have c56b0 : decide (a1_2 ≤ x10_2) = true := decide_eq_true c56
              clear c56
              by_cases c57 : 0 ≤ x10_2
              ·rw [if_pos c57] at H
               have c57b0 : decide (0 ≤ x10_2) = true := decide_eq_true c57
               clear c57
               by_cases c58 : x9_2.length < 17592186044416
               ·rw [if_pos c58] at H
                have LMc58 := Aside0.mk c58
                clear c58
                obtain ⟨y404, hy404⟩ : ∃ y_ : List Int, y_ = (x9_2 ++ [rd ((rd_T41 l0 x8_1).f0) x10_2]) := ⟨_, rfl⟩
                replace H : (compositorref17_Cut.l1 k2 l0 x7_1 x8_1 y404 (wrap64 (x10_2 + 1)) a1_0 a1_1 a1_2 a2_0 a2_1 a2_2) = some r := by first | (rw [hy404]; with_reducible exact H) | (have H2_ := (Option.bind_some _ _).symm.trans H; rw [hy404]; with_reducible exact H2_) | (have H2_ := (Option.bind_some _ _).symm.trans H; with_reducible exact H2_) | with_reducible exact H | (rw [hy404]; exact H) | exact H
                have Ny404 := Aside0.mk hy404
                clear hy404
                have H' := Aside0.mk H
                clear H
                have p381 : 0 ≤ (x8_1 : Int) := odt
                have q381 : x8_1 < (l0.length : Int) := odt
                obtain ⟨ad381, A381_0, c381_0, A381_1, c381_1, e381, hx381_0, hx381_1, hl381_0, hi381_0, hl381_1, hi381_1⟩ := at_T41 HR0.out x8_1 p381 q381
                cases e381
                replace hx381_0 := (HB.out.cell (World.block_lt_of_cell? w _ hx381_0)).trans hx381_0
                replace hx381_1 := (HB.out.cell (World.block_lt_of_cell? w _ hx381_1)).trans hx381_1
                have HR381_0 := Aside0.mk hi381_0
                have HC381_0 := Aside0.mk hl381_0
                clear hi381_0 hl381_0
                have HR381_1 := Aside0.mk hi381_1
                have HC381_1 := Aside0.mk hl381_1
                clear hi381_1 hl381_1
                replace p381 := eq_true p381
                replace q381 := eq_true q381
                have hnb59 := NB357_358.out
                have hnc59 := NB358_357.out
                have hcz60_0 : wr.cell? ⟨gb357, 0, none⟩ = some (.int .i64 a1_0) := (blk_cell BK357.out 0).trans rfl
                have hcz60_1 : wr.cell? ⟨gb357, 1, none⟩ = some (.int .i64 a1_1) := (blk_cell BK357.out 1).trans rfl
                have hcz60_2 : wr.cell? ⟨gb357, 2, none⟩ = some (.int .i64 a1_2) := (blk_cell BK357.out 2).trans rfl
                have hfz60_0 := blk_frozen BK357.out 0
                have hfz60_1 := blk_frozen BK357.out 1
                have hfz60_2 := blk_frozen BK357.out 2
                have hcz61_0 : wr.cell? ⟨gb358, 0, none⟩ = some (.int .i64 a2_0) := (blk_cell BK358.out 0).trans rfl
                have hcz61_1 : wr.cell? ⟨gb358, 1, none⟩ = some (.int .i64 a2_1) := (blk_cell BK358.out 1).trans rfl
                have hcz61_2 : wr.cell? ⟨gb358, 2, none⟩ = some (.int .i64 a2_2) := (blk_cell BK358.out 2).trans rfl
                have hfz61_0 := blk_frozen BK358.out 0
                have hfz61_1 := blk_frozen BK358.out 1
                have hfz61_2 := blk_frozen BK358.out 2
                have p402 : 0 ≤ (x8_1 : Int) := odt
                have q402 : x8_1 < (l0.length : Int) := odt
                obtain ⟨ad402, A402_0, c402_0, A402_1, c402_1, e402, hx402_0, hx402_1, hl402_0, hi402_0, hl402_1, hi402_1⟩ := at_T41 HR0.out x8_1 p402 q402
                obtain rfl : ad381 = ad402 := (by injection e402)
                replace hx402_0 := (HB.out.cell (World.block_lt_of_cell? w _ hx402_0)).trans hx402_0
                replace hx402_1 := (HB.out.cell (World.block_lt_of_cell? w _ hx402_1)).trans hx402_1
                have HR402_0 := Aside0.mk hi402_0
                have HC402_0 := Aside0.mk hl402_0
                clear hi402_0 hl402_0
                have HR402_1 := Aside0.mk hi402_1
                have HC402_1 := Aside0.mk hl402_1
                clear hi402_1 hl402_1
                replace p402 := eq_true p402
                replace q402 := eq_true q402
                have ea_ := Option.some.inj (hx381_0.symm.trans hx402_0)
                injection ea_ with ea_ en_ ec_
                subst ea_
                subst ec_
                clear en_
                have ea_ := Option.some.inj (hx381_1.symm.trans hx402_1)
                injection ea_ with ea_ en_ ec_
                subst ea_
                subst ec_
                clear en_
                have p403 : 0 ≤ (x10_2 : Int) := odt
                have q403 : x10_2 < (((rd_T41 l0 x8_1).f0).length : Int) := odt
                obtain ⟨ad403, e403, hx403_0⟩ := Kd.at_int HR402_0.out x10_2 p403 q403
                cases e403
                replace hx403_0 := (HB.out.cell (World.block_lt_of_cell? w _ hx403_0)).trans hx403_0
                replace p403 := eq_true p403
                replace q403 := eq_true q403
                go_wp2_with (first | ((with_reducible refine gate_builtin (b := .append) (xs := #[.tmp 70, .tmp 79]) rfl ?_); at_builtin; refine Kd.R_append (Kd.int .i64) (w0 := w) w.heap.size rfl (.tmp 70) (.tmp 79) 36 3 (.int .i64 0) 8 rfl Try.underlying36 info3 rfl (by decide) (by omega) u9 x9_2 (rd ((rd_T41 l0 x8_1).f0) x10_2) [.int .i64 (rd ((rd_T41 l0 x8_1).f0) x10_2)] (fun _ => True) (fun _ => False) rfl rfl ?aP (fun _ hk => hk.elim) ?aF ?aO ?aB ?aS ?aL ?_; (case aP => exact rfl); (case aB => exact (by repeat (first | (with_reducible first | exact HB.out | apply below_alloc | apply pw_below_drewN | apply below_drew1 | refine below_set ?_ GE357.out | refine below_set ?_ GE358.out) | exact HB.out))); (case aF => exact (fun _ _ => trivial)); (case aO => exact (by (with_reducible repeat (first | apply Kd.R_alloc | apply Kd.R_drewN | apply Kd.R_drew)); exact HO_9.out)); (case aS => exact (below_size (by repeat (first | (with_reducible first | exact HB.out | apply below_alloc | apply pw_below_drewN | apply below_drew1 | refine below_set ?_ GE357.out | refine below_set ?_ GE358.out) | exact HB.out)))); (case aL => have := LMc58.out; omega); intro v405 w62 ho hb hg hat; rw [← Ny404.out] at ho; have n0_ := Aside0.mk (Kd.S_after (ok := (fun _ => True)) (by (with_reducible repeat (first | apply Kd.S_alloc | apply Kd.S_drewN | apply Kd.S_drew)); exact Kd.S_mono HO_7.out (fun _ hk => ⟨trivial, hk⟩)) hg hat); have n1_ := Aside0.mk (blk_grown (g := gb357) (o := .cells #[.int .i64 a1_0, .int .i64 a1_1, .int .i64 a1_2] 24 (0, 0)) (by (with_reducible repeat (first | refine blk_drewN ?_ _ | refine blk_drew ?_ | refine blk_alloc ?_ _)); exact BK357.out) hg (Kd.R_ne HO_9.out BK357.out (by decide))); have n2_ := Aside0.mk (blk_grown (g := gb358) (o := .cells #[.int .i64 a2_0, .int .i64 a2_1, .int .i64 a2_2] 24 (0, 0)) (by (with_reducible repeat (first | refine blk_drewN ?_ _ | refine blk_drew ?_ | refine blk_alloc ?_ _)); exact BK358.out) hg (Kd.R_ne HO_9.out BK358.out (by decide))); have n3_ := Aside0.mk (hb); have n4_ := Aside0.mk (ho); clear HO_7; clear BK357; clear BK358; clear HB; clear HO_9; have HO_7 := n0_; have BK357 := n1_; have BK358 := n2_; have HB := n3_; have HO406 := n4_; clear n0_ n1_ n2_ n3_ n4_; clear ho hb hg hat))
                go_roundg k2
                case measure => have := HK1.out; have := HK2.out; omega
                case rel => exact ⟨(y404), (wrap64 (x10_2 + 1)), (by first | rfl | (simp; done) | (simp [*]; done)), H', ⟨by have := HK1.out; have := HK2.out; omega⟩, ⟨by (with_reducible repeat (first | apply Kd.S_alloc | apply Kd.S_drewN | apply Kd.S_drew)); exact Kd.S_mono HO_7.out (fun _ hk => hk.2)⟩, ⟨by (with_reducible repeat (first | apply Kd.R_alloc | apply Kd.R_drewN | apply Kd.R_drew)); exact HO406.out⟩, ⟨by (with_reducible repeat (first | refine blk_drewN ?_ _ | refine blk_drew ?_ | refine blk_alloc ?_ _)); exact BK357.out⟩, ⟨by (with_reducible repeat (first | refine blk_drewN ?_ _ | refine blk_drew ?_ | refine blk_alloc ?_ _)); exact BK358.out⟩, ⟨by repeat (first | (with_reducible first | exact HB.out | apply below_alloc | apply pw_below_drewN | apply below_drew1 | refine below_set ?_ GE357.out | refine below_set ?_ GE358.out) | exact HB.out)⟩⟩
               ·rw [if_neg c58] at H
                exact absurd H (by simp)
              ·rw [if_neg c57] at H
               exact absurd H (by simp)
             ·rw [if_neg c56] at H
              have c56b0 : decide (a1_2 ≤ x10_2) = false := decide_eq_false c56
              clear c56
              have H' := Aside0.mk H
              clear H
              have p381 : 0 ≤ (x8_1 : Int) := odt
              have q381 : x8_1 < (l0.length : Int) := odt
              obtain ⟨ad381, A381_0, c381_0, A381_1, c381_1, e381, hx381_0, hx381_1, hl381_0, hi381_0, hl381_1, hi381_1⟩ := at_T41 HR0.out x8_1 p381 q381
              cases e381
              replace hx381_0 := (HB.out.cell (World.block_lt_of_cell? w _ hx381_0)).trans hx381_0
              replace hx381_1 := (HB.out.cell (World.block_lt_of_cell? w _ hx381_1)).trans hx381_1
              have HR381_0 := Aside0.mk hi381_0
              have HC381_0 := Aside0.mk hl381_0
              clear hi381_0 hl381_0
              have HR381_1 := Aside0.mk hi381_1
              have HC381_1 := Aside0.mk hl381_1
              clear hi381_1 hl381_1
              replace p381 := eq_true p381
              replace q381 := eq_true q381
              have hnb63 := NB357_358.out
              have hnc63 := NB358_357.out
              have hcz64_0 : wr.cell? ⟨gb357, 0, none⟩ = some (.int .i64 a1_0) := (blk_cell BK357.out 0).trans rfl
              have hcz64_1 : wr.cell? ⟨gb357, 1, none⟩ = some (.int .i64 a1_1) := (blk_cell BK357.out 1).trans rfl
              have hcz64_2 : wr.cell? ⟨gb357, 2, none⟩ = some (.int .i64 a1_2) := (blk_cell BK357.out 2).trans rfl
              have hfz64_0 := blk_frozen BK357.out 0
              have hfz64_1 := blk_frozen BK357.out 1
              have hfz64_2 := blk_frozen BK357.out 2
              have hcz65_0 : wr.cell? ⟨gb358, 0, none⟩ = some (.int .i64 a2_0) := (blk_cell BK358.out 0).trans rfl
              have hcz65_1 : wr.cell? ⟨gb358, 1, none⟩ = some (.int .i64 a2_1) := (blk_cell BK358.out 1).trans rfl
              have hcz65_2 : wr.cell? ⟨gb358, 2, none⟩ = some (.int .i64 a2_2) := (blk_cell BK358.out 2).trans rfl
              have hfz65_0 := blk_frozen BK358.out 0
              have hfz65_1 := blk_frozen BK358.out 1
              have hfz65_2 := blk_frozen BK358.out 2
              go_wp2
              go_roundg k2
              case measure => have := HK1.out; have := HK2.out; omega
              case rel => exact ⟨(x9_2), (wrap64 (x10_2 + 1)), (by first | rfl | (simp; done) | (simp [*]; done)), H', ⟨by have := HK1.out; have := HK2.out; omega⟩, ⟨by (with_reducible repeat (first | apply Kd.S_alloc | apply Kd.S_drewN | apply Kd.S_drew)); exact HO_7.out⟩, ⟨by (with_reducible repeat (first | apply Kd.R_alloc | apply Kd.R_drewN | apply Kd.R_drew)); exact HO_9.out⟩, ⟨by (with_reducible repeat (first | refine blk_drewN ?_ _ | refine blk_drew ?_ | refine blk_alloc ?_ _)); exact BK357.out⟩, ⟨by (with_reducible repeat (first | refine blk_drewN ?_ _ | refine blk_drew ?_ | refine blk_alloc ?_ _)); exact BK358.out⟩, ⟨by repeat (first | (with_reducible first | exact HB.out | apply below_alloc | apply pw_below_drewN | apply below_drew1 | refine below_set ?_ GE357.out | refine below_set ?_ GE358.out) | exact HB.out)⟩⟩
            ·rw [if_neg c55] at H
             have c55b0 : decide (x8_1 < a2_1) = false := decide_eq_false c55
             clear c55
             by_cases c66 : x8_1 = a2_1
             ·rw [if_pos c66] at H
              have c66b0 : (x8_1 == a2_1) = true := beq_iff_eq.mpr c66
              have c66b1 : (x8_1 != a2_1) = false := bne_eq_false_iff_eq.mpr c66
              clear c66
              by_cases c67 : x10_2 ≥ a1_2
              ·rw [if_pos c67] at H
               have c67b0 : decide (a1_2 ≤ x10_2) = true := decide_eq_true c67
               clear c67
               by_cases c68 : x10_2 < a2_2
               ·rw [if_pos c68] at H
                have c68b0 : decide (x10_2 < a2_2) = true := decide_eq_true c68
                clear c68
                by_cases c69 : 0 ≤ x10_2
                ·rw [if_pos c69] at H
                 have c69b0 : decide (0 ≤ x10_2) = true := decide_eq_true c69
                 clear c69
                 by_cases c70 : x9_2.length < 17592186044416
                 ·rw [if_pos c70] at H
                  have LMc70 := Aside0.mk c70
                  clear c70
                  obtain ⟨y409, hy409⟩ : ∃ y_ : List Int, y_ = (x9_2 ++ [rd ((rd_T41 l0 x8_1).f0) x10_2]) := ⟨_, rfl⟩
                  replace H : (compositorref17_Cut.l1 k2 l0 x7_1 x8_1 y409 (wrap64 (x10_2 + 1)) a1_0 a1_1 a1_2 a2_0 a2_1 a2_2) = some r := by first | (rw [hy409]; with_reducible exact H) | (have H2_ := (Option.bind_some _ _).symm.trans H; rw [hy409]; with_reducible exact H2_) | (have H2_ := (Option.bind_some _ _).symm.trans H; with_reducible exact H2_) | with_reducible exact H | (rw [hy409]; exact H) | exact H
                  have Ny409 := Aside0.mk hy409
                  clear hy409
                  have H' := Aside0.mk H
                  clear H
                  have p381 : 0 ≤ (x8_1 : Int) := odt
                  have q381 : x8_1 < (l0.length : Int) := odt
                  obtain ⟨ad381, A381_0, c381_0, A381_1, c381_1, e381, hx381_0, hx381_1, hl381_0, hi381_0, hl381_1, hi381_1⟩ := at_T41 HR0.out x8_1 p381 q381
                  cases e381
                  replace hx381_0 := (HB.out.cell (World.block_lt_of_cell? w _ hx381_0)).trans hx381_0
                  replace hx381_1 := (HB.out.cell (World.block_lt_of_cell? w _ hx381_1)).trans hx381_1
                  have HR381_0 := Aside0.mk hi381_0
                  have HC381_0 := Aside0.mk hl381_0
                  clear hi381_0 hl381_0
                  have HR381_1 := Aside0.mk hi381_1
                  have HC381_1 := Aside0.mk hl381_1
                  clear hi381_1 hl381_1
                  replace p381 := eq_true p381
                  replace q381 := eq_true q381
                  have hnb71 := NB357_358.out
                  have hnc71 := NB358_357.out
                  have hcz72_0 : wr.cell? ⟨gb357, 0, none⟩ = some (.int .i64 a1_0) := (blk_cell BK357.out 0).trans rfl
                  have hcz72_1 : wr.cell? ⟨gb357, 1, none⟩ = some (.int .i64 a1_1) := (blk_cell BK357.out 1).trans rfl
                  have hcz72_2 : wr.cell? ⟨gb357, 2, none⟩ = some (.int .i64 a1_2) := (blk_cell BK357.out 2).trans rfl
                  have hfz72_0 := blk_frozen BK357.out 0
                  have hfz72_1 := blk_frozen BK357.out 1
                  have hfz72_2 := blk_frozen BK357.out 2
                  have hcz73_0 : wr.cell? ⟨gb358, 0, none⟩ = some (.int .i64 a2_0) := (blk_cell BK358.out 0).trans rfl
                  have hcz73_1 : wr.cell? ⟨gb358, 1, none⟩ = some (.int .i64 a2_1) := (blk_cell BK358.out 1).trans rfl
                  have hcz73_2 : wr.cell? ⟨gb358, 2, none⟩ = some (.int .i64 a2_2) := (blk_cell BK358.out 2).trans rfl
                  have hfz73_0 := blk_frozen BK358.out 0
                  have hfz73_1 := blk_frozen BK358.out 1
                  have hfz73_2 := blk_frozen BK358.out 2
                  have p407 : 0 ≤ (x8_1 : Int) := odt
                  have q407 : x8_1 < (l0.length : Int) := odt
                  obtain ⟨ad407, A407_0, c407_0, A407_1, c407_1, e407, hx407_0, hx407_1, hl407_0, hi407_0, hl407_1, hi407_1⟩ := at_T41 HR0.out x8_1 p407 q407
                  obtain rfl : ad381 = ad407 := (by injection e407)
                  replace hx407_0 := (HB.out.cell (World.block_lt_of_cell? w _ hx407_0)).trans hx407_0
                  replace hx407_1 := (HB.out.cell (World.block_lt_of_cell? w _ hx407_1)).trans hx407_1
                  have HR407_0 := Aside0.mk hi407_0
                  have HC407_0 := Aside0.mk hl407_0
                  clear hi407_0 hl407_0
                  have HR407_1 := Aside0.mk hi407_1
                  have HC407_1 := Aside0.mk hl407_1
                  clear hi407_1 hl407_1
                  replace p407 := eq_true p407
                  replace q407 := eq_true q407
                  have ea_ := Option.some.inj (hx381_0.symm.trans hx407_0)
                  injection ea_ with ea_ en_ ec_
                  subst ea_
                  subst ec_
                  clear en_
                  have ea_ := Option.some.inj (hx381_1.symm.trans hx407_1)
                  injection ea_ with ea_ en_ ec_
                  subst ea_
                  subst ec_
                  clear en_
                  have p408 : 0 ≤ (x10_2 : Int) := odt
                  have q408 : x10_2 < (((rd_T41 l0 x8_1).f0).length : Int) := odt
                  obtain ⟨ad408, e408, hx408_0⟩ := Kd.at_int HR407_0.out x10_2 p408 q408
                  cases e408
                  replace hx408_0 := (HB.out.cell (World.block_lt_of_cell? w _ hx408_0)).trans hx408_0
                  replace p408 := eq_true p408
                  replace q408 := eq_true q408
                  go_wp2_with (first | ((with_reducible refine gate_builtin (b := .append) (xs := #[.tmp 70, .tmp 79]) rfl ?_); at_builtin; refine Kd.R_append (Kd.int .i64) (w0 := w) w.heap.size rfl (.tmp 70) (.tmp 79) 36 3 (.int .i64 0) 8 rfl Try.underlying36 info3 rfl (by decide) (by omega) u9 x9_2 (rd ((rd_T41 l0 x8_1).f0) x10_2) [.int .i64 (rd ((rd_T41 l0 x8_1).f0) x10_2)] (fun _ => True) (fun _ => False) rfl rfl ?aP (fun _ hk => hk.elim) ?aF ?aO ?aB ?aS ?aL ?_; (case aP => exact rfl); (case aB => exact (by repeat (first | (with_reducible first | exact HB.out | apply below_alloc | apply pw_below_drewN | apply below_drew1 | refine below_set ?_ GE357.out | refine below_set ?_ GE358.out) | exact HB.out))); (case aF => exact (fun _ _ => trivial)); (case aO => exact (by (with_reducible repeat (first | apply Kd.R_alloc | apply Kd.R_drewN | apply Kd.R_drew)); exact HO_9.out)); (case aS => exact (below_size (by repeat (first | (with_reducible first | exact HB.out | apply below_alloc | apply pw_below_drewN | apply below_drew1 | refine below_set ?_ GE357.out | refine below_set ?_ GE358.out) | exact HB.out)))); (case aL => have := LMc70.out; omega); intro v410 w74 ho hb hg hat; rw [← Ny409.out] at ho; have n0_ := Aside0.mk (Kd.S_after (ok := (fun _ => True)) (by (with_reducible repeat (first | apply Kd.S_alloc | apply Kd.S_drewN | apply Kd.S_drew)); exact Kd.S_mono HO_7.out (fun _ hk => ⟨trivial, hk⟩)) hg hat); have n1_ := Aside0.mk (blk_grown (g := gb357) (o := .cells #[.int .i64 a1_0, .int .i64 a1_1, .int .i64 a1_2] 24 (0, 0)) (by (with_reducible repeat (first | refine blk_drewN ?_ _ | refine blk_drew ?_ | refine blk_alloc ?_ _)); exact BK357.out) hg (Kd.R_ne HO_9.out BK357.out (by decide))); have n2_ := Aside0.mk (blk_grown (g := gb358) (o := .cells #[.int .i64 a2_0, .int .i64 a2_1, .int .i64 a2_2] 24 (0, 0)) (by (with_reducible repeat (first | refine blk_drewN ?_ _ | refine blk_drew ?_ | refine blk_alloc ?_ _)); exact BK358.out) hg (Kd.R_ne HO_9.out BK358.out (by decide))); have n3_ := Aside0.mk (hb); have n4_ := Aside0.mk (ho); clear HO_7; clear BK357; clear BK358; clear HB; clear HO_9; have HO_7 := n0_; have BK357 := n1_; have BK358 := n2_; have HB := n3_; have HO411 := n4_; clear n0_ n1_ n2_ n3_ n4_; clear ho hb hg hat))
                  go_roundg k2
                  case measure => have := HK1.out; have := HK2.out; omega
                  case rel => exact ⟨(y409), (wrap64 (x10_2 + 1)), (by first | rfl | (simp; done) | (simp [*]; done)), H', ⟨by have := HK1.out; have := HK2.out; omega⟩, ⟨by (with_reducible repeat (first | apply Kd.S_alloc | apply Kd.S_drewN | apply Kd.S_drew)); exact Kd.S_mono HO_7.out (fun _ hk => hk.2)⟩, ⟨by (with_reducible repeat (first | apply Kd.R_alloc | apply Kd.R_drewN | apply Kd.R_drew)); exact HO411.out⟩, ⟨by (with_reducible repeat (first | refine blk_drewN ?_ _ | refine blk_drew ?_ | refine blk_alloc ?_ _)); exact BK357.out⟩, ⟨by (with_reducible repeat (first | refine blk_drewN ?_ _ | refine blk_drew ?_ | refine blk_alloc ?_ _)); exact BK358.out⟩, ⟨by repeat (first | (with_reducible first | exact HB.out | apply below_alloc | apply pw_below_drewN | apply below_drew1 | refine below_set ?_ GE357.out | refine below_set ?_ GE358.out) | exact HB.out)⟩⟩
                 ·rw [if_neg c70] at H
                  exact absurd H (by simp)
                ·rw [if_neg c69] at H
                 exact absurd H (by simp)
               ·rw [if_neg c68] at H
                have c68b0 : decide (x10_2 < a2_2) = false := decide_eq_false c68
                clear c68
                have H' := Aside0.mk H
                clear H
                have p381 : 0 ≤ (x8_1 : Int) := odt
                have q381 : x8_1 < (l0.length : Int) := odt
                obtain ⟨ad381, A381_0, c381_0, A381_1, c381_1, e381, hx381_0, hx381_1, hl381_0, hi381_0, hl381_1, hi381_1⟩ := at_T41 HR0.out x8_1 p381 q381
                cases e381
                replace hx381_0 := (HB.out.cell (World.block_lt_of_cell? w _ hx381_0)).trans hx381_0
                replace hx381_1 := (HB.out.cell (World.block_lt_of_cell? w _ hx381_1)).trans hx381_1
                have HR381_0 := Aside0.mk hi381_0
                have HC381_0 := Aside0.mk hl381_0
                clear hi381_0 hl381_0
                have HR381_1 := Aside0.mk hi381_1
                have HC381_1 := Aside0.mk hl381_1
                clear hi381_1 hl381_1
                replace p381 := eq_true p381
                replace q381 := eq_true q381
                have hnb75 := NB357_358.out
                have hnc75 := NB358_357.out
                have hcz76_0 : wr.cell? ⟨gb357, 0, none⟩ = some (.int .i64 a1_0) := (blk_cell BK357.out 0).trans rfl
                have hcz76_1 : wr.cell? ⟨gb357, 1, none⟩ = some (.int .i64 a1_1) := (blk_cell BK357.out 1).trans rfl
                have hcz76_2 : wr.cell? ⟨gb357, 2, none⟩ = some (.int .i64 a1_2) := (blk_cell BK357.out 2).trans rfl
                have hfz76_0 := blk_frozen BK357.out 0
                have hfz76_1 := blk_frozen BK357.out 1
                have hfz76_2 := blk_frozen BK357.out 2
                have hcz77_0 : wr.cell? ⟨gb358, 0, none⟩ = some (.int .i64 a2_0) := (blk_cell BK358.out 0).trans rfl
                have hcz77_1 : wr.cell? ⟨gb358, 1, none⟩ = some (.int .i64 a2_1) := (blk_cell BK358.out 1).trans rfl
                have hcz77_2 : wr.cell? ⟨gb358, 2, none⟩ = some (.int .i64 a2_2) := (blk_cell BK358.out 2).trans rfl
                have hfz77_0 := blk_frozen BK358.out 0
                have hfz77_1 := blk_frozen BK358.out 1
                have hfz77_2 := blk_frozen BK358.out 2
                go_wp2
                go_roundg k2
                case measure => have := HK1.out; have := HK2.out; omega
                case rel => exact ⟨(x9_2), (wrap64 (x10_2 + 1)), (by first | rfl | (simp; done) | (simp [*]; done)), H', ⟨by have := HK1.out; have := HK2.out; omega⟩, ⟨by (with_reducible repeat (first | apply Kd.S_alloc | apply Kd.S_drewN | apply Kd.S_drew)); exact HO_7.out⟩, ⟨by (with_reducible repeat (first | apply Kd.R_alloc | apply Kd.R_drewN | apply Kd.R_drew)); exact HO_9.out⟩, ⟨by (with_reducible repeat (first | refine blk_drewN ?_ _ | refine blk_drew ?_ | refine blk_alloc ?_ _)); exact BK357.out⟩, ⟨by (with_reducible repeat (first | refine blk_drewN ?_ _ | refine blk_drew ?_ | refine blk_alloc ?_ _)); exact BK358.out⟩, ⟨by repeat (first | (with_reducible first | exact HB.out | apply below_alloc | apply pw_below_drewN | apply below_drew1 | refine below_set ?_ GE357.out | refine below_set ?_ GE358.out) | exact HB.out)⟩⟩
              ·rw [if_neg c67] at H
               have c67b0 : decide (a1_2 ≤ x10_2) = false := decide_eq_false c67
               clear c67
               have H' := Aside0.mk H
               clear H
               have p381 : 0 ≤ (x8_1 : Int) := odt
               have q381 : x8_1 < (l0.length : Int) := odt
               obtain ⟨ad381, A381_0, c381_0, A381_1, c381_1, e381, hx381_0, hx381_1, hl381_0, hi381_0, hl381_1, hi381_1⟩ := at_T41 HR0.out x8_1 p381 q381
               cases e381
               replace hx381_0 := (HB.out.cell (World.block_lt_of_cell? w _ hx381_0)).trans hx381_0
               replace hx381_1 := (HB.out.cell (World.block_lt_of_cell? w _ hx381_1)).trans hx381_1
               have HR381_0 := Aside0.mk hi381_0
               have HC381_0 := Aside0.mk hl381_0
               clear hi381_0 hl381_0
               have HR381_1 := Aside0.mk hi381_1
               have HC381_1 := Aside0.mk hl381_1
               clear hi381_1 hl381_1
               replace p381 := eq_true p381
               replace q381 := eq_true q381
               have hnb78 := NB357_358.out
               have hnc78 := NB358_357.out
               have hcz79_0 : wr.cell? ⟨gb357, 0, none⟩ = some (.int .i64 a1_0) := (blk_cell BK357.out 0).trans rfl
               have hcz79_1 : wr.cell? ⟨gb357, 1, none⟩ = some (.int .i64 a1_1) := (blk_cell BK357.out 1).trans rfl
               have hcz79_2 : wr.cell? ⟨gb357, 2, none⟩ = some (.int .i64 a1_2) := (blk_cell BK357.out 2).trans rfl
               have hfz79_0 := blk_frozen BK357.out 0
               have hfz79_1 := blk_frozen BK357.out 1
               have hfz79_2 := blk_frozen BK357.out 2
               have hcz80_0 : wr.cell? ⟨gb358, 0, none⟩ = some (.int .i64 a2_0) := (blk_cell BK358.out 0).trans rfl
               have hcz80_1 : wr.cell? ⟨gb358, 1, none⟩ = some (.int .i64 a2_1) := (blk_cell BK358.out 1).trans rfl
               have hcz80_2 : wr.cell? ⟨gb358, 2, none⟩ = some (.int .i64 a2_2) := (blk_cell BK358.out 2).trans rfl
               have hfz80_0 := blk_frozen BK358.out 0
               have hfz80_1 := blk_frozen BK358.out 1
               have hfz80_2 := blk_frozen BK358.out 2
               go_wp2
               go_roundg k2
               case measure => have := HK1.out; have := HK2.out; omega
               case rel => exact ⟨(x9_2), (wrap64 (x10_2 + 1)), (by first | rfl | (simp; done) | (simp [*]; done)), H', ⟨by have := HK1.out; have := HK2.out; omega⟩, ⟨by (with_reducible repeat (first | apply Kd.S_alloc | apply Kd.S_drewN | apply Kd.S_drew)); exact HO_7.out⟩, ⟨by (with_reducible repeat (first | apply Kd.R_alloc | apply Kd.R_drewN | apply Kd.R_drew)); exact HO_9.out⟩, ⟨by (with_reducible repeat (first | refine blk_drewN ?_ _ | refine blk_drew ?_ | refine blk_alloc ?_ _)); exact BK357.out⟩, ⟨by (with_reducible repeat (first | refine blk_drewN ?_ _ | refine blk_drew ?_ | refine blk_alloc ?_ _)); exact BK358.out⟩, ⟨by repeat (first | (with_reducible first | exact HB.out | apply below_alloc | apply pw_below_drewN | apply below_drew1 | refine below_set ?_ GE357.out | refine below_set ?_ GE358.out) | exact HB.out)⟩⟩
             ·rw [if_neg c66] at H
              have c66b0 : (x8_1 == a2_1) = false := beq_eq_false_iff_ne.mpr c66
              have c66b1 : (x8_1 != a2_1) = true := bne_iff_ne.mpr c66
              by_cases c81 : x10_2 ≥ a1_2
              ·rw [if_pos c81] at H
               have c81b0 : decide (a1_2 ≤ x10_2) = true := decide_eq_true c81
               clear c81
               have H' := Aside0.mk H
               clear H
               have p381 : 0 ≤ (x8_1 : Int) := odt
               have q381 : x8_1 < (l0.length : Int) := odt
               obtain ⟨ad381, A381_0, c381_0, A381_1, c381_1, e381, hx381_0, hx381_1, hl381_0, hi381_0, hl381_1, hi381_1⟩ := at_T41 HR0.out x8_1 p381 q381
               cases e381
               replace hx381_0 := (HB.out.cell (World.block_lt_of_cell? w _ hx381_0)).trans hx381_0
               replace hx381_1 := (HB.out.cell (World.block_lt_of_cell? w _ hx381_1)).trans hx381_1
               have HR381_0 := Aside0.mk hi381_0
               have HC381_0 := Aside0.mk hl381_0
               clear hi381_0 hl381_0
               have HR381_1 := Aside0.mk hi381_1
               have HC381_1 := Aside0.mk hl381_1
               clear hi381_1 hl381_1
               replace p381 := eq_true p381
               replace q381 := eq_true q381
               have hnb82 := NB357_358.out
               have hnc82 := NB358_357.out
               have hcz83_0 : wr.cell? ⟨gb357, 0, none⟩ = some (.int .i64 a1_0) := (blk_cell BK357.out 0).trans rfl
               have hcz83_1 : wr.cell? ⟨gb357, 1, none⟩ = some (.int .i64 a1_1) := (blk_cell BK357.out 1).trans rfl
               have hcz83_2 : wr.cell? ⟨gb357, 2, none⟩ = some (.int .i64 a1_2) := (blk_cell BK357.out 2).trans rfl
               have hfz83_0 := blk_frozen BK357.out 0
               have hfz83_1 := blk_frozen BK357.out 1
               have hfz83_2 := blk_frozen BK357.out 2
               have hcz84_0 : wr.cell? ⟨gb358, 0, none⟩ = some (.int .i64 a2_0) := (blk_cell BK358.out 0).trans rfl
               have hcz84_1 : wr.cell? ⟨gb358, 1, none⟩ = some (.int .i64 a2_1) := (blk_cell BK358.out 1).trans rfl
               have hcz84_2 : wr.cell? ⟨gb358, 2, none⟩ = some (.int .i64 a2_2) := (blk_cell BK358.out 2).trans rfl
               have hfz84_0 := blk_frozen BK358.out 0
               have hfz84_1 := blk_frozen BK358.out 1
               have hfz84_2 := blk_frozen BK358.out 2
               go_wp2
               go_roundg k2
               case measure => have := HK1.out; have := HK2.out; omega
               case rel => exact ⟨(x9_2), (wrap64 (x10_2 + 1)), (by first | rfl | (simp; done) | (simp [*]; done)), H', ⟨by have := HK1.out; have := HK2.out; omega⟩, ⟨by (with_reducible repeat (first | apply Kd.S_alloc | apply Kd.S_drewN | apply Kd.S_drew)); exact HO_7.out⟩, ⟨by (with_reducible repeat (first | apply Kd.R_alloc | apply Kd.R_drewN | apply Kd.R_drew)); exact HO_9.out⟩, ⟨by (with_reducible repeat (first | refine blk_drewN ?_ _ | refine blk_drew ?_ | refine blk_alloc ?_ _)); exact BK357.out⟩, ⟨by (with_reducible repeat (first | refine blk_drewN ?_ _ | refine blk_drew ?_ | refine blk_alloc ?_ _)); exact BK358.out⟩, ⟨by repeat (first | (with_reducible first | exact HB.out | apply below_alloc | apply pw_below_drewN | apply below_drew1 | refine below_set ?_ GE357.out | refine below_set ?_ GE358.out) | exact HB.out)⟩⟩
              ·rw [if_neg c81] at H
               have c81b0 : decide (a1_2 ≤ x10_2) = false := decide_eq_false c81
               clear c81
               have H' := Aside0.mk H
               clear H
               have p381 : 0 ≤ (x8_1 : Int) := odt
               have q381 : x8_1 < (l0.length : Int) := odt
               obtain ⟨ad381, A381_0, c381_0, A381_1, c381_1, e381, hx381_0, hx381_1, hl381_0, hi381_0, hl381_1, hi381_1⟩ := at_T41 HR0.out x8_1 p381 q381
               cases e381
               replace hx381_0 := (HB.out.cell (World.block_lt_of_cell? w _ hx381_0)).trans hx381_0
               replace hx381_1 := (HB.out.cell (World.block_lt_of_cell? w _ hx381_1)).trans hx381_1
               have HR381_0 := Aside0.mk hi381_0
               have HC381_0 := Aside0.mk hl381_0
               clear hi381_0 hl381_0
               have HR381_1 := Aside0.mk hi381_1
               have HC381_1 := Aside0.mk hl381_1
               clear hi381_1 hl381_1
               replace p381 := eq_true p381
               replace q381 := eq_true q381
               have hnb85 := NB357_358.out
               have hnc85 := NB358_357.out
               have hcz86_0 : wr.cell? ⟨gb357, 0, none⟩ = some (.int .i64 a1_0) := (blk_cell BK357.out 0).trans rfl
               have hcz86_1 : wr.cell? ⟨gb357, 1, none⟩ = some (.int .i64 a1_1) := (blk_cell BK357.out 1).trans rfl
               have hcz86_2 : wr.cell? ⟨gb357, 2, none⟩ = some (.int .i64 a1_2) := (blk_cell BK357.out 2).trans rfl
               have hfz86_0 := blk_frozen BK357.out 0
               have hfz86_1 := blk_frozen BK357.out 1
               have hfz86_2 := blk_frozen BK357.out 2
               have hcz87_0 : wr.cell? ⟨gb358, 0, none⟩ = some (.int .i64 a2_0) := (blk_cell BK358.out 0).trans rfl
               have hcz87_1 : wr.cell? ⟨gb358, 1, none⟩ = some (.int .i64 a2_1) := (blk_cell BK358.out 1).trans rfl
               have hcz87_2 : wr.cell? ⟨gb358, 2, none⟩ = some (.int .i64 a2_2) := (blk_cell BK358.out 2).trans rfl
               have hfz87_0 := blk_frozen BK358.out 0
               have hfz87_1 := blk_frozen BK358.out 1
               have hfz87_2 := blk_frozen BK358.out 2
               go_wp2
               go_roundg k2
               case measure => have := HK1.out; have := HK2.out; omega
               case rel => exact ⟨(x9_2), (wrap64 (x10_2 + 1)), (by first | rfl | (simp; done) | (simp [*]; done)), H', ⟨by have := HK1.out; have := HK2.out; omega⟩, ⟨by (with_reducible repeat (first | apply Kd.S_alloc | apply Kd.S_drewN | apply Kd.S_drew)); exact HO_7.out⟩, ⟨by (with_reducible repeat (first | apply Kd.R_alloc | apply Kd.R_drewN | apply Kd.R_drew)); exact HO_9.out⟩, ⟨by (with_reducible repeat (first | refine blk_drewN ?_ _ | refine blk_drew ?_ | refine blk_alloc ?_ _)); exact BK357.out⟩, ⟨by (with_reducible repeat (first | refine blk_drewN ?_ _ | refine blk_drew ?_ | refine blk_alloc ?_ _)); exact BK358.out⟩, ⟨by repeat (first | (with_reducible first | exact HB.out | apply below_alloc | apply pw_below_drewN | apply below_drew1 | refine below_set ?_ GE357.out | refine below_set ?_ GE358.out) | exact HB.out)⟩⟩
           ·rw [if_neg c54] at H
            have c54b0 : (x8_1 == a1_1) = false := beq_eq_false_iff_ne.mpr c54
            have c54b1 : (x8_1 != a1_1) = true := bne_iff_ne.mpr c54
            by_cases c88 : x8_1 < a2_1
            ·rw [if_pos c88] at H
             have c88b0 : decide (x8_1 < a2_1) = true := decide_eq_true c88
             clear c88
             have H' := Aside0.mk H
             clear H
             have p381 : 0 ≤ (x8_1 : Int) := odt
             have q381 : x8_1 < (l0.length : Int) := odt
             obtain ⟨ad381, A381_0, c381_0, A381_1, c381_1, e381, hx381_0, hx381_1, hl381_0, hi381_0, hl381_1, hi381_1⟩ := at_T41 HR0.out x8_1 p381 q381
             cases e381
             replace hx381_0 := (HB.out.cell (World.block_lt_of_cell? w _ hx381_0)).trans hx381_0
             replace hx381_1 := (HB.out.cell (World.block_lt_of_cell? w _ hx381_1)).trans hx381_1
             have HR381_0 := Aside0.mk hi381_0
             have HC381_0 := Aside0.mk hl381_0
             clear hi381_0 hl381_0
             have HR381_1 := Aside0.mk hi381_1
             have HC381_1 := Aside0.mk hl381_1
             clear hi381_1 hl381_1
             replace p381 := eq_true p381
             replace q381 := eq_true q381
             have hnb89 := NB357_358.out
             have hnc89 := NB358_357.out
             have hcz90_0 : wr.cell? ⟨gb357, 0, none⟩ = some (.int .i64 a1_0) := (blk_cell BK357.out 0).trans rfl
             have hcz90_1 : wr.cell? ⟨gb357, 1, none⟩ = some (.int .i64 a1_1) := (blk_cell BK357.out 1).trans rfl
             have hcz90_2 : wr.cell? ⟨gb357, 2, none⟩ = some (.int .i64 a1_2) := (blk_cell BK357.out 2).trans rfl
             have hfz90_0 := blk_frozen BK357.out 0
             have hfz90_1 := blk_frozen BK357.out 1
             have hfz90_2 := blk_frozen BK357.out 2
             have hcz91_0 : wr.cell? ⟨gb358, 0, none⟩ = some (.int .i64 a2_0) := (blk_cell BK358.out 0).trans rfl
             have hcz91_1 : wr.cell? ⟨gb358, 1, none⟩ = some (.int .i64 a2_1) := (blk_cell BK358.out 1).trans rfl
             have hcz91_2 : wr.cell? ⟨gb358, 2, none⟩ = some (.int .i64 a2_2) := (blk_cell BK358.out 2).trans rfl
             have hfz91_0 := blk_frozen BK358.out 0
             have hfz91_1 := blk_frozen BK358.out 1
             have hfz91_2 := blk_frozen BK358.out 2
             go_wp2
             go_roundg k2
             case measure => have := HK1.out; have := HK2.out; omega
             case rel => exact ⟨(x9_2), (wrap64 (x10_2 + 1)), (by first | rfl | (simp; done) | (simp [*]; done)), H', ⟨by have := HK1.out; have := HK2.out; omega⟩, ⟨by (with_reducible repeat (first | apply Kd.S_alloc | apply Kd.S_drewN | apply Kd.S_drew)); exact HO_7.out⟩, ⟨by (with_reducible repeat (first | apply Kd.R_alloc | apply Kd.R_drewN | apply Kd.R_drew)); exact HO_9.out⟩, ⟨by (with_reducible repeat (first | refine blk_drewN ?_ _ | refine blk_drew ?_ | refine blk_alloc ?_ _)); exact BK357.out⟩, ⟨by (with_reducible repeat (first | refine blk_drewN ?_ _ | refine blk_drew ?_ | refine blk_alloc ?_ _)); exact BK358.out⟩, ⟨by repeat (first | (with_reducible first | exact HB.out | apply below_alloc | apply pw_below_drewN | apply below_drew1 | refine below_set ?_ GE357.out | refine below_set ?_ GE358.out) | exact HB.out)⟩⟩
            ·rw [if_neg c88] at H
             have c88b0 : decide (x8_1 < a2_1) = false := decide_eq_false c88
             clear c88
             by_cases c92 : x8_1 = a2_1
             ·rw [if_pos c92] at H
              have c92b0 : (x8_1 == a2_1) = true := beq_iff_eq.mpr c92
              have c92b1 : (x8_1 != a2_1) = false := bne_eq_false_iff_eq.mpr c92
              clear c92
              have H' := Aside0.mk H
              clear H
              have p381 : 0 ≤ (x8_1 : Int) := odt
              have q381 : x8_1 < (l0.length : Int) := odt
              obtain ⟨ad381, A381_0, c381_0, A381_1, c381_1, e381, hx381_0, hx381_1, hl381_0, hi381_0, hl381_1, hi381_1⟩ := at_T41 HR0.out x8_1 p381 q381
              cases e381
              replace hx381_0 := (HB.out.cell (World.block_lt_of_cell? w _ hx381_0)).trans hx381_0
              replace hx381_1 := (HB.out.cell (World.block_lt_of_cell? w _ hx381_1)).trans hx381_1
              have HR381_0 := Aside0.mk hi381_0
              have HC381_0 := Aside0.mk hl381_0
              clear hi381_0 hl381_0
              have HR381_1 := Aside0.mk hi381_1
              have HC381_1 := Aside0.mk hl381_1
              clear hi381_1 hl381_1
              replace p381 := eq_true p381
              replace q381 := eq_true q381
              have hnb93 := NB357_358.out
              have hnc93 := NB358_357.out
              have hcz94_0 : wr.cell? ⟨gb357, 0, none⟩ = some (.int .i64 a1_0) := (blk_cell BK357.out 0).trans rfl
              have hcz94_1 : wr.cell? ⟨gb357, 1, none⟩ = some (.int .i64 a1_1) := (blk_cell BK357.out 1).trans rfl
              have hcz94_2 : wr.cell? ⟨gb357, 2, none⟩ = some (.int .i64 a1_2) := (blk_cell BK357.out 2).trans rfl
              have hfz94_0 := blk_frozen BK357.out 0
              have hfz94_1 := blk_frozen BK357.out 1
              have hfz94_2 := blk_frozen BK357.out 2
              have hcz95_0 : wr.cell? ⟨gb358, 0, none⟩ = some (.int .i64 a2_0) := (blk_cell BK358.out 0).trans rfl
              have hcz95_1 : wr.cell? ⟨gb358, 1, none⟩ = some (.int .i64 a2_1) := (blk_cell BK358.out 1).trans rfl
              have hcz95_2 : wr.cell? ⟨gb358, 2, none⟩ = some (.int .i64 a2_2) := (blk_cell BK358.out 2).trans rfl
              have hfz95_0 := blk_frozen BK358.out 0
              have hfz95_1 := blk_frozen BK358.out 1
              have hfz95_2 := blk_frozen BK358.out 2
              go_wp2
              go_roundg k2
              case measure => have := HK1.out; have := HK2.out; omega
              case rel => exact ⟨(x9_2), (wrap64 (x10_2 + 1)), (by first | rfl | (simp; done) | (simp [*]; done)), H', ⟨by have := HK1.out; have := HK2.out; omega⟩, ⟨by (with_reducible repeat (first | apply Kd.S_alloc | apply Kd.S_drewN | apply Kd.S_drew)); exact HO_7.out⟩, ⟨by (with_reducible repeat (first | apply Kd.R_alloc | apply Kd.R_drewN | apply Kd.R_drew)); exact HO_9.out⟩, ⟨by (with_reducible repeat (first | refine blk_drewN ?_ _ | refine blk_drew ?_ | refine blk_alloc ?_ _)); exact BK357.out⟩, ⟨by (with_reducible repeat (first | refine blk_drewN ?_ _ | refine blk_drew ?_ | refine blk_alloc ?_ _)); exact BK358.out⟩, ⟨by repeat (first | (with_reducible first | exact HB.out | apply below_alloc | apply pw_below_drewN | apply below_drew1 | refine below_set ?_ GE357.out | refine below_set ?_ GE358.out) | exact HB.out)⟩⟩
             ·rw [if_neg c92] at H
              have c92b0 : (x8_1 == a2_1) = false := beq_eq_false_iff_ne.mpr c92
              have c92b1 : (x8_1 != a2_1) = true := bne_iff_ne.mpr c92
              have H' := Aside0.mk H
              clear H
              have p381 : 0 ≤ (x8_1 : Int) := odt
              have q381 : x8_1 < (l0.length : Int) := odt
              obtain ⟨ad381, A381_0, c381_0, A381_1, c381_1, e381, hx381_0, hx381_1, hl381_0, hi381_0, hl381_1, hi381_1⟩ := at_T41 HR0.out x8_1 p381 q381
              cases e381
              replace hx381_0 := (HB.out.cell (World.block_lt_of_cell? w _ hx381_0)).trans hx381_0
              replace hx381_1 := (HB.out.cell (World.block_lt_of_cell? w _ hx381_1)).trans hx381_1
              have HR381_0 := Aside0.mk hi381_0
              have HC381_0 := Aside0.mk hl381_0
              clear hi381_0 hl381_0
              have HR381_1 := Aside0.mk hi381_1
              have HC381_1 := Aside0.mk hl381_1
              clear hi381_1 hl381_1
              replace p381 := eq_true p381
              replace q381 := eq_true q381
              have hnb96 := NB357_358.out
              have hnc96 := NB358_357.out
              have hcz97_0 : wr.cell? ⟨gb357, 0, none⟩ = some (.int .i64 a1_0) := (blk_cell BK357.out 0).trans rfl
              have hcz97_1 : wr.cell? ⟨gb357, 1, none⟩ = some (.int .i64 a1_1) := (blk_cell BK357.out 1).trans rfl
              have hcz97_2 : wr.cell? ⟨gb357, 2, none⟩ = some (.int .i64 a1_2) := (blk_cell BK357.out 2).trans rfl
              have hfz97_0 := blk_frozen BK357.out 0
              have hfz97_1 := blk_frozen BK357.out 1
              have hfz97_2 := blk_frozen BK357.out 2
              have hcz98_0 : wr.cell? ⟨gb358, 0, none⟩ = some (.int .i64 a2_0) := (blk_cell BK358.out 0).trans rfl
              have hcz98_1 : wr.cell? ⟨gb358, 1, none⟩ = some (.int .i64 a2_1) := (blk_cell BK358.out 1).trans rfl
              have hcz98_2 : wr.cell? ⟨gb358, 2, none⟩ = some (.int .i64 a2_2) := (blk_cell BK358.out 2).trans rfl
              have hfz98_0 := blk_frozen BK358.out 0
              have hfz98_1 := blk_frozen BK358.out 1
              have hfz98_2 := blk_frozen BK358.out 2
              go_wp2
              go_roundg k2
              case measure => have := HK1.out; have := HK2.out; omega
              case rel => exact ⟨(x9_2), (wrap64 (x10_2 + 1)), (by first | rfl | (simp; done) | (simp [*]; done)), H', ⟨by have := HK1.out; have := HK2.out; omega⟩, ⟨by (with_reducible repeat (first | apply Kd.S_alloc | apply Kd.S_drewN | apply Kd.S_drew)); exact HO_7.out⟩, ⟨by (with_reducible repeat (first | apply Kd.R_alloc | apply Kd.R_drewN | apply Kd.R_drew)); exact HO_9.out⟩, ⟨by (with_reducible repeat (first | refine blk_drewN ?_ _ | refine blk_drew ?_ | refine blk_alloc ?_ _)); exact BK357.out⟩, ⟨by (with_reducible repeat (first | refine blk_drewN ?_ _ | refine blk_drew ?_ | refine blk_alloc ?_ _)); exact BK358.out⟩, ⟨by repeat (first | (with_reducible first | exact HB.out | apply below_alloc | apply pw_below_drewN | apply below_drew1 | refine below_set ?_ GE357.out | refine below_set ?_ GE358.out) | exact HB.out)⟩⟩
        ·rw [if_neg c9] at H
         have c9b0 : decide (x10_2 < (((rd_T41 l0 x8_1).f0).length : Int)) = false := decide_eq_false c9
         clear c9
         by_cases c99 : (x9_2.length : Int) > 0
         ·rw [if_pos c99] at H
          have c99b0 : decide (0 < (x9_2.length : Int)) = true := decide_eq_true c99
          have c99b1 : decide (0 < x9_2.length) = true := decide_eq_true (by omega)
          clear c99
          by_cases c100 : x7_1.length < 5864062014805
          ·rw [if_pos c100] at H
           have LMc100 := Aside0.mk c100
           clear c100
           obtain ⟨y412, hy412⟩ : ∃ y_ : List (List Int), y_ = (x7_1 ++ [x9_2]) := ⟨_, rfl⟩
           replace H : (compositorref17_Cut.l0 k2 l0 y412 (wrap64 (x8_1 + 1)) a1_0 a1_1 a1_2 a2_0 a2_1 a2_2) = some r := by first | (rw [hy412]; with_reducible exact H) | (have H2_ := (Option.bind_some _ _).symm.trans H; rw [hy412]; with_reducible exact H2_) | (have H2_ := (Option.bind_some _ _).symm.trans H; with_reducible exact H2_) | with_reducible exact H | (rw [hy412]; exact H) | exact H
           have Ny412 := Aside0.mk hy412
           clear hy412
           have H' := Aside0.mk H
           clear H
           have p381 : 0 ≤ (x8_1 : Int) := odt
           have q381 : x8_1 < (l0.length : Int) := odt
           obtain ⟨ad381, A381_0, c381_0, A381_1, c381_1, e381, hx381_0, hx381_1, hl381_0, hi381_0, hl381_1, hi381_1⟩ := at_T41 HR0.out x8_1 p381 q381
           cases e381
           replace hx381_0 := (HB.out.cell (World.block_lt_of_cell? w _ hx381_0)).trans hx381_0
           replace hx381_1 := (HB.out.cell (World.block_lt_of_cell? w _ hx381_1)).trans hx381_1
           have HR381_0 := Aside0.mk hi381_0
           have HC381_0 := Aside0.mk hl381_0
           clear hi381_0 hl381_0
           have HR381_1 := Aside0.mk hi381_1
           have HC381_1 := Aside0.mk hl381_1
           clear hi381_1 hl381_1
           replace p381 := eq_true p381
           replace q381 := eq_true q381
           obtain ⟨Ao101, co101, eo101⟩ := Kd.R_slice HO_9.out
           subst eo101
           go_wp2_with (first | ((with_reducible refine gate_builtin (b := .append) (xs := #[.tmp 84, .tmp 86]) rfl ?_); at_builtin; refine Kd.S_append (Kd.slice 3 (Kd.int .i64)) (w0 := w) w.heap.size rfl (.tmp 84) (.tmp 86) 27 36 (.slice none 0 0) 24 rfl Try.underlying27 info36 rfl (by decide) (by omega) u7 x7_1 x9_2 [.slice Ao101 x9_2.length co101] (fun _ => True) (fun k_ => some k_ = (.slice Ao101 x9_2.length co101 : Value).ownBlock) rfl rfl ?aP (fun k_ hk_ => ((Kd.R_mono (ok' := fun k_ => ((fun _ => True)) k_ ∧ some k_ ≠ (u7 : Value).ownBlock) (Kd.R_apart' (HO_9.out) (Kd.S_typed HO_7.out) (by decide)) (fun k_ hk => ⟨trivial, hk.2⟩))).1 k_ hk_.symm) ?aF ?aO ?aB ?aS ?aL ?_; (case aP => exact Kd.M_row (Kd.R_mono (Kd.R_tight rfl (Kd.R_mono (ok' := fun k_ => ((fun _ => True)) k_ ∧ some k_ ≠ (u7 : Value).ownBlock) (Kd.R_apart' (HO_9.out) (Kd.S_typed HO_7.out) (by decide)) (fun k_ hk => ⟨trivial, hk.2⟩))) (fun _ h_ => h_))); (case aB => exact (by repeat (first | (with_reducible first | exact HB.out | apply below_alloc | apply pw_below_drewN | apply below_drew1 | refine below_set ?_ GE357.out | refine below_set ?_ GE358.out) | exact HB.out))); (case aF => exact (fun _ _ => trivial)); (case aO => exact (by (with_reducible repeat (first | apply Kd.S_alloc | apply Kd.S_drewN | apply Kd.S_drew)); exact Kd.S_mono HO_7.out (fun k_ hk => ⟨trivial, fun e_ => hk e_⟩))); (case aS => exact (below_size (by repeat (first | (with_reducible first | exact HB.out | apply below_alloc | apply pw_below_drewN | apply below_drew1 | refine below_set ?_ GE357.out | refine below_set ?_ GE358.out) | exact HB.out)))); (case aL => have := LMc100.out; omega); intro v413 w102 ho hb hg hat; rw [← Ny412.out] at ho; have n0_ := Aside0.mk (blk_grown (g := gb357) (o := .cells #[.int .i64 a1_0, .int .i64 a1_1, .int .i64 a1_2] 24 (0, 0)) (by (with_reducible repeat (first | refine blk_drewN ?_ _ | refine blk_drew ?_ | refine blk_alloc ?_ _)); exact BK357.out) hg (Kd.S_ne HO_7.out BK357.out (by decide))); have n1_ := Aside0.mk (blk_grown (g := gb358) (o := .cells #[.int .i64 a2_0, .int .i64 a2_1, .int .i64 a2_2] 24 (0, 0)) (by (with_reducible repeat (first | refine blk_drewN ?_ _ | refine blk_drew ?_ | refine blk_alloc ?_ _)); exact BK358.out) hg (Kd.S_ne HO_7.out BK358.out (by decide))); have n2_ := Aside0.mk (hb); have n3_ := Aside0.mk (ho); clear BK357; clear BK358; clear HB; clear HO_7; clear HO_9; have BK357 := n0_; have BK358 := n1_; have HB := n2_; have HO414 := n3_; clear n0_ n1_ n2_ n3_; clear ho hb hg hat))
           go_roundg k2
           case measure => have := HK1.out; have := HK2.out; omega
           case rel => exact ⟨(y412), (wrap64 (x8_1 + 1)), (by first | rfl | (simp; done) | (simp [*]; done)), H', ⟨by have := HK1.out; have := HK2.out; omega⟩, ⟨by (with_reducible repeat (first | apply Kd.S_alloc | apply Kd.S_drewN | apply Kd.S_drew)); exact HO414.out⟩, ⟨by (with_reducible repeat (first | refine blk_drewN ?_ _ | refine blk_drew ?_ | refine blk_alloc ?_ _)); exact BK357.out⟩, ⟨by (with_reducible repeat (first | refine blk_drewN ?_ _ | refine blk_drew ?_ | refine blk_alloc ?_ _)); exact BK358.out⟩, ⟨by repeat (first | (with_reducible first | exact HB.out | apply below_alloc | apply pw_below_drewN | apply below_drew1 | refine below_set ?_ GE357.out | refine below_set ?_ GE358.out) | exact HB.out)⟩⟩
          ·rw [if_neg c100] at H
           exact absurd H (by simp)
         ·rw [if_neg c99] at H
          have c99b0 : decide (0 < (x9_2.length : Int)) = false := decide_eq_false c99
          have c99b1 : decide (0 < x9_2.length) = false := decide_eq_false (by omega)
          clear c99
          have H' := Aside0.mk H
          clear H
          have p381 : 0 ≤ (x8_1 : Int) := odt
          have q381 : x8_1 < (l0.length : Int) := odt
          obtain ⟨ad381, A381_0, c381_0, A381_1, c381_1, e381, hx381_0, hx381_1, hl381_0, hi381_0, hl381_1, hi381_1⟩ := at_T41 HR0.out x8_1 p381 q381
          cases e381
          replace hx381_0 := (HB.out.cell (World.block_lt_of_cell? w _ hx381_0)).trans hx381_0
          replace hx381_1 := (HB.out.cell (World.block_lt_of_cell? w _ hx381_1)).trans hx381_1
          have HR381_0 := Aside0.mk hi381_0
          have HC381_0 := Aside0.mk hl381_0
          clear hi381_0 hl381_0
          have HR381_1 := Aside0.mk hi381_1
          have HC381_1 := Aside0.mk hl381_1
          clear hi381_1 hl381_1
          replace p381 := eq_true p381
          replace q381 := eq_true q381
          obtain ⟨Ao103, co103, eo103⟩ := Kd.R_slice HO_9.out
          subst eo103
          go_wp2
          go_roundg k2
          case measure => have := HK1.out; have := HK2.out; omega
          case rel => exact ⟨(x7_1), (wrap64 (x8_1 + 1)), (by first | rfl | (simp; done) | (simp [*]; done)), H', ⟨by have := HK1.out; have := HK2.out; omega⟩, ⟨by (with_reducible repeat (first | apply Kd.S_alloc | apply Kd.S_drewN | apply Kd.S_drew)); exact Kd.S_mono HO_7.out (fun _ hk => trivial)⟩, ⟨by (with_reducible repeat (first | refine blk_drewN ?_ _ | refine blk_drew ?_ | refine blk_alloc ?_ _)); exact BK357.out⟩, ⟨by (with_reducible repeat (first | refine blk_drewN ?_ _ | refine blk_drew ?_ | refine blk_alloc ?_ _)); exact BK358.out⟩, ⟨by repeat (first | (with_reducible first | exact HB.out | apply below_alloc | apply pw_below_drewN | apply below_drew1 | refine below_set ?_ GE357.out | refine below_set ?_ GE358.out) | exact HB.out)⟩⟩
       ·rw [if_neg c8] at H
        exact absurd H (by simp)
      ·rw [if_neg c7] at H
       exact absurd H (by simp)
   ·rw [if_neg c6] at H
    have c6b0 : decide (x8_1 < (l0.length : Int)) = false := decide_eq_false c6
    clear c6
    by_cases c104 : (x7_1.length : Int) > 0
    ·rw [if_pos c104] at H
     have c104b0 : decide (0 < (x7_1.length : Int)) = true := decide_eq_true c104
     have c104b1 : decide (0 < x7_1.length) = true := decide_eq_true (by omega)
     clear c104
     by_cases c105 : a2_0 = 2
     ·rw [if_pos c105] at H
      have c105b0 : (a2_0 == 2) = true := beq_iff_eq.mpr c105
      have c105b1 : (a2_0 != 2) = false := bne_eq_false_iff_eq.mpr c105
      clear c105
      obtain ⟨y359, hy359⟩ : ∃ y_ : List Int, y_ = (([] : List Int)) := ⟨_, rfl⟩
      replace H : (if 0 ≤ (wrap64 ((x7_1.length : Int) - 1)) then (if (wrap64 ((x7_1.length : Int) - 1)) < (x7_1.length : Int) then (if y359.length + (rd_L1 x7_1 (wrap64 ((x7_1.length : Int) - 1))).length < 17592186044416 then ((some (y359 ++ (rd_L1 x7_1 (wrap64 ((x7_1.length : Int) - 1))) : List Int)).bind fun y363 => (if y363.length < 17592186044416 then (some (x7_1.set ((wrap64 ((x7_1.length : Int) - 1)) : Int).toNat (y363 ++ [45]))) else (none))) else (none)) else (none)) else (none)) = some r := by first | (rw [hy359]; with_reducible exact H) | (have H2_ := (Option.bind_some _ _).symm.trans H; rw [hy359]; with_reducible exact H2_) | (have H2_ := (Option.bind_some _ _).symm.trans H; with_reducible exact H2_) | with_reducible exact H | (rw [hy359]; exact H) | exact H
      have Ny359 := Aside0.mk hy359
      clear hy359
      obtain ⟨ji106, hji106⟩ : ∃ j_ : Int, (wrap64 ((x7_1.length : Int) - 1)) = j_ := ⟨_, rfl⟩
      replace H : (if 0 ≤ (ji106) then (if (ji106) < (x7_1.length : Int) then (if y359.length + (rd_L1 x7_1 (ji106)).length < 17592186044416 then ((some (y359 ++ (rd_L1 x7_1 (ji106)) : List Int)).bind fun y363 => (if y363.length < 17592186044416 then (some (x7_1.set ((ji106) : Int).toNat (y363 ++ [45]))) else (none))) else (none)) else (none)) else (none)) = some r := by first | (rw [hji106] at H; exact H) | (simp only [hji106] at H ⊢; exact H)
      have hji106w : (IntKind.i64.wrap ((x7_1.length : Int) - 1)) = ji106 := (i64_w _).trans hji106
      by_cases c107 : 0 ≤ (ji106)
      ·rw [if_pos c107] at H
       have c107b0 : decide (0 ≤ (ji106)) = true := decide_eq_true c107
       clear c107
       by_cases c108 : (ji106) < (x7_1.length : Int)
       ·rw [if_pos c108] at H
        have c108b0 : decide ((ji106) < (x7_1.length : Int)) = true := decide_eq_true c108
        clear c108
        by_cases c109 : y359.length + (rd_L1 x7_1 (ji106)).length < 17592186044416
        ·rw [if_pos c109] at H
         have LMc109 := Aside0.mk c109
         clear c109
         obtain ⟨y363, hy363⟩ : ∃ y_ : List Int, y_ = (y359 ++ (rd_L1 x7_1 (ji106))) := ⟨_, rfl⟩
         replace H : (if y363.length < 17592186044416 then (some (x7_1.set ((ji106) : Int).toNat (y363 ++ [45]))) else (none)) = some r := by first | (rw [hy363]; with_reducible exact H) | (have H2_ := (Option.bind_some _ _).symm.trans H; rw [hy363]; with_reducible exact H2_) | (have H2_ := (Option.bind_some _ _).symm.trans H; with_reducible exact H2_) | with_reducible exact H | (rw [hy363]; exact H) | exact H
         have Ny363 := Aside0.mk hy363
         clear hy363
         by_cases c110 : y363.length < 17592186044416
         ·rw [if_pos c110] at H
          have LMc110 := Aside0.mk c110
          clear c110
          obtain ⟨y366, hy366⟩ : ∃ y_ : List Int, y_ = (y363 ++ [45]) := ⟨_, rfl⟩
          replace H : (some (x7_1.set ((ji106) : Int).toNat y366)) = some r := by first | (rw [hy366]; with_reducible exact H) | (have H2_ := (Option.bind_some _ _).symm.trans H; rw [hy366]; with_reducible exact H2_) | (have H2_ := (Option.bind_some _ _).symm.trans H; with_reducible exact H2_) | with_reducible exact H | (rw [hy366]; exact H) | exact H
          have Ny366 := Aside0.mk hy366
          clear hy366
          obtain ⟨y369, hy369⟩ : ∃ y_ : List (List Int), y_ = (x7_1.set ((ji106) : Int).toNat y366) := ⟨_, rfl⟩
          replace H : (some y369) = some r := by first | (rw [hy369]; with_reducible exact H) | (have H2_ := (Option.bind_some _ _).symm.trans H; rw [hy369]; with_reducible exact H2_) | (have H2_ := (Option.bind_some _ _).symm.trans H; with_reducible exact H2_) | with_reducible exact H | (rw [hy369]; exact H) | exact H
          have Ny369 := Aside0.mk hy369
          clear hy369
          obtain rfl := Option.some.inj H
          obtain ⟨Ao112, co112, eo112⟩ := Kd.S_slice HO_7.out
          subst eo112
          have hnb113 := NB358_357.out
          have hnc113 := NB357_358.out
          have hcz114_0 : wr.cell? ⟨gb358, 0, none⟩ = some (.int .i64 a2_0) := (blk_cell BK358.out 0).trans rfl
          have hcz114_1 : wr.cell? ⟨gb358, 1, none⟩ = some (.int .i64 a2_1) := (blk_cell BK358.out 1).trans rfl
          have hcz114_2 : wr.cell? ⟨gb358, 2, none⟩ = some (.int .i64 a2_2) := (blk_cell BK358.out 2).trans rfl
          have hfz114_0 := blk_frozen BK358.out 0
          have hfz114_1 := blk_frozen BK358.out 1
          have hfz114_2 := blk_frozen BK358.out 2
          go_wp2_with (first | ((with_reducible refine gate_dst (N := 105) rfl ?_); refine Kd.R_lit (Kd.int .i64) _ 3 ?hg (N := 105) ?hd (xs := ([] : List Int)) (inner := []) (ok := fun _ => True) (okp := fun _ => True) ?hr ?hp (fun _ hk => hk) trivial (Below.refl _ _) (Nat.le_refl _) (by simp) ?_; (case hd => rfl); (case hg => rfl); (case hr => first | (go_simp; done) | (go_simp; rfl)); (case hp => exact (Reps.none _ _)); intro v360 w115 ho116 hb hg_ hnew_; clear hg_ hnew_; (first | rw [← Ny359.out] at ho116 | (simp only [Int.reduceToNat] at ho116; rw [← Ny359.out] at ho116)); have n0_ := Aside0.mk (Kd.S_elder' (by (with_reducible repeat (first | apply Kd.S_alloc | apply Kd.S_drewN | apply Kd.S_drew)); exact HO_7.out) (Kd.R_base ho116) hb); have n1_ := Aside0.mk (Kd.R_lower ho116 (below_size (by repeat (first | (with_reducible first | exact HB.out | apply below_alloc | apply pw_below_drewN | apply below_drew1 | refine below_set ?_ GE357.out | refine below_set ?_ GE358.out) | exact HB.out)))); have n2_ := Aside0.mk (blk_below (g := gb357) (o := .cells #[.int .i64 a1_0, .int .i64 a1_1, .int .i64 a1_2] 24 (0, 0)) (by (with_reducible repeat (first | refine blk_drewN ?_ _ | refine blk_drew ?_ | refine blk_alloc ?_ _)); exact BK357.out) hb); have n3_ := Aside0.mk (blk_below (g := gb358) (o := .cells #[.int .i64 a2_0, .int .i64 a2_1, .int .i64 a2_2] 24 (0, 0)) (by (with_reducible repeat (first | refine blk_drewN ?_ _ | refine blk_drew ?_ | refine blk_alloc ?_ _)); exact BK358.out) hb); have n4_ := Aside0.mk (below_step (by repeat (first | (with_reducible first | exact HB.out | apply below_alloc | apply pw_below_drewN | apply below_drew1 | refine below_set ?_ GE357.out | refine below_set ?_ GE358.out) | exact HB.out)) hb); clear HO_7; clear BK357; clear BK358; clear HB; have HO_7 := n0_; have HO361 := n1_; have BK357 := n2_; have BK358 := n3_; have HB := n4_; clear n0_ n1_ n2_ n3_ n4_; clear hb ho116; have p362 : 0 ≤ ((ji106) : Int) := odt; have q362 : (ji106) < (x7_1.length : Int) := odt; obtain ⟨ad362, A362_0, c362_0, e362, hx362_0, hl362_0, hi362_0⟩ := at_L1 (Kd.S_reads' HO_7.out).2.2 (ji106) p362 q362; cases e362; obtain ⟨ce362, hce362, hMe362, hcc362⟩ := Kd.S_get HO_7.out [] (ji106) p362 (by first | exact q362 | exact odt | (have e_ := (Kd.S_reads' HO_7.out).1; omega)); obtain ⟨ve362_0, rfl, ge362_0⟩ := hMe362; have hv362_0 := hcc362 0 _ rfl; rw [Nat.add_zero, show ((Kd.slice 3 (Kd.int .i64))).sz = 1 from rfl, Nat.mul_one] at hv362_0; replace hv362_0 := Option.some.inj (hv362_0.symm.trans hx362_0); rw [hv362_0] at ge362_0; have HL362_0 := Aside0.mk (show Kd.R (Kd.int .i64) 3 _ _ _ _ (rd_L1 x7_1 (ji106)) from ge362_0); clear hv362_0 ge362_0; clear hcc362 hce362; have HR362_0 := Aside0.mk hi362_0; have HC362_0 := Aside0.mk hl362_0; clear hi362_0 hl362_0; replace p362 := eq_true p362; replace q362 := eq_true q362) | ((with_reducible refine gate_builtin (b := .append) (xs := #[.tmp 105, .tmp 111]) rfl ?_); at_builtin; refine Kd.R_append_rows (Kd.int .i64) (w0 := w) w.heap.size rfl (.tmp 105) (.tmp 111) 36 3 (.int .i64 0) 8 rfl Try.underlying36 info3 rfl (by decide) (by omega) v360 y359 (rd_L1 x7_1 (ji106)) _ _ _ (fun _ => True) (fun _ => False) rfl rfl ?aO ?aR (fun _ _ h => h) (fun _ h => h.elim) ?aF ?aB ?aS ?aL ?_; (case aR => repeat (first | exact (by repeat (first | (with_reducible exact HR362_0.out) | (with_reducible refine Kd.C_alloc ?_ _) | (with_reducible refine Kd.C_drewN ?_ _) | (with_reducible refine Kd.C_drew ?_) | exact HR362_0.out)) | (with_reducible refine Kd.C_alloc ?_ _) | (with_reducible refine Kd.C_drewN ?_ _) | (with_reducible refine Kd.C_drew ?_))); (case aB => exact (by repeat (first | (with_reducible first | exact HB.out | apply below_alloc | apply pw_below_drewN | apply below_drew1 | refine below_set ?_ GE357.out | refine below_set ?_ GE358.out) | exact HB.out))); (case aF => exact (fun _ _ => trivial)); (case aO => exact (by (with_reducible repeat (first | apply Kd.R_alloc | apply Kd.R_drewN | apply Kd.R_drew)); exact HO361.out)); (case aS => exact (below_size (by repeat (first | (with_reducible first | exact HB.out | apply below_alloc | apply pw_below_drewN | apply below_drew1 | refine below_set ?_ GE357.out | refine below_set ?_ GE358.out) | exact HB.out)))); (case aL => have := LMc109.out; omega); intro v364 w117 ho hb hg hat; rw [← Ny363.out] at ho; have n0_ := Aside0.mk (Kd.S_after (ok := (fun _ => True)) (by (with_reducible repeat (first | apply Kd.S_alloc | apply Kd.S_drewN | apply Kd.S_drew)); exact HO_7.out) hg hat); have n1_ := Aside0.mk (blk_grown (g := gb357) (o := .cells #[.int .i64 a1_0, .int .i64 a1_1, .int .i64 a1_2] 24 (0, 0)) (by (with_reducible repeat (first | refine blk_drewN ?_ _ | refine blk_drew ?_ | refine blk_alloc ?_ _)); exact BK357.out) hg (Kd.R_ne HO361.out BK357.out (by decide))); have n2_ := Aside0.mk (blk_grown (g := gb358) (o := .cells #[.int .i64 a2_0, .int .i64 a2_1, .int .i64 a2_2] 24 (0, 0)) (by (with_reducible repeat (first | refine blk_drewN ?_ _ | refine blk_drew ?_ | refine blk_alloc ?_ _)); exact BK358.out) hg (Kd.R_ne HO361.out BK358.out (by decide))); have n3_ := Aside0.mk (Kd.R_after (ok := (fun k_ => some k_ ≠ (.slice (some ad362) x7_1.length co112 : Value).ownBlock)) (by (with_reducible repeat (first | apply Kd.R_alloc | apply Kd.R_drewN | apply Kd.R_drew)); exact Kd.R_mono HL362_0.out (fun _ hk => ⟨hk.2, hk.1.2⟩)) hg hat); have n4_ := Aside0.mk (hb); have n5_ := Aside0.mk (ho); clear HO_7; clear BK357; clear BK358; clear HL362_0; clear HB; clear HO361; have HO_7 := n0_; have BK357 := n1_; have BK358 := n2_; have HL362_0 := n3_; have HB := n4_; have HO365 := n5_; clear n0_ n1_ n2_ n3_ n4_ n5_; clear ho hb hg hat) | ((with_reducible refine gate_builtin (b := .append) (xs := #[.tmp 112, .tmp 113]) rfl ?_); at_builtin; refine Kd.R_append (Kd.int .i64) (w0 := w) w.heap.size rfl (.tmp 112) (.tmp 113) 36 3 (.int .i64 0) 8 rfl Try.underlying36 info3 rfl (by decide) (by omega) v364 y363 45 [.int .i64 45] (fun _ => True) (fun _ => False) rfl rfl ?aP (fun _ hk => hk.elim) ?aF ?aO ?aB ?aS ?aL ?_; (case aP => exact rfl); (case aB => exact (by repeat (first | (with_reducible first | exact HB.out | apply below_alloc | apply pw_below_drewN | apply below_drew1 | refine below_set ?_ GE357.out | refine below_set ?_ GE358.out) | exact HB.out))); (case aF => exact (fun _ _ => trivial)); (case aO => exact (by (with_reducible repeat (first | apply Kd.R_alloc | apply Kd.R_drewN | apply Kd.R_drew)); exact HO365.out)); (case aS => exact (below_size (by repeat (first | (with_reducible first | exact HB.out | apply below_alloc | apply pw_below_drewN | apply below_drew1 | refine below_set ?_ GE357.out | refine below_set ?_ GE358.out) | exact HB.out)))); (case aL => have := LMc110.out; omega); intro v367 w118 ho hb hg hat; rw [← Ny366.out] at ho; have n0_ := Aside0.mk (Kd.S_after (ok := (fun _ => True)) (by (with_reducible repeat (first | apply Kd.S_alloc | apply Kd.S_drewN | apply Kd.S_drew)); exact HO_7.out) hg hat); have n1_ := Aside0.mk (blk_grown (g := gb357) (o := .cells #[.int .i64 a1_0, .int .i64 a1_1, .int .i64 a1_2] 24 (0, 0)) (by (with_reducible repeat (first | refine blk_drewN ?_ _ | refine blk_drew ?_ | refine blk_alloc ?_ _)); exact BK357.out) hg (Kd.R_ne HO365.out BK357.out (by decide))); have n2_ := Aside0.mk (blk_grown (g := gb358) (o := .cells #[.int .i64 a2_0, .int .i64 a2_1, .int .i64 a2_2] 24 (0, 0)) (by (with_reducible repeat (first | refine blk_drewN ?_ _ | refine blk_drew ?_ | refine blk_alloc ?_ _)); exact BK358.out) hg (Kd.R_ne HO365.out BK358.out (by decide))); have n3_ := Aside0.mk (Kd.R_after (ok := (fun k_ => some k_ ≠ (.slice (some ad362) x7_1.length co112 : Value).ownBlock)) (by (with_reducible repeat (first | apply Kd.R_alloc | apply Kd.R_drewN | apply Kd.R_drew)); exact HL362_0.out) hg hat); have n4_ := Aside0.mk (hb); have n5_ := Aside0.mk (ho); clear HO_7; clear BK357; clear BK358; clear HL362_0; clear HB; clear HO365; have HO_7 := n0_; have BK357 := n1_; have BK358 := n2_; have HL362_0 := n3_; have HB := n4_; have HO368 := n5_; clear n0_ n1_ n2_ n3_ n4_ n5_; clear ho hb hg hat; have p111 : 0 ≤ ((ji106) : Int) := odt; have q111 : ((ji106) : Int) < ((x7_1.length : Int) : Int) := odt; obtain ⟨go111, co111, eo111, gb111, gl111, cl111, HG111⟩ := Kd.S_form HO_7.out (by omega); (first | cases eo111 | (injection eo111 with ea_ en_ ec_; (first | subst ea_ | (injection ea_ with ea_; subst ea_)); subst ec_; clear en_)); have GB111 := Aside0.mk gb111; have GG111 := Aside0.mk HG111; clear gb111 gl111 HG111; (first | simp only [add_plain] at hx362_0 | skip); obtain ⟨_, ce111, hcl111, hM111, hcc111, hfr111, _, _⟩ := Kd.S_elem HO_7.out [] ((ji106) : Int) p111 q111; obtain ⟨ve111_0, rfl, ge111_0⟩ := hM111; have hx111_0 := hcc111 0 _ rfl; have hf111_0 := hfr111 0; (try simp only [show ((Kd.slice 3 (Kd.int .i64))).sz = 1 from rfl, Nat.mul_one, Nat.add_zero] at hx111_0); (try simp only [show ((Kd.slice 3 (Kd.int .i64))).sz = 1 from rfl, Nat.mul_one, Nat.add_zero] at hf111_0); clear hcl111 hcc111 hfr111; (try clear hM111); replace p111 := eq_true p111; replace q111 := eq_true q111; have n_ := Aside0.mk (Kd.S_mono (ok' := (fun k_ => some k_ ≠ (v367 : Value).ownBlock)) HO_7.out (fun k_ hk => hk.2)); clear HO_7; have HO_7 := n_; clear n_; have HX119 := Aside0.mk (show Kd.S (Kd.slice 3 (Kd.int .i64)) 36 w118 w.heap.size (fun k_ => ((fun _ => True)) k_ ∧ ¬ ((fun k_ => some k_ = (v367 : Value).ownBlock)) k_) (.slice (some ⟨go111, 0, none⟩) x7_1.length co112) x7_1 from (by (with_reducible repeat (first | apply Kd.S_alloc | apply Kd.S_drewN | apply Kd.S_drew)); exact Kd.S_mono HO_7.out (fun k_ hk => ⟨trivial, fun e_ => hk e_⟩))); obtain ⟨oki119, ce119, hcl119, hM119, hcc119, hfr119, hoki119, hH119⟩ := Kd.S_elem HX119.out [] ((ji106) : Int) (odt) (by have h_ : ((ji106) : Int) < ((x7_1.length : Int) : Int) := odt; first | exact h_ | (have e_ := (Kd.S_reads' HO_7.out).1; omega) | simpa using h_); obtain ⟨ve119_0, rfl, ge119_0⟩ := hM119; have HP119 := Kd.S_seg hH119 (odt) (by have h_ : ((ji106) : Int) < ((x7_1.length : Int) : Int) := odt; first | exact h_ | (have e_ := (Kd.S_reads' HO_7.out).1; omega) | simpa using h_) (seg := [v367]) (j := 0) (show 1 ≤ 1 from by decide) (x' := y366) (Kd.M_row (Kd.R_mono (Kd.R_tight rfl (Kd.R_mono (ok' := fun k_ => ((fun _ => True)) k_ ∧ k_ ≠ go111) (Kd.R_apart' (HO368.out) (Kd.S_typed HO_7.out) (by decide)) (fun k_ hk => ⟨trivial, fun e_ => (hk.2) (by rw [e_]; rfl)⟩))) (fun _ h_ => Or.inr (h_)))) (fun _ hk => hk) (fun k_ hk_ => ((Kd.R_mono (ok' := fun k_ => ((fun _ => True)) k_ ∧ k_ ≠ go111) (Kd.R_apart' (HO368.out) (Kd.S_typed HO_7.out) (by decide)) (fun k_ hk => ⟨trivial, fun e_ => (hk.2) (by rw [e_]; rfl)⟩))).1 k_ hk_.symm); have hx119_0 := hcc119 0 _ rfl; (try simp only [show ((Kd.slice 3 (Kd.int .i64))).sz = 1 from rfl, Nat.mul_one, Nat.add_zero] at hx119_0); have hf119_0 := hfr119 0; (try simp only [show ((Kd.slice 3 (Kd.int .i64))).sz = 1 from rfl, Nat.mul_one, Nat.add_zero] at hf119_0); clear hcl119 hcc119 hfr119 hoki119 hH119; (try clear hM119); (try simp only [show ((Kd.slice 3 (Kd.int .i64))).sz = 1 from rfl, Nat.mul_one, Nat.add_zero] at HP119)) | ((with_reducible refine gate_store (t := 36) (p := 115) rfl ?_); refine store_event (t := 36) (p := 115) (v := ?vo_w120) (w1 := (w118.setCell ⟨go111, ((ji106) : Int).toNat, none⟩ (v367))) ?hg ?ho ?hn ?hr ?_; (case ho => rfl); (case hg => rfl); (case hn => rfl); (case hr => first | (go_simp; done) | (go_simp; rfl) | (obtain ⟨Az_, cz_, ez_⟩ := Kd.R_slice HO368.out; subst ez_; first | (go_simp; done) | (go_simp; rfl))); intro w120 hw; have hg : w118.grownBy w120 (some go111) := (by rw [hw]; exact HP119.2); have hp_ : Kd.S (Kd.slice 3 (Kd.int .i64)) 36 w120 w.heap.size (fun _ => True) (.slice (some ⟨go111, 0, none⟩) x7_1.length co112) y369 := (by rw [hw, Ny369.out]; exact HP119.1); clear HP119; have n0_ := Aside0.mk (hp_); have n1_ := Aside0.mk (blk_grown (g := gb357) (o := .cells #[.int .i64 a1_0, .int .i64 a1_1, .int .i64 a1_2] 24 (0, 0)) (by (with_reducible repeat (first | refine blk_drewN ?_ _ | refine blk_drew ?_ | refine blk_alloc ?_ _)); exact BK357.out) hg (Kd.S_ne HO_7.out BK357.out (by decide))); have n2_ := Aside0.mk (blk_grown (g := gb358) (o := .cells #[.int .i64 a2_0, .int .i64 a2_1, .int .i64 a2_2] 24 (0, 0)) (by (with_reducible repeat (first | refine blk_drewN ?_ _ | refine blk_drew ?_ | refine blk_alloc ?_ _)); exact BK358.out) hg (Kd.S_ne HO_7.out BK358.out (by decide))); have n3_ := Aside0.mk (Kd.R_after (v := (.slice (some ⟨go111, 0, none⟩) x7_1.length co112)) (v1 := (.slice (some ⟨go111, 0, none⟩) x7_1.length co112)) (ok := (fun k_ => some k_ ≠ (v367 : Value).ownBlock)) (by (with_reducible repeat (first | apply Kd.R_alloc | apply Kd.R_drewN | apply Kd.R_drew)); exact Kd.R_mono HL362_0.out (fun _ hk => ⟨hk.2, hk.1⟩)) hg (.inl rfl)); have n4_ := Aside0.mk ((by rw [hw]; exact below_set (HB.out) GB111.out : Below w.heap.size w w120)); clear HO_7; clear BK357; clear BK358; clear HL362_0; clear HB; clear HO368; have HO_7 := n0_; have BK357 := n1_; have BK358 := n2_; have HL362_0 := n3_; have HB := n4_; clear n0_ n1_ n2_ n3_ n4_; clear hg hw hp_))
          go_ret
          exact ⟨_, by first | rfl | (simp [errW_none, errW_some] <;> rfl) | (simp only [← hji106]; first | rfl | (simp [errW_none, errW_some] <;> rfl)) | (simp [*, errW_none, errW_some] <;> rfl), by (with_reducible repeat (first | apply Kd.S_alloc | apply Kd.S_drewN | apply Kd.S_drew)); exact HO_7.out, by repeat (first | (with_reducible first | exact HB.out | apply below_alloc | apply pw_below_drewN | apply below_drew1 | refine below_set ?_ GE357.out | refine below_set ?_ GE358.out) | exact HB.out)⟩
         ·rw [if_neg c110] at H
          exact absurd H (by simp)
        ·rw [if_neg c109] at H
         exact absurd H (by simp)
       ·rw [if_neg c108] at H
        exact absurd H (by simp)
      ·rw [if_neg c107] at H
       exact absurd H (by simp)
     ·rw [if_neg c105] at H
      have c105b0 : (a2_0 == 2) = false := beq_eq_false_iff_ne.mpr c105
      have c105b1 : (a2_0 != 2) = true := bne_iff_ne.mpr c105
      by_cases c121 : a2_0 = 3
      ·rw [if_pos c121] at H
       have c121b0 : (a2_0 == 3) = true := beq_iff_eq.mpr c121
       have c121b1 : (a2_0 != 3) = false := bne_eq_false_iff_eq.mpr c121
       clear c121
       obtain ⟨y370, hy370⟩ : ∃ y_ : List Int, y_ = (([] : List Int)) := ⟨_, rfl⟩
       replace H : (if 0 ≤ (wrap64 ((x7_1.length : Int) - 1)) then (if (wrap64 ((x7_1.length : Int) - 1)) < (x7_1.length : Int) then (if y370.length + (rd_L1 x7_1 (wrap64 ((x7_1.length : Int) - 1))).length < 17592186044416 then ((some (y370 ++ (rd_L1 x7_1 (wrap64 ((x7_1.length : Int) - 1))) : List Int)).bind fun y374 => (if y374.length < 17592186044416 then (some (x7_1.set ((wrap64 ((x7_1.length : Int) - 1)) : Int).toNat (y374 ++ [45]))) else (none))) else (none)) else (none)) else (none)) = some r := by first | (rw [hy370]; with_reducible exact H) | (have H2_ := (Option.bind_some _ _).symm.trans H; rw [hy370]; with_reducible exact H2_) | (have H2_ := (Option.bind_some _ _).symm.trans H; with_reducible exact H2_) | with_reducible exact H | (rw [hy370]; exact H) | exact H
       have Ny370 := Aside0.mk hy370
       clear hy370
       obtain ⟨ji122, hji122⟩ : ∃ j_ : Int, (wrap64 ((x7_1.length : Int) - 1)) = j_ := ⟨_, rfl⟩
       replace H : (if 0 ≤ (ji122) then (if (ji122) < (x7_1.length : Int) then (if y370.length + (rd_L1 x7_1 (ji122)).length < 17592186044416 then ((some (y370 ++ (rd_L1 x7_1 (ji122)) : List Int)).bind fun y374 => (if y374.length < 17592186044416 then (some (x7_1.set ((ji122) : Int).toNat (y374 ++ [45]))) else (none))) else (none)) else (none)) else (none)) = some r := by first | (rw [hji122] at H; exact H) | (simp only [hji122] at H ⊢; exact H)
       have hji122w : (IntKind.i64.wrap ((x7_1.length : Int) - 1)) = ji122 := (i64_w _).trans hji122
       by_cases c123 : 0 ≤ (ji122)
       ·rw [if_pos c123] at H
        have c123b0 : decide (0 ≤ (ji122)) = true := decide_eq_true c123
        clear c123
        by_cases c124 : (ji122) < (x7_1.length : Int)
        ·rw [if_pos c124] at H
         have c124b0 : decide ((ji122) < (x7_1.length : Int)) = true := decide_eq_true c124
         clear c124
         by_cases c125 : y370.length + (rd_L1 x7_1 (ji122)).length < 17592186044416
         ·rw [if_pos c125] at H
          have LMc125 := Aside0.mk c125
          clear c125
          obtain ⟨y374, hy374⟩ : ∃ y_ : List Int, y_ = (y370 ++ (rd_L1 x7_1 (ji122))) := ⟨_, rfl⟩
          replace H : (if y374.length < 17592186044416 then (some (x7_1.set ((ji122) : Int).toNat (y374 ++ [45]))) else (none)) = some r := by first | (rw [hy374]; with_reducible exact H) | (have H2_ := (Option.bind_some _ _).symm.trans H; rw [hy374]; with_reducible exact H2_) | (have H2_ := (Option.bind_some _ _).symm.trans H; with_reducible exact H2_) | with_reducible exact H | (rw [hy374]; exact H) | exact H
          have Ny374 := Aside0.mk hy374
          clear hy374
          by_cases c126 : y374.length < 17592186044416
          ·rw [if_pos c126] at H
           have LMc126 := Aside0.mk c126
           clear c126
           obtain ⟨y377, hy377⟩ : ∃ y_ : List Int, y_ = (y374 ++ [45]) := ⟨_, rfl⟩
           replace H : (some (x7_1.set ((ji122) : Int).toNat y377)) = some r := by first | (rw [hy377]; with_reducible exact H) | (have H2_ := (Option.bind_some _ _).symm.trans H; rw [hy377]; with_reducible exact H2_) | (have H2_ := (Option.bind_some _ _).symm.trans H; with_reducible exact H2_) | with_reducible exact H | (rw [hy377]; exact H) | exact H
           have Ny377 := Aside0.mk hy377
           clear hy377
           obtain ⟨y380, hy380⟩ : ∃ y_ : List (List Int), y_ = (x7_1.set ((ji122) : Int).toNat y377) := ⟨_, rfl⟩
           replace H : (some y380) = some r := by first | (rw [hy380]; with_reducible exact H) | (have H2_ := (Option.bind_some _ _).symm.trans H; rw [hy380]; with_reducible exact H2_) | (have H2_ := (Option.bind_some _ _).symm.trans H; with_reducible exact H2_) | with_reducible exact H | (rw [hy380]; exact H) | exact H
           have Ny380 := Aside0.mk hy380
           clear hy380
           obtain rfl := Option.some.inj H
           obtain ⟨Ao128, co128, eo128⟩ := Kd.S_slice HO_7.out
           subst eo128
           have hnb129 := NB358_357.out
           have hnc129 := NB357_358.out
           have hcz130_0 : wr.cell? ⟨gb358, 0, none⟩ = some (.int .i64 a2_0) := (blk_cell BK358.out 0).trans rfl
           have hcz130_1 : wr.cell? ⟨gb358, 1, none⟩ = some (.int .i64 a2_1) := (blk_cell BK358.out 1).trans rfl
           have hcz130_2 : wr.cell? ⟨gb358, 2, none⟩ = some (.int .i64 a2_2) := (blk_cell BK358.out 2).trans rfl
           have hfz130_0 := blk_frozen BK358.out 0
           have hfz130_1 := blk_frozen BK358.out 1
           have hfz130_2 := blk_frozen BK358.out 2
           go_wp2_with (first | ((with_reducible refine gate_dst (N := 105) rfl ?_); refine Kd.R_lit (Kd.int .i64) _ 3 ?hg (N := 105) ?hd (xs := ([] : List Int)) (inner := []) (ok := fun _ => True) (okp := fun _ => True) ?hr ?hp (fun _ hk => hk) trivial (Below.refl _ _) (Nat.le_refl _) (by simp) ?_; (case hd => rfl); (case hg => rfl); (case hr => first | (go_simp; done) | (go_simp; rfl)); (case hp => exact (Reps.none _ _)); intro v371 w131 ho132 hb hg_ hnew_; clear hg_ hnew_; (first | rw [← Ny370.out] at ho132 | (simp only [Int.reduceToNat] at ho132; rw [← Ny370.out] at ho132)); have n0_ := Aside0.mk (Kd.S_elder' (by (with_reducible repeat (first | apply Kd.S_alloc | apply Kd.S_drewN | apply Kd.S_drew)); exact HO_7.out) (Kd.R_base ho132) hb); have n1_ := Aside0.mk (Kd.R_lower ho132 (below_size (by repeat (first | (with_reducible first | exact HB.out | apply below_alloc | apply pw_below_drewN | apply below_drew1 | refine below_set ?_ GE357.out | refine below_set ?_ GE358.out) | exact HB.out)))); have n2_ := Aside0.mk (blk_below (g := gb357) (o := .cells #[.int .i64 a1_0, .int .i64 a1_1, .int .i64 a1_2] 24 (0, 0)) (by (with_reducible repeat (first | refine blk_drewN ?_ _ | refine blk_drew ?_ | refine blk_alloc ?_ _)); exact BK357.out) hb); have n3_ := Aside0.mk (blk_below (g := gb358) (o := .cells #[.int .i64 a2_0, .int .i64 a2_1, .int .i64 a2_2] 24 (0, 0)) (by (with_reducible repeat (first | refine blk_drewN ?_ _ | refine blk_drew ?_ | refine blk_alloc ?_ _)); exact BK358.out) hb); have n4_ := Aside0.mk (below_step (by repeat (first | (with_reducible first | exact HB.out | apply below_alloc | apply pw_below_drewN | apply below_drew1 | refine below_set ?_ GE357.out | refine below_set ?_ GE358.out) | exact HB.out)) hb); clear HO_7; clear BK357; clear BK358; clear HB; have HO_7 := n0_; have HO372 := n1_; have BK357 := n2_; have BK358 := n3_; have HB := n4_; clear n0_ n1_ n2_ n3_ n4_; clear hb ho132; have p373 : 0 ≤ ((ji122) : Int) := odt; have q373 : (ji122) < (x7_1.length : Int) := odt; obtain ⟨ad373, A373_0, c373_0, e373, hx373_0, hl373_0, hi373_0⟩ := at_L1 (Kd.S_reads' HO_7.out).2.2 (ji122) p373 q373; cases e373; obtain ⟨ce373, hce373, hMe373, hcc373⟩ := Kd.S_get HO_7.out [] (ji122) p373 (by first | exact q373 | exact odt | (have e_ := (Kd.S_reads' HO_7.out).1; omega)); obtain ⟨ve373_0, rfl, ge373_0⟩ := hMe373; have hv373_0 := hcc373 0 _ rfl; rw [Nat.add_zero, show ((Kd.slice 3 (Kd.int .i64))).sz = 1 from rfl, Nat.mul_one] at hv373_0; replace hv373_0 := Option.some.inj (hv373_0.symm.trans hx373_0); rw [hv373_0] at ge373_0; have HL373_0 := Aside0.mk (show Kd.R (Kd.int .i64) 3 _ _ _ _ (rd_L1 x7_1 (ji122)) from ge373_0); clear hv373_0 ge373_0; clear hcc373 hce373; have HR373_0 := Aside0.mk hi373_0; have HC373_0 := Aside0.mk hl373_0; clear hi373_0 hl373_0; replace p373 := eq_true p373; replace q373 := eq_true q373) | ((with_reducible refine gate_builtin (b := .append) (xs := #[.tmp 105, .tmp 111]) rfl ?_); at_builtin; refine Kd.R_append_rows (Kd.int .i64) (w0 := w) w.heap.size rfl (.tmp 105) (.tmp 111) 36 3 (.int .i64 0) 8 rfl Try.underlying36 info3 rfl (by decide) (by omega) v371 y370 (rd_L1 x7_1 (ji122)) _ _ _ (fun _ => True) (fun _ => False) rfl rfl ?aO ?aR (fun _ _ h => h) (fun _ h => h.elim) ?aF ?aB ?aS ?aL ?_; (case aR => repeat (first | exact (by repeat (first | (with_reducible exact HR373_0.out) | (with_reducible refine Kd.C_alloc ?_ _) | (with_reducible refine Kd.C_drewN ?_ _) | (with_reducible refine Kd.C_drew ?_) | exact HR373_0.out)) | (with_reducible refine Kd.C_alloc ?_ _) | (with_reducible refine Kd.C_drewN ?_ _) | (with_reducible refine Kd.C_drew ?_))); (case aB => exact (by repeat (first | (with_reducible first | exact HB.out | apply below_alloc | apply pw_below_drewN | apply below_drew1 | refine below_set ?_ GE357.out | refine below_set ?_ GE358.out) | exact HB.out))); (case aF => exact (fun _ _ => trivial)); (case aO => exact (by (with_reducible repeat (first | apply Kd.R_alloc | apply Kd.R_drewN | apply Kd.R_drew)); exact HO372.out)); (case aS => exact (below_size (by repeat (first | (with_reducible first | exact HB.out | apply below_alloc | apply pw_below_drewN | apply below_drew1 | refine below_set ?_ GE357.out | refine below_set ?_ GE358.out) | exact HB.out)))); (case aL => have := LMc125.out; omega); intro v375 w133 ho hb hg hat; rw [← Ny374.out] at ho; have n0_ := Aside0.mk (Kd.S_after (ok := (fun _ => True)) (by (with_reducible repeat (first | apply Kd.S_alloc | apply Kd.S_drewN | apply Kd.S_drew)); exact HO_7.out) hg hat); have n1_ := Aside0.mk (blk_grown (g := gb357) (o := .cells #[.int .i64 a1_0, .int .i64 a1_1, .int .i64 a1_2] 24 (0, 0)) (by (with_reducible repeat (first | refine blk_drewN ?_ _ | refine blk_drew ?_ | refine blk_alloc ?_ _)); exact BK357.out) hg (Kd.R_ne HO372.out BK357.out (by decide))); have n2_ := Aside0.mk (blk_grown (g := gb358) (o := .cells #[.int .i64 a2_0, .int .i64 a2_1, .int .i64 a2_2] 24 (0, 0)) (by (with_reducible repeat (first | refine blk_drewN ?_ _ | refine blk_drew ?_ | refine blk_alloc ?_ _)); exact BK358.out) hg (Kd.R_ne HO372.out BK358.out (by decide))); have n3_ := Aside0.mk (Kd.R_after (ok := (fun k_ => some k_ ≠ (.slice (some ad373) x7_1.length co128 : Value).ownBlock)) (by (with_reducible repeat (first | apply Kd.R_alloc | apply Kd.R_drewN | apply Kd.R_drew)); exact Kd.R_mono HL373_0.out (fun _ hk => ⟨hk.2, hk.1.2⟩)) hg hat); have n4_ := Aside0.mk (hb); have n5_ := Aside0.mk (ho); clear HO_7; clear BK357; clear BK358; clear HL373_0; clear HB; clear HO372; have HO_7 := n0_; have BK357 := n1_; have BK358 := n2_; have HL373_0 := n3_; have HB := n4_; have HO376 := n5_; clear n0_ n1_ n2_ n3_ n4_ n5_; clear ho hb hg hat) | ((with_reducible refine gate_builtin (b := .append) (xs := #[.tmp 112, .tmp 113]) rfl ?_); at_builtin; refine Kd.R_append (Kd.int .i64) (w0 := w) w.heap.size rfl (.tmp 112) (.tmp 113) 36 3 (.int .i64 0) 8 rfl Try.underlying36 info3 rfl (by decide) (by omega) v375 y374 45 [.int .i64 45] (fun _ => True) (fun _ => False) rfl rfl ?aP (fun _ hk => hk.elim) ?aF ?aO ?aB ?aS ?aL ?_; (case aP => exact rfl); (case aB => exact (by repeat (first | (with_reducible first | exact HB.out | apply below_alloc | apply pw_below_drewN | apply below_drew1 | refine below_set ?_ GE357.out | refine below_set ?_ GE358.out) | exact HB.out))); (case aF => exact (fun _ _ => trivial)); (case aO => exact (by (with_reducible repeat (first | apply Kd.R_alloc | apply Kd.R_drewN | apply Kd.R_drew)); exact HO376.out)); (case aS => exact (below_size (by repeat (first | (with_reducible first | exact HB.out | apply below_alloc | apply pw_below_drewN | apply below_drew1 | refine below_set ?_ GE357.out | refine below_set ?_ GE358.out) | exact HB.out)))); (case aL => have := LMc126.out; omega); intro v378 w134 ho hb hg hat; rw [← Ny377.out] at ho; have n0_ := Aside0.mk (Kd.S_after (ok := (fun _ => True)) (by (with_reducible repeat (first | apply Kd.S_alloc | apply Kd.S_drewN | apply Kd.S_drew)); exact HO_7.out) hg hat); have n1_ := Aside0.mk (blk_grown (g := gb357) (o := .cells #[.int .i64 a1_0, .int .i64 a1_1, .int .i64 a1_2] 24 (0, 0)) (by (with_reducible repeat (first | refine blk_drewN ?_ _ | refine blk_drew ?_ | refine blk_alloc ?_ _)); exact BK357.out) hg (Kd.R_ne HO376.out BK357.out (by decide))); have n2_ := Aside0.mk (blk_grown (g := gb358) (o := .cells #[.int .i64 a2_0, .int .i64 a2_1, .int .i64 a2_2] 24 (0, 0)) (by (with_reducible repeat (first | refine blk_drewN ?_ _ | refine blk_drew ?_ | refine blk_alloc ?_ _)); exact BK358.out) hg (Kd.R_ne HO376.out BK358.out (by decide))); have n3_ := Aside0.mk (Kd.R_after (ok := (fun k_ => some k_ ≠ (.slice (some ad373) x7_1.length co128 : Value).ownBlock)) (by (with_reducible repeat (first | apply Kd.R_alloc | apply Kd.R_drewN | apply Kd.R_drew)); exact HL373_0.out) hg hat); have n4_ := Aside0.mk (hb); have n5_ := Aside0.mk (ho); clear HO_7; clear BK357; clear BK358; clear HL373_0; clear HB; clear HO376; have HO_7 := n0_; have BK357 := n1_; have BK358 := n2_; have HL373_0 := n3_; have HB := n4_; have HO379 := n5_; clear n0_ n1_ n2_ n3_ n4_ n5_; clear ho hb hg hat; have p127 : 0 ≤ ((ji122) : Int) := odt; have q127 : ((ji122) : Int) < ((x7_1.length : Int) : Int) := odt; obtain ⟨go127, co127, eo127, gb127, gl127, cl127, HG127⟩ := Kd.S_form HO_7.out (by omega); (first | cases eo127 | (injection eo127 with ea_ en_ ec_; (first | subst ea_ | (injection ea_ with ea_; subst ea_)); subst ec_; clear en_)); have GB127 := Aside0.mk gb127; have GG127 := Aside0.mk HG127; clear gb127 gl127 HG127; (first | simp only [add_plain] at hx373_0 | skip); obtain ⟨_, ce127, hcl127, hM127, hcc127, hfr127, _, _⟩ := Kd.S_elem HO_7.out [] ((ji122) : Int) p127 q127; obtain ⟨ve127_0, rfl, ge127_0⟩ := hM127; have hx127_0 := hcc127 0 _ rfl; have hf127_0 := hfr127 0; (try simp only [show ((Kd.slice 3 (Kd.int .i64))).sz = 1 from rfl, Nat.mul_one, Nat.add_zero] at hx127_0); (try simp only [show ((Kd.slice 3 (Kd.int .i64))).sz = 1 from rfl, Nat.mul_one, Nat.add_zero] at hf127_0); clear hcl127 hcc127 hfr127; (try clear hM127); replace p127 := eq_true p127; replace q127 := eq_true q127; have n_ := Aside0.mk (Kd.S_mono (ok' := (fun k_ => some k_ ≠ (v378 : Value).ownBlock)) HO_7.out (fun k_ hk => hk.2)); clear HO_7; have HO_7 := n_; clear n_; have HX135 := Aside0.mk (show Kd.S (Kd.slice 3 (Kd.int .i64)) 36 w134 w.heap.size (fun k_ => ((fun _ => True)) k_ ∧ ¬ ((fun k_ => some k_ = (v378 : Value).ownBlock)) k_) (.slice (some ⟨go127, 0, none⟩) x7_1.length co128) x7_1 from (by (with_reducible repeat (first | apply Kd.S_alloc | apply Kd.S_drewN | apply Kd.S_drew)); exact Kd.S_mono HO_7.out (fun k_ hk => ⟨trivial, fun e_ => hk e_⟩))); obtain ⟨oki135, ce135, hcl135, hM135, hcc135, hfr135, hoki135, hH135⟩ := Kd.S_elem HX135.out [] ((ji122) : Int) (odt) (by have h_ : ((ji122) : Int) < ((x7_1.length : Int) : Int) := odt; first | exact h_ | (have e_ := (Kd.S_reads' HO_7.out).1; omega) | simpa using h_); obtain ⟨ve135_0, rfl, ge135_0⟩ := hM135; have HP135 := Kd.S_seg hH135 (odt) (by have h_ : ((ji122) : Int) < ((x7_1.length : Int) : Int) := odt; first | exact h_ | (have e_ := (Kd.S_reads' HO_7.out).1; omega) | simpa using h_) (seg := [v378]) (j := 0) (show 1 ≤ 1 from by decide) (x' := y377) (Kd.M_row (Kd.R_mono (Kd.R_tight rfl (Kd.R_mono (ok' := fun k_ => ((fun _ => True)) k_ ∧ k_ ≠ go127) (Kd.R_apart' (HO379.out) (Kd.S_typed HO_7.out) (by decide)) (fun k_ hk => ⟨trivial, fun e_ => (hk.2) (by rw [e_]; rfl)⟩))) (fun _ h_ => Or.inr (h_)))) (fun _ hk => hk) (fun k_ hk_ => ((Kd.R_mono (ok' := fun k_ => ((fun _ => True)) k_ ∧ k_ ≠ go127) (Kd.R_apart' (HO379.out) (Kd.S_typed HO_7.out) (by decide)) (fun k_ hk => ⟨trivial, fun e_ => (hk.2) (by rw [e_]; rfl)⟩))).1 k_ hk_.symm); have hx135_0 := hcc135 0 _ rfl; (try simp only [show ((Kd.slice 3 (Kd.int .i64))).sz = 1 from rfl, Nat.mul_one, Nat.add_zero] at hx135_0); have hf135_0 := hfr135 0; (try simp only [show ((Kd.slice 3 (Kd.int .i64))).sz = 1 from rfl, Nat.mul_one, Nat.add_zero] at hf135_0); clear hcl135 hcc135 hfr135 hoki135 hH135; (try clear hM135); (try simp only [show ((Kd.slice 3 (Kd.int .i64))).sz = 1 from rfl, Nat.mul_one, Nat.add_zero] at HP135)) | ((with_reducible refine gate_store (t := 36) (p := 115) rfl ?_); refine store_event (t := 36) (p := 115) (v := ?vo_w136) (w1 := (w134.setCell ⟨go127, ((ji122) : Int).toNat, none⟩ (v378))) ?hg ?ho ?hn ?hr ?_; (case ho => rfl); (case hg => rfl); (case hn => rfl); (case hr => first | (go_simp; done) | (go_simp; rfl) | (obtain ⟨Az_, cz_, ez_⟩ := Kd.R_slice HO379.out; subst ez_; first | (go_simp; done) | (go_simp; rfl))); intro w136 hw; have hg : w134.grownBy w136 (some go127) := (by rw [hw]; exact HP135.2); have hp_ : Kd.S (Kd.slice 3 (Kd.int .i64)) 36 w136 w.heap.size (fun _ => True) (.slice (some ⟨go127, 0, none⟩) x7_1.length co128) y380 := (by rw [hw, Ny380.out]; exact HP135.1); clear HP135; have n0_ := Aside0.mk (hp_); have n1_ := Aside0.mk (blk_grown (g := gb357) (o := .cells #[.int .i64 a1_0, .int .i64 a1_1, .int .i64 a1_2] 24 (0, 0)) (by (with_reducible repeat (first | refine blk_drewN ?_ _ | refine blk_drew ?_ | refine blk_alloc ?_ _)); exact BK357.out) hg (Kd.S_ne HO_7.out BK357.out (by decide))); have n2_ := Aside0.mk (blk_grown (g := gb358) (o := .cells #[.int .i64 a2_0, .int .i64 a2_1, .int .i64 a2_2] 24 (0, 0)) (by (with_reducible repeat (first | refine blk_drewN ?_ _ | refine blk_drew ?_ | refine blk_alloc ?_ _)); exact BK358.out) hg (Kd.S_ne HO_7.out BK358.out (by decide))); have n3_ := Aside0.mk (Kd.R_after (v := (.slice (some ⟨go127, 0, none⟩) x7_1.length co128)) (v1 := (.slice (some ⟨go127, 0, none⟩) x7_1.length co128)) (ok := (fun k_ => some k_ ≠ (v378 : Value).ownBlock)) (by (with_reducible repeat (first | apply Kd.R_alloc | apply Kd.R_drewN | apply Kd.R_drew)); exact Kd.R_mono HL373_0.out (fun _ hk => ⟨hk.2, hk.1⟩)) hg (.inl rfl)); have n4_ := Aside0.mk ((by rw [hw]; exact below_set (HB.out) GB127.out : Below w.heap.size w w136)); clear HO_7; clear BK357; clear BK358; clear HL373_0; clear HB; clear HO379; have HO_7 := n0_; have BK357 := n1_; have BK358 := n2_; have HL373_0 := n3_; have HB := n4_; clear n0_ n1_ n2_ n3_ n4_; clear hg hw hp_))
           go_ret
           exact ⟨_, by first | rfl | (simp [errW_none, errW_some] <;> rfl) | (simp only [← hji122]; first | rfl | (simp [errW_none, errW_some] <;> rfl)) | (simp [*, errW_none, errW_some] <;> rfl), by (with_reducible repeat (first | apply Kd.S_alloc | apply Kd.S_drewN | apply Kd.S_drew)); exact HO_7.out, by repeat (first | (with_reducible first | exact HB.out | apply below_alloc | apply pw_below_drewN | apply below_drew1 | refine below_set ?_ GE357.out | refine below_set ?_ GE358.out) | exact HB.out)⟩
          ·rw [if_neg c126] at H
           exact absurd H (by simp)
         ·rw [if_neg c125] at H
          exact absurd H (by simp)
        ·rw [if_neg c124] at H
         exact absurd H (by simp)
       ·rw [if_neg c123] at H
        exact absurd H (by simp)
      ·rw [if_neg c121] at H
       have c121b0 : (a2_0 == 3) = false := beq_eq_false_iff_ne.mpr c121
       have c121b1 : (a2_0 != 3) = true := bne_iff_ne.mpr c121
       obtain rfl := Option.some.inj H
       obtain ⟨Ao137, co137, eo137⟩ := Kd.S_slice HO_7.out
       subst eo137
       have hnb138 := NB358_357.out
       have hnc138 := NB357_358.out
       have hcz139_0 : wr.cell? ⟨gb358, 0, none⟩ = some (.int .i64 a2_0) := (blk_cell BK358.out 0).trans rfl
       have hcz139_1 : wr.cell? ⟨gb358, 1, none⟩ = some (.int .i64 a2_1) := (blk_cell BK358.out 1).trans rfl
       have hcz139_2 : wr.cell? ⟨gb358, 2, none⟩ = some (.int .i64 a2_2) := (blk_cell BK358.out 2).trans rfl
       have hfz139_0 := blk_frozen BK358.out 0
       have hfz139_1 := blk_frozen BK358.out 1
       have hfz139_2 := blk_frozen BK358.out 2
       go_wp2
       go_ret
       exact ⟨_, by first | rfl | (simp [errW_none, errW_some] <;> rfl) | (simp [*, errW_none, errW_some] <;> rfl), by (with_reducible repeat (first | apply Kd.S_alloc | apply Kd.S_drewN | apply Kd.S_drew)); exact HO_7.out, by repeat (first | (with_reducible first | exact HB.out | apply below_alloc | apply pw_below_drewN | apply below_drew1 | refine below_set ?_ GE357.out | refine below_set ?_ GE358.out) | exact HB.out)⟩
    ·rw [if_neg c104] at H
     have c104b0 : decide (0 < (x7_1.length : Int)) = false := decide_eq_false c104
     have c104b1 : decide (0 < x7_1.length) = false := decide_eq_false (by omega)
     clear c104
     obtain rfl := Option.some.inj H
     obtain ⟨Ao140, co140, eo140⟩ := Kd.S_slice HO_7.out
     subst eo140
     go_wp2
     go_ret
     exact ⟨_, by first | rfl | (simp [errW_none, errW_some] <;> rfl) | (simp [*, errW_none, errW_some] <;> rfl), by (with_reducible repeat (first | apply Kd.S_alloc | apply Kd.S_drewN | apply Kd.S_drew)); exact HO_7.out, by repeat (first | (with_reducible first | exact HB.out | apply below_alloc | apply pw_below_drewN | apply below_drew1 | refine below_set ?_ GE357.out | refine below_set ?_ GE358.out) | exact HB.out)⟩

end Go.Proofs.Ytepllkdlnajbjaa.G
