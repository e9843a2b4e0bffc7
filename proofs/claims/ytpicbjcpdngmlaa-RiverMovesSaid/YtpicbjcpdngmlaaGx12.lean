/- Contracts of the functions of this seat: what each call computes, as a plain Lean function. Made by this session's own generator. -/
import Derived.Test.YtpicbjcpdngmlaaGx12A
import Derived.Test.YtpicbjcpdngmlaaGx0
import Derived.Test.YtpicbjcpdngmlaaGx5
import Derived.Test.YtpicbjcpdngmlaaGx6
import Derived.Test.YtpicbjcpdngmlaaGx7
namespace Go.Proofs.Ytpicbjcpdngmlaa.G
open Go.RowKit Go.Proofs.YtpicbjcpdngmlaaMy Go.Proofs.YtpicbjcpdngmlaaW.PrintWords Go.Proofs.YtpicbjcpdngmlaaW.PrintLast Go.Proofs.YtpicbjcpdngmlaaW.PrintMore
attribute [local go_sem] max2_int min2_int max_two min_two max_three min_three max_four min_four   -- for this text's walks alone
set_option linter.unusedVariables false
set_option linter.unusedSimpArgs false

/-! ### compositorlaw20_RiverMoves: function 6 -/
def bA (n m : Nat) : Array Bool := ((List.range n).map m.testBit).toArray
set_option maxHeartbeats 8000000 in
set_option maxRecDepth 100000 in
theorem compositorlaw20_RiverMoves.calls (k : Nat) (a0_0 : Int) (a0_1 : Int) (a0_2 : Int) (a0_3 : Int) (A0_4 : Option Addr) (c0_4 : Nat) (l0_4 : List (S33)) (a1_0 : Int) (a1_1 : Int) (a1_2 : Int) (a1_3 : Int) (A1_4 : Option Addr) (c1_4 : Nat) (l1_4 : List (S33)) (a2 : Int) (r : Bool) (w : World) (hr0_4 : Kd.C k33 w A0_4 l0_4.length l0_4) (hc0_4 : l0_4.length ≤ c0_4) (hr1_4 : Kd.C k33 w A1_4 l1_4.length l1_4) (hc1_4 : l1_4.length ≤ c1_4) (h : compositorlaw20_RiverMoves.f k a0_0 a0_1 a0_2 a0_3 l0_4 a1_0 a1_1 a1_2 a1_3 l1_4 a2 = some r) :
  Calls Try.prog 6 #[.agg #[.int .i64 a0_0, .int .i64 a0_1, .int .i64 a0_2, .int .i64 a0_3, .slice A0_4 l0_4.length c0_4], .agg #[.int .i64 a1_0, .int .i64 a1_1, .int .i64 a1_2, .int .i64 a1_3, .slice A1_4 l1_4.length c1_4], .int .i32 a2] w fun e w' => e = .returned (.bool r) ∧ Below w.heap.size w w' := by
 have hu24 := Try.underlying24
 have hu33 := Try.underlying33
 have HR0_4 := Aside0.mk hr0_4
 have HC0_4 := Aside0.mk hc0_4
 clear hr0_4 hc0_4
 have HR1_4 := Aside0.mk hr1_4
 have HC1_4 := Aside0.mk hc1_4
 clear hr1_4 hc1_4
 have HB := Aside0.mk (Below.refl w.heap.size w)
 have H : ((compositorlaw20_awake.f k).bind fun t215 => ((compositorlaw20_few.f a0_0 a0_1 a0_2 a0_3 l0_4).bind fun t216 => (if t216 = true then ((compositorlaw20_few.f a1_0 a1_1 a1_2 a1_3 l1_4).bind fun t217 => (compositorlaw20_RiverMoves.j0 k a2 t215 (!t217) a0_0 a0_1 a0_2 a0_3 l0_4 a1_0 a1_1 a1_2 a1_3 l1_4)) else (compositorlaw20_RiverMoves.j0 k a2 t215 true a0_0 a0_1 a0_2 a0_3 l0_4 a1_0 a1_1 a1_2 a1_3 l1_4)))) = some r := h
 clear h
 replace H := Option.bind_eq_some_iff.mp H
 obtain ⟨t215, A40, H⟩ := H
 replace H : ((compositorlaw20_few.f a0_0 a0_1 a0_2 a0_3 l0_4).bind fun t216 => (if t216 = true then ((compositorlaw20_few.f a1_0 a1_1 a1_2 a1_3 l1_4).bind fun t217 => (compositorlaw20_RiverMoves.j0 k a2 t215 (!t217) a0_0 a0_1 a0_2 a0_3 l0_4 a1_0 a1_1 a1_2 a1_3 l1_4)) else (compositorlaw20_RiverMoves.j0 k a2 t215 true a0_0 a0_1 a0_2 a0_3 l0_4 a1_0 a1_1 a1_2 a1_3 l1_4))) = some r := H
 have A4 := Aside0.mk A40
 clear A40
 have HC5 := Aside0.mk H
 clear H
 go_enter Try.func6, Try.ntmps6
 go_upto_region 2 with (first | ((with_reducible refine gate_dst (N := 3) rfl ?_); refine box_event ?hg (N := 3) ?hd (cs := #[.int .i64 a0_0, .int .i64 a0_1, .int .i64 a0_2, .int .i64 a0_3, .slice A0_4 l0_4.length c0_4]) (t := 24) ?hr ?_; (case hd => rfl); (case hg => rfl); (case hr => first | (go_simp; done) | (go_simp; rfl)); intro gb213 hg w6 hbox hb; have n0_ := Aside0.mk (below_step (by repeat (first | (with_reducible first | exact HB.out | apply below_alloc | apply pw_below_drewN | apply below_drew1) | exact HB.out)) hb); have n1_ := Aside0.mk (hbox); have n2_ := Aside0.mk ((by rw [hg]; exact (below_size (by repeat (first | (with_reducible first | exact HB.out | apply below_alloc | apply pw_below_drewN | apply below_drew1) | exact HB.out))) : w.heap.size ≤ gb213)); have n3_ := Aside0.mk ((by rw [hg]; exact (below_size (by repeat (first | (with_reducible first | exact HB.out | apply below_alloc | apply pw_below_drewN | apply below_drew1) | exact HB.out))) : w.heap.size ≤ gb213)); clear HB; have HB := n0_; have BK213 := n1_; have GW213 := n2_; have GE213 := n3_; clear n0_ n1_ n2_ n3_; clear hb hbox hg) | ((with_reducible refine gate_dst (N := 4) rfl ?_); refine box_event ?hg (N := 4) ?hd (cs := #[.int .i64 a1_0, .int .i64 a1_1, .int .i64 a1_2, .int .i64 a1_3, .slice A1_4 l1_4.length c1_4]) (t := 24) ?hr ?_; (case hd => rfl); (case hg => rfl); (case hr => first | (go_simp; done) | (go_simp; rfl)); intro gb214 hg w7 hbox hb; have n0_ := Aside0.mk (blk_below (g := gb213) (o := .cells #[.int .i64 a0_0, .int .i64 a0_1, .int .i64 a0_2, .int .i64 a0_3, .slice A0_4 l0_4.length c0_4] 24 (0, 0)) (by (with_reducible repeat (first | refine blk_drewN ?_ _ | refine blk_drew ?_ | refine blk_alloc ?_ _)); exact BK213.out) hb); have n1_ := Aside0.mk (below_step (by repeat (first | (with_reducible first | exact HB.out | apply below_alloc | apply pw_below_drewN | apply below_drew1 | refine below_set ?_ GE213.out) | exact HB.out)) hb); have n2_ := Aside0.mk (hbox); have n3_ := Aside0.mk ((by rw [hg]; exact (below_size (by repeat (first | (with_reducible first | exact HB.out | apply below_alloc | apply pw_below_drewN | apply below_drew1 | refine below_set ?_ GE213.out) | exact HB.out))) : w.heap.size ≤ gb214)); have n4_ := Aside0.mk ((by rw [hg]; exact (below_size (by repeat (first | (with_reducible first | exact HB.out | apply below_alloc | apply pw_below_drewN | apply below_drew1 | refine below_set ?_ GE213.out) | exact HB.out))) : w.heap.size ≤ gb214)); have n5_ := Aside0.mk ((by rw [hg]; exact Nat.ne_of_lt (blk_lt (g := gb213) (o := .cells #[.int .i64 a0_0, .int .i64 a0_1, .int .i64 a0_2, .int .i64 a0_3, .slice A0_4 l0_4.length c0_4] 24 (0, 0)) (by (with_reducible repeat (first | refine blk_drewN ?_ _ | refine blk_drew ?_ | refine blk_alloc ?_ _)); exact BK213.out)) : gb213 ≠ gb214)); have n6_ := Aside0.mk ((by rw [hg]; exact Nat.ne_of_gt (blk_lt (g := gb213) (o := .cells #[.int .i64 a0_0, .int .i64 a0_1, .int .i64 a0_2, .int .i64 a0_3, .slice A0_4 l0_4.length c0_4] 24 (0, 0)) (by (with_reducible repeat (first | refine blk_drewN ?_ _ | refine blk_drew ?_ | refine blk_alloc ?_ _)); exact BK213.out)) : gb214 ≠ gb213)); clear BK213; clear HB; have BK213 := n0_; have HB := n1_; have BK214 := n2_; have GW214 := n3_; have GE214 := n4_; have NB213_214 := n5_; have NB214_213 := n6_; clear n0_ n1_ n2_ n3_ n4_ n5_ n6_; clear hb hbox hg) | ((with_reducible refine gate_callee (f := 7) rfl ?_); refine goesL_ (some 16) rfl rfl Try.func7 (by kernel_rfl) rfl #[] rfl (by (try simp only [List.map_toArray, List.map_cons, List.map_nil]); first | done | rfl | (simp only [List.length_drop, List.length_take]; rfl)) ?_; (with_reducible refine (compositorlaw20_awake.calls k  t215 _ A4.out).mono ?_); rintro e w8 ⟨rfl, hb⟩; refine ⟨_, rfl, ?_⟩; have n0_ := Aside0.mk (blk_below (g := gb213) (o := .cells #[.int .i64 a0_0, .int .i64 a0_1, .int .i64 a0_2, .int .i64 a0_3, .slice A0_4 l0_4.length c0_4] 24 (0, 0)) (by (with_reducible repeat (first | refine blk_drewN ?_ _ | refine blk_drew ?_ | refine blk_alloc ?_ _)); exact BK213.out) hb); have n1_ := Aside0.mk (blk_below (g := gb214) (o := .cells #[.int .i64 a1_0, .int .i64 a1_1, .int .i64 a1_2, .int .i64 a1_3, .slice A1_4 l1_4.length c1_4] 24 (0, 0)) (by (with_reducible repeat (first | refine blk_drewN ?_ _ | refine blk_drew ?_ | refine blk_alloc ?_ _)); exact BK214.out) hb); have n2_ := Aside0.mk (below_step (by repeat (first | (with_reducible first | exact HB.out | apply below_alloc | apply pw_below_drewN | apply below_drew1 | refine below_set ?_ GE213.out | refine below_set ?_ GE214.out) | exact HB.out)) hb); clear BK213; clear BK214; clear HB; have BK213 := n0_; have BK214 := n1_; have HB := n2_; clear n0_ n1_ n2_; (try clear hb); (try clear hb2); (try clear hk); (try clear hi)))
 (try simp only [Act.put, List.setIfInBounds_toArray, List.set_cons_zero, List.set_cons_succ])
 go_cut [24] (fun v24 wc => ∃ (kq : Nat) (x24_4 : Bool), v24 = .bool x24_4 ∧ Aside0 (compositorlaw20_RiverMoves.j0 kq a2 t215 x24_4 a0_0 a0_1 a0_2 a0_3 l0_4 a1_0 a1_1 a1_2 a1_3 l1_4 = some r) ∧ Aside0 (kq ≤ k) ∧ Aside0 (wc.heap[gb213]? = some (.cells #[.int .i64 a0_0, .int .i64 a0_1, .int .i64 a0_2, .int .i64 a0_3, (.slice A0_4 l0_4.length c0_4)] 24 (0, 0))) ∧ Aside0 (wc.heap[gb214]? = some (.cells #[.int .i64 a1_0, .int .i64 a1_1, .int .i64 a1_2, .int .i64 a1_3, (.slice A1_4 l1_4.length c1_4)] 24 (0, 0))) ∧ Aside0 (Below w.heap.size w wc))
 case first => as_aux_lemma =>
  have H := HC5.out
  clear HC5
  replace H := Option.bind_eq_some_iff.mp H
  obtain ⟨t216, A90, H⟩ := H
  replace H : (if t216 = true then ((compositorlaw20_few.f a1_0 a1_1 a1_2 a1_3 l1_4).bind fun t217 => (compositorlaw20_RiverMoves.j0 k a2 t215 (!t217) a0_0 a0_1 a0_2 a0_3 l0_4 a1_0 a1_1 a1_2 a1_3 l1_4)) else (compositorlaw20_RiverMoves.j0 k a2 t215 true a0_0 a0_1 a0_2 a0_3 l0_4 a1_0 a1_1 a1_2 a1_3 l1_4)) = some r := H
  have A9 := Aside0.mk A90
  clear A90
  by_cases c10 : t216 = true
  ·subst c10
   have H1 : ((compositorlaw20_few.f a1_0 a1_1 a1_2 a1_3 l1_4).bind fun t217 => (compositorlaw20_RiverMoves.j0 k a2 t215 (!t217) a0_0 a0_1 a0_2 a0_3 l0_4 a1_0 a1_1 a1_2 a1_3 l1_4)) = some r := by rw [if_pos rfl] at H; exact H
   clear H
   have H := H1
   clear H1
   replace H := Option.bind_eq_some_iff.mp H
   obtain ⟨t217, A110, H⟩ := H
   replace H : (compositorlaw20_RiverMoves.j0 k a2 t215 (!t217) a0_0 a0_1 a0_2 a0_3 l0_4 a1_0 a1_1 a1_2 a1_3 l1_4) = some r := H
   have A11 := Aside0.mk A110
   clear A110
   have H' := Aside0.mk H
   clear H
   have hnb12 := NB213_214.out
   have hnc12 := NB214_213.out
   have hcz13_0 : w8.cell? ⟨gb213, 0, none⟩ = some (.int .i64 a0_0) := (blk_cell BK213.out 0).trans rfl
   have hcz13_1 : w8.cell? ⟨gb213, 1, none⟩ = some (.int .i64 a0_1) := (blk_cell BK213.out 1).trans rfl
   have hcz13_2 : w8.cell? ⟨gb213, 2, none⟩ = some (.int .i64 a0_2) := (blk_cell BK213.out 2).trans rfl
   have hcz13_3 : w8.cell? ⟨gb213, 3, none⟩ = some (.int .i64 a0_3) := (blk_cell BK213.out 3).trans rfl
   have hcz13_4 : w8.cell? ⟨gb213, 4, none⟩ = some (.slice A0_4 l0_4.length c0_4) := (blk_cell BK213.out 4).trans rfl
   have hfz13_0 := blk_frozen BK213.out 0
   have hfz13_1 := blk_frozen BK213.out 1
   have hfz13_2 := blk_frozen BK213.out 2
   have hfz13_3 := blk_frozen BK213.out 3
   have hfz13_4 := blk_frozen BK213.out 4
   have tk_ : True := trivial
   go_wp2_with (first | (go_at_call 8; clear tk_; (with_reducible refine (compositorlaw20_few.calls a0_0 a0_1 a0_2 a0_3 _ _ l0_4 true _ ?side1 ?side2 A9.out).mono ?_); (case side1 => repeat (first | exact (Kd.C_below HR0_4.out HB.out) | (with_reducible apply Kd.C_alloc) | (with_reducible apply Kd.C_drewN) | (with_reducible apply Kd.C_drew))); (case side2 => exact HC0_4.out); rintro e w14 ⟨rfl, hb⟩; have n0_ := Aside0.mk (blk_below (g := gb213) (o := .cells #[.int .i64 a0_0, .int .i64 a0_1, .int .i64 a0_2, .int .i64 a0_3, .slice A0_4 l0_4.length c0_4] 24 (0, 0)) (by (with_reducible repeat (first | refine blk_drewN ?_ _ | refine blk_drew ?_ | refine blk_alloc ?_ _)); exact BK213.out) hb); have n1_ := Aside0.mk (blk_below (g := gb214) (o := .cells #[.int .i64 a1_0, .int .i64 a1_1, .int .i64 a1_2, .int .i64 a1_3, .slice A1_4 l1_4.length c1_4] 24 (0, 0)) (by (with_reducible repeat (first | refine blk_drewN ?_ _ | refine blk_drew ?_ | refine blk_alloc ?_ _)); exact BK214.out) hb); have n2_ := Aside0.mk (below_step (by repeat (first | (with_reducible first | exact HB.out | apply below_alloc | apply pw_below_drewN | apply below_drew1 | refine below_set ?_ GE213.out | refine below_set ?_ GE214.out) | exact HB.out)) hb); clear BK213; clear BK214; clear HB; have BK213 := n0_; have BK214 := n1_; have HB := n2_; clear n0_ n1_ n2_; (try clear hb); (try clear hb2); (try clear hk); (try clear hi); have hcz15_0 : w14.cell? ⟨gb214, 0, none⟩ = some (.int .i64 a1_0) := (blk_cell BK214.out 0).trans rfl; have hcz15_1 : w14.cell? ⟨gb214, 1, none⟩ = some (.int .i64 a1_1) := (blk_cell BK214.out 1).trans rfl; have hcz15_2 : w14.cell? ⟨gb214, 2, none⟩ = some (.int .i64 a1_2) := (blk_cell BK214.out 2).trans rfl; have hcz15_3 : w14.cell? ⟨gb214, 3, none⟩ = some (.int .i64 a1_3) := (blk_cell BK214.out 3).trans rfl; have hcz15_4 : w14.cell? ⟨gb214, 4, none⟩ = some (.slice A1_4 l1_4.length c1_4) := (blk_cell BK214.out 4).trans rfl; have hfz15_0 := blk_frozen BK214.out 0; have hfz15_1 := blk_frozen BK214.out 1; have hfz15_2 := blk_frozen BK214.out 2; have hfz15_3 := blk_frozen BK214.out 3; have hfz15_4 := blk_frozen BK214.out 4))
   as_aux_lemma =>
   have tk_ : True := trivial
   go_wp2_with (first | (go_at_call 8; clear tk_; (with_reducible refine (compositorlaw20_few.calls a1_0 a1_1 a1_2 a1_3 _ _ l1_4 t217 _ ?side1 ?side2 A11.out).mono ?_); (case side1 => repeat (first | exact (Kd.C_below HR1_4.out HB.out) | (with_reducible apply Kd.C_alloc) | (with_reducible apply Kd.C_drewN) | (with_reducible apply Kd.C_drew))); (case side2 => exact HC1_4.out); rintro e w16 ⟨rfl, hb⟩; have n0_ := Aside0.mk (blk_below (g := gb213) (o := .cells #[.int .i64 a0_0, .int .i64 a0_1, .int .i64 a0_2, .int .i64 a0_3, .slice A0_4 l0_4.length c0_4] 24 (0, 0)) (by (with_reducible repeat (first | refine blk_drewN ?_ _ | refine blk_drew ?_ | refine blk_alloc ?_ _)); exact BK213.out) hb); have n1_ := Aside0.mk (blk_below (g := gb214) (o := .cells #[.int .i64 a1_0, .int .i64 a1_1, .int .i64 a1_2, .int .i64 a1_3, .slice A1_4 l1_4.length c1_4] 24 (0, 0)) (by (with_reducible repeat (first | refine blk_drewN ?_ _ | refine blk_drew ?_ | refine blk_alloc ?_ _)); exact BK214.out) hb); have n2_ := Aside0.mk (below_step (by repeat (first | (with_reducible first | exact HB.out | apply below_alloc | apply pw_below_drewN | apply below_drew1 | refine below_set ?_ GE213.out | refine below_set ?_ GE214.out) | exact HB.out)) hb); clear BK213; clear BK214; clear HB; have BK213 := n0_; have BK214 := n1_; have HB := n2_; clear n0_ n1_ n2_; (try clear hb); (try clear hb2); (try clear hk); (try clear hi)))
   go_meet
   case rel => exact ⟨_, (!t217), (by first | rfl | (simp; done) | (simp [*]; done)), H', ⟨by first | omega | exact Nat.le_refl _⟩, ⟨by (with_reducible repeat (first | refine blk_drewN ?_ _ | refine blk_drew ?_ | refine blk_alloc ?_ _)); exact BK213.out⟩, ⟨by (with_reducible repeat (first | refine blk_drewN ?_ _ | refine blk_drew ?_ | refine blk_alloc ?_ _)); exact BK214.out⟩, ⟨by repeat (first | (with_reducible first | exact HB.out | apply below_alloc | apply pw_below_drewN | apply below_drew1 | refine below_set ?_ GE213.out | refine below_set ?_ GE214.out) | exact HB.out)⟩⟩
  ·replace c10 := Bool.eq_false_iff.mpr c10
   subst c10
   have H1 : (compositorlaw20_RiverMoves.j0 k a2 t215 true a0_0 a0_1 a0_2 a0_3 l0_4 a1_0 a1_1 a1_2 a1_3 l1_4) = some r := by rw [if_neg (show ¬ (false = true) by decide)] at H; exact H
   clear H
   have H := H1
   clear H1
   have H' := Aside0.mk H
   clear H
   have hnb17 := NB213_214.out
   have hnc17 := NB214_213.out
   have hcz18_0 : w8.cell? ⟨gb213, 0, none⟩ = some (.int .i64 a0_0) := (blk_cell BK213.out 0).trans rfl
   have hcz18_1 : w8.cell? ⟨gb213, 1, none⟩ = some (.int .i64 a0_1) := (blk_cell BK213.out 1).trans rfl
   have hcz18_2 : w8.cell? ⟨gb213, 2, none⟩ = some (.int .i64 a0_2) := (blk_cell BK213.out 2).trans rfl
   have hcz18_3 : w8.cell? ⟨gb213, 3, none⟩ = some (.int .i64 a0_3) := (blk_cell BK213.out 3).trans rfl
   have hcz18_4 : w8.cell? ⟨gb213, 4, none⟩ = some (.slice A0_4 l0_4.length c0_4) := (blk_cell BK213.out 4).trans rfl
   have hfz18_0 := blk_frozen BK213.out 0
   have hfz18_1 := blk_frozen BK213.out 1
   have hfz18_2 := blk_frozen BK213.out 2
   have hfz18_3 := blk_frozen BK213.out 3
   have hfz18_4 := blk_frozen BK213.out 4
   go_wp2_with (first | ((with_reducible refine gate_callee (f := 8) rfl ?_); refine goesL_ (some 18) rfl rfl Try.func8 (by kernel_rfl) rfl #[.agg #[.int .i64 a0_0, .int .i64 a0_1, .int .i64 a0_2, .int .i64 a0_3, .slice A0_4 l0_4.length c0_4]] rfl (by (try simp only [List.map_toArray, List.map_cons, List.map_nil]); first | done | rfl | (simp only [List.length_drop, List.length_take]; rfl)) ?_; (with_reducible refine (compositorlaw20_few.calls a0_0 a0_1 a0_2 a0_3 _ _ l0_4 false _ ?side1 ?side2 A9.out).mono ?_); (case side1 => repeat (first | exact (Kd.C_below HR0_4.out HB.out) | (with_reducible apply Kd.C_alloc) | (with_reducible apply Kd.C_drewN) | (with_reducible apply Kd.C_drew))); (case side2 => exact HC0_4.out); rintro e w19 ⟨rfl, hb⟩; refine ⟨_, rfl, ?_⟩; have n0_ := Aside0.mk (blk_below (g := gb213) (o := .cells #[.int .i64 a0_0, .int .i64 a0_1, .int .i64 a0_2, .int .i64 a0_3, .slice A0_4 l0_4.length c0_4] 24 (0, 0)) (by (with_reducible repeat (first | refine blk_drewN ?_ _ | refine blk_drew ?_ | refine blk_alloc ?_ _)); exact BK213.out) hb); have n1_ := Aside0.mk (blk_below (g := gb214) (o := .cells #[.int .i64 a1_0, .int .i64 a1_1, .int .i64 a1_2, .int .i64 a1_3, .slice A1_4 l1_4.length c1_4] 24 (0, 0)) (by (with_reducible repeat (first | refine blk_drewN ?_ _ | refine blk_drew ?_ | refine blk_alloc ?_ _)); exact BK214.out) hb); have n2_ := Aside0.mk (below_step (by repeat (first | (with_reducible first | exact HB.out | apply below_alloc | apply pw_below_drewN | apply below_drew1 | refine below_set ?_ GE213.out | refine below_set ?_ GE214.out) | exact HB.out)) hb); clear BK213; clear BK214; clear HB; have BK213 := n0_; have BK214 := n1_; have HB := n2_; clear n0_ n1_ n2_; (try clear hb); (try clear hb2); (try clear hk); (try clear hi)))
   go_meet
   case rel => exact ⟨_, (true), (by first | rfl | (simp; done) | (simp [*]; done)), H', ⟨by first | omega | exact Nat.le_refl _⟩, ⟨by (with_reducible repeat (first | refine blk_drewN ?_ _ | refine blk_drew ?_ | refine blk_alloc ?_ _)); exact BK213.out⟩, ⟨by (with_reducible repeat (first | refine blk_drewN ?_ _ | refine blk_drew ?_ | refine blk_alloc ?_ _)); exact BK214.out⟩, ⟨by repeat (first | (with_reducible first | exact HB.out | apply below_alloc | apply pw_below_drewN | apply below_drew1 | refine below_set ?_ GE213.out | refine below_set ?_ GE214.out) | exact HB.out)⟩⟩
 case rest => as_aux_lemma =>
  clear HC5
  (try clear c1); (try clear p2)
  (try clear c6); (try clear c7)
  (try clear c8); (try clear c10)
  (try clear c12); (try clear c17)
  (try clear hcz13_0); (try clear hcz13_1)
  (try clear hcz13_2); (try clear hcz13_3)
  (try clear hcz13_4); (try clear hcz15_0)
  (try clear hcz15_1); (try clear hcz15_2)
  (try clear hcz15_3); (try clear hcz15_4)
  (try clear hcz18_0); (try clear hcz18_1)
  (try clear hcz18_2); (try clear hcz18_3)
  (try clear hcz18_4); (try clear hfz13_0)
  (try clear hfz13_1); (try clear hfz13_2)
  (try clear hfz13_3); (try clear hfz13_4)
  (try clear hfz15_0); (try clear hfz15_1)
  (try clear hfz15_2); (try clear hfz15_3)
  (try clear hfz15_4); (try clear hfz18_0)
  (try clear hfz18_1); (try clear hfz18_2)
  (try clear hfz18_3); (try clear hfz18_4)
  obtain ⟨kq, x24_4, rfl, HA, HJ4, BK213, BK214, HB⟩ := hcut
  cases kq with
  | zero => exact absurd HA.out (by simp [compositorlaw20_RiverMoves.j0])
  | succ kj4 =>
   have H := HA.out
   clear HA
   simp only [compositorlaw20_RiverMoves.j0] at H
   by_cases c20 : x24_4 = true
   ·subst c20
    have H1 : (some t215) = some r := by rw [if_pos rfl] at H; exact H
    clear H
    have H := H1
    clear H1
    obtain rfl := Option.some.inj H
    go_wp2
    go_ret
    exact ⟨by first | rfl | (simp [errW_none, errW_some] <;> rfl) | (simp [*, errW_none, errW_some] <;> rfl), by repeat (first | (with_reducible first | exact HB.out | apply below_alloc | apply pw_below_drewN | apply below_drew1 | refine below_set ?_ GE213.out | refine below_set ?_ GE214.out) | exact HB.out)⟩
   ·replace c20 := Bool.eq_false_iff.mpr c20
    subst c20
    have H1 : (if a0_2 > 1099511627776 then (compositorlaw20_RiverMoves.j1 kj4 a2 t215 true a0_0 a0_1 a0_2 a0_3 l0_4 a1_0 a1_1 a1_2 a1_3 l1_4 0 0 (wrap64 (a0_2 + (wrap64 (a2)))) 0 0 0 (wrap64 (a1_2 + (wrap64 (a2)))) 0) else (if a0_2 < (-1099511627776) then (compositorlaw20_RiverMoves.j1 kj4 a2 t215 true a0_0 a0_1 a0_2 a0_3 l0_4 a1_0 a1_1 a1_2 a1_3 l1_4 0 0 (wrap64 (a0_2 + (wrap64 (a2)))) 0 0 0 (wrap64 (a1_2 + (wrap64 (a2)))) 0) else (if a1_2 > 1099511627776 then (compositorlaw20_RiverMoves.j1 kj4 a2 t215 true a0_0 a0_1 a0_2 a0_3 l0_4 a1_0 a1_1 a1_2 a1_3 l1_4 0 0 (wrap64 (a0_2 + (wrap64 (a2)))) 0 0 0 (wrap64 (a1_2 + (wrap64 (a2)))) 0) else (compositorlaw20_RiverMoves.j1 kj4 a2 t215 (decide (a1_2 < (-1099511627776))) a0_0 a0_1 a0_2 a0_3 l0_4 a1_0 a1_1 a1_2 a1_3 l1_4 0 0 (wrap64 (a0_2 + (wrap64 (a2)))) 0 0 0 (wrap64 (a1_2 + (wrap64 (a2)))) 0)))) = some r := by rw [if_neg (show ¬ (false = true) by decide)] at H; exact H
    clear H
    have H := H1
    clear H1
    have HC21 := Aside0.mk H
    clear H
    have hnb22 := NB213_214.out
    have hnc22 := NB214_213.out
    have hcz23_0 : wc.cell? ⟨gb213, 0, none⟩ = some (.int .i64 a0_0) := (blk_cell BK213.out 0).trans rfl
    have hcz23_1 : wc.cell? ⟨gb213, 1, none⟩ = some (.int .i64 a0_1) := (blk_cell BK213.out 1).trans rfl
    have hcz23_2 : wc.cell? ⟨gb213, 2, none⟩ = some (.int .i64 a0_2) := (blk_cell BK213.out 2).trans rfl
    have hcz23_3 : wc.cell? ⟨gb213, 3, none⟩ = some (.int .i64 a0_3) := (blk_cell BK213.out 3).trans rfl
    have hcz23_4 : wc.cell? ⟨gb213, 4, none⟩ = some (.slice A0_4 l0_4.length c0_4) := (blk_cell BK213.out 4).trans rfl
    have hfz23_0 := blk_frozen BK213.out 0
    have hfz23_1 := blk_frozen BK213.out 1
    have hfz23_2 := blk_frozen BK213.out 2
    have hfz23_3 := blk_frozen BK213.out 3
    have hfz23_4 := blk_frozen BK213.out 4
    go_upto_region 6 with (first | ((with_reducible refine gate_dst (N := 8) rfl ?_); refine box_event ?hg (N := 8) ?hd (cs := #[.int .i64 0, .int .i64 0, .int .i64 0, .int .i64 0, .slice none 0 0]) (t := 24) ?hr ?_; (case hd => rfl); (case hg => rfl); (case hr => first | (go_simp; done) | (go_simp; rfl)); intro gb218 hg w24 hbox hb; have n0_ := Aside0.mk (blk_below (g := gb213) (o := .cells #[.int .i64 a0_0, .int .i64 a0_1, .int .i64 a0_2, .int .i64 a0_3, .slice A0_4 l0_4.length c0_4] 24 (0, 0)) (by (with_reducible repeat (first | refine blk_drewN ?_ _ | refine blk_drew ?_ | refine blk_alloc ?_ _)); exact BK213.out) hb); have n1_ := Aside0.mk (blk_below (g := gb214) (o := .cells #[.int .i64 a1_0, .int .i64 a1_1, .int .i64 a1_2, .int .i64 a1_3, .slice A1_4 l1_4.length c1_4] 24 (0, 0)) (by (with_reducible repeat (first | refine blk_drewN ?_ _ | refine blk_drew ?_ | refine blk_alloc ?_ _)); exact BK214.out) hb); have n2_ := Aside0.mk (below_step (by repeat (first | (with_reducible first | exact HB.out | apply below_alloc | apply pw_below_drewN | apply below_drew1 | refine below_set ?_ GE213.out | refine below_set ?_ GE214.out) | exact HB.out)) hb); have n3_ := Aside0.mk (hbox); have n4_ := Aside0.mk ((by rw [hg]; exact (below_size (by repeat (first | (with_reducible first | exact HB.out | apply below_alloc | apply pw_below_drewN | apply below_drew1 | refine below_set ?_ GE213.out | refine below_set ?_ GE214.out) | exact HB.out))) : w.heap.size ≤ gb218)); have n5_ := Aside0.mk ((by rw [hg]; exact (below_size (by repeat (first | (with_reducible first | exact HB.out | apply below_alloc | apply pw_below_drewN | apply below_drew1 | refine below_set ?_ GE213.out | refine below_set ?_ GE214.out) | exact HB.out))) : w.heap.size ≤ gb218)); have n6_ := Aside0.mk ((by rw [hg]; exact Nat.ne_of_lt (blk_lt (g := gb213) (o := .cells #[.int .i64 a0_0, .int .i64 a0_1, .int .i64 a0_2, .int .i64 a0_3, .slice A0_4 l0_4.length c0_4] 24 (0, 0)) (by (with_reducible repeat (first | refine blk_drewN ?_ _ | refine blk_drew ?_ | refine blk_alloc ?_ _)); exact BK213.out)) : gb213 ≠ gb218)); have n7_ := Aside0.mk ((by rw [hg]; exact Nat.ne_of_gt (blk_lt (g := gb213) (o := .cells #[.int .i64 a0_0, .int .i64 a0_1, .int .i64 a0_2, .int .i64 a0_3, .slice A0_4 l0_4.length c0_4] 24 (0, 0)) (by (with_reducible repeat (first | refine blk_drewN ?_ _ | refine blk_drew ?_ | refine blk_alloc ?_ _)); exact BK213.out)) : gb218 ≠ gb213)); have n8_ := Aside0.mk ((by rw [hg]; exact Nat.ne_of_lt (blk_lt (g := gb214) (o := .cells #[.int .i64 a1_0, .int .i64 a1_1, .int .i64 a1_2, .int .i64 a1_3, .slice A1_4 l1_4.length c1_4] 24 (0, 0)) (by (with_reducible repeat (first | refine blk_drewN ?_ _ | refine blk_drew ?_ | refine blk_alloc ?_ _)); exact BK214.out)) : gb214 ≠ gb218)); have n9_ := Aside0.mk ((by rw [hg]; exact Nat.ne_of_gt (blk_lt (g := gb214) (o := .cells #[.int .i64 a1_0, .int .i64 a1_1, .int .i64 a1_2, .int .i64 a1_3, .slice A1_4 l1_4.length c1_4] 24 (0, 0)) (by (with_reducible repeat (first | refine blk_drewN ?_ _ | refine blk_drew ?_ | refine blk_alloc ?_ _)); exact BK214.out)) : gb218 ≠ gb214)); clear BK213; clear BK214; clear HB; have BK213 := n0_; have BK214 := n1_; have HB := n2_; have BK218 := n3_; have GW218 := n4_; have GE218 := n5_; have NB213_218 := n6_; have NB218_213 := n7_; have NB214_218 := n8_; have NB218_214 := n9_; clear n0_ n1_ n2_ n3_ n4_ n5_ n6_ n7_ n8_ n9_; clear hb hbox hg; have hnb25 := NB218_213.out; have hnc25 := NB213_218.out; have hnb26 := NB218_214.out; have hnc26 := NB214_218.out; have hcz27_0 : w24.cell? ⟨gb218, 0, none⟩ = some (.int .i64 0) := (blk_cell BK218.out 0).trans rfl; have hcz27_1 : w24.cell? ⟨gb218, 1, none⟩ = some (.int .i64 0) := (blk_cell BK218.out 1).trans rfl; have hcz27_2 : w24.cell? ⟨gb218, 2, none⟩ = some (.int .i64 0) := (blk_cell BK218.out 2).trans rfl; have hcz27_3 : w24.cell? ⟨gb218, 3, none⟩ = some (.int .i64 0) := (blk_cell BK218.out 3).trans rfl; have hcz27_4 : w24.cell? ⟨gb218, 4, none⟩ = some (.slice none 0 0) := (blk_cell BK218.out 4).trans rfl; have hfz27_0 := blk_frozen BK218.out 0; have hfz27_1 := blk_frozen BK218.out 1; have hfz27_2 := blk_frozen BK218.out 2; have hfz27_3 := blk_frozen BK218.out 3; have hfz27_4 := blk_frozen BK218.out 4; have hcz28_0 : w24.cell? ⟨gb214, 0, none⟩ = some (.int .i64 a1_0) := (blk_cell BK214.out 0).trans rfl; have hcz28_1 : w24.cell? ⟨gb214, 1, none⟩ = some (.int .i64 a1_1) := (blk_cell BK214.out 1).trans rfl; have hcz28_2 : w24.cell? ⟨gb214, 2, none⟩ = some (.int .i64 a1_2) := (blk_cell BK214.out 2).trans rfl; have hcz28_3 : w24.cell? ⟨gb214, 3, none⟩ = some (.int .i64 a1_3) := (blk_cell BK214.out 3).trans rfl; have hcz28_4 : w24.cell? ⟨gb214, 4, none⟩ = some (.slice A1_4 l1_4.length c1_4) := (blk_cell BK214.out 4).trans rfl; have hfz28_0 := blk_frozen BK214.out 0; have hfz28_1 := blk_frozen BK214.out 1; have hfz28_2 := blk_frozen BK214.out 2; have hfz28_3 := blk_frozen BK214.out 3; have hfz28_4 := blk_frozen BK214.out 4) | ((with_reducible refine gate_dst (N := 9) rfl ?_); refine box_event ?hg (N := 9) ?hd (cs := #[.int .i64 0, .int .i64 0, .int .i64 0, .int .i64 0, .slice none 0 0]) (t := 24) ?hr ?_; (case hd => rfl); (case hg => rfl); (case hr => first | (go_simp; done) | (go_simp; rfl)); intro gb219 hg w29 hbox hb; have n0_ := Aside0.mk (blk_below (g := gb213) (o := .cells #[.int .i64 a0_0, .int .i64 a0_1, .int .i64 a0_2, .int .i64 a0_3, .slice A0_4 l0_4.length c0_4] 24 (0, 0)) (by (with_reducible repeat (first | refine blk_drewN ?_ _ | refine blk_drew ?_ | refine blk_alloc ?_ _)); refine blk_far ?_ NB213_218.out _; (with_reducible repeat (first | refine blk_drewN ?_ _ | refine blk_drew ?_ | refine blk_alloc ?_ _)); refine blk_far ?_ NB213_218.out _; (with_reducible repeat (first | refine blk_drewN ?_ _ | refine blk_drew ?_ | refine blk_alloc ?_ _)); refine blk_far ?_ NB213_218.out _; (with_reducible repeat (first | refine blk_drewN ?_ _ | refine blk_drew ?_ | refine blk_alloc ?_ _)); refine blk_far ?_ NB213_218.out _; (with_reducible repeat (first | refine blk_drewN ?_ _ | refine blk_drew ?_ | refine blk_alloc ?_ _)); refine blk_far ?_ NB213_218.out _; (with_reducible repeat (first | refine blk_drewN ?_ _ | refine blk_drew ?_ | refine blk_alloc ?_ _)); exact BK213.out) hb); have n1_ := Aside0.mk (blk_below (g := gb214) (o := .cells #[.int .i64 a1_0, .int .i64 a1_1, .int .i64 a1_2, .int .i64 a1_3, .slice A1_4 l1_4.length c1_4] 24 (0, 0)) (by (with_reducible repeat (first | refine blk_drewN ?_ _ | refine blk_drew ?_ | refine blk_alloc ?_ _)); refine blk_far ?_ NB214_218.out _; (with_reducible repeat (first | refine blk_drewN ?_ _ | refine blk_drew ?_ | refine blk_alloc ?_ _)); refine blk_far ?_ NB214_218.out _; (with_reducible repeat (first | refine blk_drewN ?_ _ | refine blk_drew ?_ | refine blk_alloc ?_ _)); refine blk_far ?_ NB214_218.out _; (with_reducible repeat (first | refine blk_drewN ?_ _ | refine blk_drew ?_ | refine blk_alloc ?_ _)); refine blk_far ?_ NB214_218.out _; (with_reducible repeat (first | refine blk_drewN ?_ _ | refine blk_drew ?_ | refine blk_alloc ?_ _)); refine blk_far ?_ NB214_218.out _; (with_reducible repeat (first | refine blk_drewN ?_ _ | refine blk_drew ?_ | refine blk_alloc ?_ _)); exact BK214.out) hb); have n2_ := Aside0.mk (blk_below (g := gb218) (o := .cells #[.int .i64 0, .int .i64 0, .int .i64 (wrap64 (a0_2 + (wrap64 (a2)))), .int .i64 0, .slice none 0 0] 24 (0, 0)) (by (with_reducible repeat (first | refine blk_drewN ?_ _ | refine blk_drew ?_ | refine blk_alloc ?_ _)); refine blk_put (cs := #[.int .i64 0, .int .i64 0, .int .i64 (wrap64 (a0_2 + (wrap64 (a2)))), .int .i64 0, .slice none 0 0]) ?_ 4 _ rfl; (with_reducible repeat (first | refine blk_drewN ?_ _ | refine blk_drew ?_ | refine blk_alloc ?_ _)); refine blk_put (cs := #[.int .i64 0, .int .i64 0, .int .i64 (wrap64 (a0_2 + (wrap64 (a2)))), .int .i64 0, .slice none 0 0]) ?_ 3 _ rfl; (with_reducible repeat (first | refine blk_drewN ?_ _ | refine blk_drew ?_ | refine blk_alloc ?_ _)); refine blk_put (cs := #[.int .i64 0, .int .i64 0, .int .i64 0, .int .i64 0, .slice none 0 0]) ?_ 2 _ rfl; (with_reducible repeat (first | refine blk_drewN ?_ _ | refine blk_drew ?_ | refine blk_alloc ?_ _)); refine blk_put (cs := #[.int .i64 0, .int .i64 0, .int .i64 0, .int .i64 0, .slice none 0 0]) ?_ 1 _ rfl; (with_reducible repeat (first | refine blk_drewN ?_ _ | refine blk_drew ?_ | refine blk_alloc ?_ _)); refine blk_put (cs := #[.int .i64 0, .int .i64 0, .int .i64 0, .int .i64 0, .slice none 0 0]) ?_ 0 _ rfl; (with_reducible repeat (first | refine blk_drewN ?_ _ | refine blk_drew ?_ | refine blk_alloc ?_ _)); exact BK218.out) hb); have n3_ := Aside0.mk (below_step (by repeat (first | (with_reducible first | exact HB.out | apply below_alloc | apply pw_below_drewN | apply below_drew1 | refine below_set ?_ GE213.out | refine below_set ?_ GE214.out | refine below_set ?_ GE218.out) | exact HB.out)) hb); have n4_ := Aside0.mk (hbox); have n5_ := Aside0.mk ((by rw [hg]; exact (below_size (by repeat (first | (with_reducible first | exact HB.out | apply below_alloc | apply pw_below_drewN | apply below_drew1 | refine below_set ?_ GE213.out | refine below_set ?_ GE214.out | refine below_set ?_ GE218.out) | exact HB.out))) : w.heap.size ≤ gb219)); have n6_ := Aside0.mk ((by rw [hg]; exact (below_size (by repeat (first | (with_reducible first | exact HB.out | apply below_alloc | apply pw_below_drewN | apply below_drew1 | refine below_set ?_ GE213.out | refine below_set ?_ GE214.out | refine below_set ?_ GE218.out) | exact HB.out))) : w.heap.size ≤ gb219)); have n7_ := Aside0.mk ((by rw [hg]; exact Nat.ne_of_lt (blk_lt (g := gb213) (o := .cells #[.int .i64 a0_0, .int .i64 a0_1, .int .i64 a0_2, .int .i64 a0_3, .slice A0_4 l0_4.length c0_4] 24 (0, 0)) (by (with_reducible repeat (first | refine blk_drewN ?_ _ | refine blk_drew ?_ | refine blk_alloc ?_ _)); refine blk_far ?_ NB213_218.out _; (with_reducible repeat (first | refine blk_drewN ?_ _ | refine blk_drew ?_ | refine blk_alloc ?_ _)); refine blk_far ?_ NB213_218.out _; (with_reducible repeat (first | refine blk_drewN ?_ _ | refine blk_drew ?_ | refine blk_alloc ?_ _)); refine blk_far ?_ NB213_218.out _; (with_reducible repeat (first | refine blk_drewN ?_ _ | refine blk_drew ?_ | refine blk_alloc ?_ _)); refine blk_far ?_ NB213_218.out _; (with_reducible repeat (first | refine blk_drewN ?_ _ | refine blk_drew ?_ | refine blk_alloc ?_ _)); refine blk_far ?_ NB213_218.out _; (with_reducible repeat (first | refine blk_drewN ?_ _ | refine blk_drew ?_ | refine blk_alloc ?_ _)); exact BK213.out)) : gb213 ≠ gb219)); have n8_ := Aside0.mk ((by rw [hg]; exact Nat.ne_of_gt (blk_lt (g := gb213) (o := .cells #[.int .i64 a0_0, .int .i64 a0_1, .int .i64 a0_2, .int .i64 a0_3, .slice A0_4 l0_4.length c0_4] 24 (0, 0)) (by (with_reducible repeat (first | refine blk_drewN ?_ _ | refine blk_drew ?_ | refine blk_alloc ?_ _)); refine blk_far ?_ NB213_218.out _; (with_reducible repeat (first | refine blk_drewN ?_ _ | refine blk_drew ?_ | refine blk_alloc ?_ _)); refine blk_far ?_ NB213_218.out _; (with_reducible repeat (first | refine blk_drewN ?_ _ | refine blk_drew ?_ | refine blk_alloc ?_ _)); refine blk_far ?_ NB213_218.out _; (with_reducible repeat (first | refine blk_drewN ?_ _ | refine blk_drew ?_ | refine blk_alloc ?_ _)); refine blk_far ?_ NB213_218.out _; (with_reducible repeat (first | refine blk_drewN ?_ _ | refine blk_drew ?_ | refine blk_alloc ?_ _)); refine blk_far ?_ NB213_218.out _; (with_reducible repeat (first | refine blk_drewN ?_ _ | refine blk_drew ?_ | refine blk_alloc ?_ _)); exact BK213.out)) : gb219 ≠ gb213)); have n9_ := Aside0.mk ((by rw [hg]; exact Nat.ne_of_lt (blk_lt (g := gb214) (o := .cells #[.int .i64 a1_0, .int .i64 a1_1, .int .i64 a1_2, .int .i64 a1_3, .slice A1_4 l1_4.length c1_4] 24 (0, 0)) (by (with_reducible repeat (first | refine blk_drewN ?_ _ | refine blk_drew ?_ | refine blk_alloc ?_ _)); refine blk_far ?_ NB214_218.out _; (with_reducible repeat (first | refine blk_drewN ?_ _ | refine blk_drew ?_ | refine blk_alloc ?_ _)); refine blk_far ?_ NB214_218.out _; (with_reducible repeat (first | refine blk_drewN ?_ _ | refine blk_drew ?_ | refine blk_alloc ?_ _)); refine blk_far ?_ NB214_218.out _; (with_reducible repeat (first | refine blk_drewN ?_ _ | refine blk_drew ?_ | refine blk_alloc ?_ _)); refine blk_far ?_ NB214_218.out _; (with_reducible repeat (first | refine blk_drewN ?_ _ | refine blk_drew ?_ | refine blk_alloc ?_ _)); refine blk_far ?_ NB214_218.out _; (with_reducible repeat (first | refine blk_drewN ?_ _ | refine blk_drew ?_ | refine blk_alloc ?_ _)); exact BK214.out)) : gb214 ≠ gb219)); have n10_ := Aside0.mk ((by rw [hg]; exact Nat.ne_of_gt (blk_lt (g := gb214) (o := .cells #[.int .i64 a1_0, .int .i64 a1_1, .int .i64 a1_2, .int .i64 a1_3, .slice A1_4 l1_4.length c1_4] 24 (0, 0)) (by (with_reducible repeat (first | refine blk_drewN ?_ _ | refine blk_drew ?_ | refine blk_alloc ?_ _)); refine blk_far ?_ NB214_218.out _; (with_reducible repeat (first | refine blk_drewN ?_ _ | refine blk_drew ?_ | refine blk_alloc ?_ _)); refine blk_far ?_ NB214_218.out _; (with_reducible repeat (first | refine blk_drewN ?_ _ | refine blk_drew ?_ | refine blk_alloc ?_ _)); refine blk_far ?_ NB214_218.out _; (with_reducible repeat (first | refine blk_drewN ?_ _ | refine blk_drew ?_ | refine blk_alloc ?_ _)); refine blk_far ?_ NB214_218.out _; (with_reducible repeat (first | refine blk_drewN ?_ _ | refine blk_drew ?_ | refine blk_alloc ?_ _)); refine blk_far ?_ NB214_218.out _; (with_reducible repeat (first | refine blk_drewN ?_ _ | refine blk_drew ?_ | refine blk_alloc ?_ _)); exact BK214.out)) : gb219 ≠ gb214)); have n11_ := Aside0.mk ((by rw [hg]; exact Nat.ne_of_lt (blk_lt (g := gb218) (o := .cells #[.int .i64 0, .int .i64 0, .int .i64 (wrap64 (a0_2 + (wrap64 (a2)))), .int .i64 0, .slice none 0 0] 24 (0, 0)) (by (with_reducible repeat (first | refine blk_drewN ?_ _ | refine blk_drew ?_ | refine blk_alloc ?_ _)); refine blk_put (cs := #[.int .i64 0, .int .i64 0, .int .i64 (wrap64 (a0_2 + (wrap64 (a2)))), .int .i64 0, .slice none 0 0]) ?_ 4 _ rfl; (with_reducible repeat (first | refine blk_drewN ?_ _ | refine blk_drew ?_ | refine blk_alloc ?_ _)); refine blk_put (cs := #[.int .i64 0, .int .i64 0, .int .i64 (wrap64 (a0_2 + (wrap64 (a2)))), .int .i64 0, .slice none 0 0]) ?_ 3 _ rfl; (with_reducible repeat (first | refine blk_drewN ?_ _ | refine blk_drew ?_ | refine blk_alloc ?_ _)); refine blk_put (cs := #[.int .i64 0, .int .i64 0, .int .i64 0, .int .i64 0, .slice none 0 0]) ?_ 2 _ rfl; (with_reducible repeat (first | refine blk_drewN ?_ _ | refine blk_drew ?_ | refine blk_alloc ?_ _)); refine blk_put (cs := #[.int .i64 0, .int .i64 0, .int .i64 0, .int .i64 0, .slice none 0 0]) ?_ 1 _ rfl; (with_reducible repeat (first | refine blk_drewN ?_ _ | refine blk_drew ?_ | refine blk_alloc ?_ _)); refine blk_put (cs := #[.int .i64 0, .int .i64 0, .int .i64 0, .int .i64 0, .slice none 0 0]) ?_ 0 _ rfl; (with_reducible repeat (first | refine blk_drewN ?_ _ | refine blk_drew ?_ | refine blk_alloc ?_ _)); exact BK218.out)) : gb218 ≠ gb219)); have n12_ := Aside0.mk ((by rw [hg]; exact Nat.ne_of_gt (blk_lt (g := gb218) (o := .cells #[.int .i64 0, .int .i64 0, .int .i64 (wrap64 (a0_2 + (wrap64 (a2)))), .int .i64 0, .slice none 0 0] 24 (0, 0)) (by (with_reducible repeat (first | refine blk_drewN ?_ _ | refine blk_drew ?_ | refine blk_alloc ?_ _)); refine blk_put (cs := #[.int .i64 0, .int .i64 0, .int .i64 (wrap64 (a0_2 + (wrap64 (a2)))), .int .i64 0, .slice none 0 0]) ?_ 4 _ rfl; (with_reducible repeat (first | refine blk_drewN ?_ _ | refine blk_drew ?_ | refine blk_alloc ?_ _)); refine blk_put (cs := #[.int .i64 0, .int .i64 0, .int .i64 (wrap64 (a0_2 + (wrap64 (a2)))), .int .i64 0, .slice none 0 0]) ?_ 3 _ rfl; (with_reducible repeat (first | refine blk_drewN ?_ _ | refine blk_drew ?_ | refine blk_alloc ?_ _)); refine blk_put (cs := #[.int .i64 0, .int .i64 0, .int .i64 0, .int .i64 0, .slice none 0 0]) ?_ 2 _ rfl; (with_reducible repeat (first | refine blk_drewN ?_ _ | refine blk_drew ?_ | refine blk_alloc ?_ _)); refine blk_put (cs := #[.int .i64 0, .int .i64 0, .int .i64 0, .int .i64 0, .slice none 0 0]) ?_ 1 _ rfl; (with_reducible repeat (first | refine blk_drewN ?_ _ | refine blk_drew ?_ | refine blk_alloc ?_ _)); refine blk_put (cs := #[.int .i64 0, .int .i64 0, .int .i64 0, .int .i64 0, .slice none 0 0]) ?_ 0 _ rfl; (with_reducible repeat (first | refine blk_drewN ?_ _ | refine blk_drew ?_ | refine blk_alloc ?_ _)); exact BK218.out)) : gb219 ≠ gb218)); clear BK213; clear BK214; clear BK218; clear HB; have BK213 := n0_; have BK214 := n1_; have BK218 := n2_; have HB := n3_; have BK219 := n4_; have GW219 := n5_; have GE219 := n6_; have NB213_219 := n7_; have NB219_213 := n8_; have NB214_219 := n9_; have NB219_214 := n10_; have NB218_219 := n11_; have NB219_218 := n12_; clear n0_ n1_ n2_ n3_ n4_ n5_ n6_ n7_ n8_ n9_ n10_ n11_ n12_; clear hb hbox hg; have hnb30 := NB219_213.out; have hnc30 := NB213_219.out; have hnb31 := NB219_214.out; have hnc31 := NB214_219.out; have hnb32 := NB219_218.out; have hnc32 := NB218_219.out; have hcz33_0 : w29.cell? ⟨gb219, 0, none⟩ = some (.int .i64 0) := (blk_cell BK219.out 0).trans rfl; have hcz33_1 : w29.cell? ⟨gb219, 1, none⟩ = some (.int .i64 0) := (blk_cell BK219.out 1).trans rfl; have hcz33_2 : w29.cell? ⟨gb219, 2, none⟩ = some (.int .i64 0) := (blk_cell BK219.out 2).trans rfl; have hcz33_3 : w29.cell? ⟨gb219, 3, none⟩ = some (.int .i64 0) := (blk_cell BK219.out 3).trans rfl; have hcz33_4 : w29.cell? ⟨gb219, 4, none⟩ = some (.slice none 0 0) := (blk_cell BK219.out 4).trans rfl; have hfz33_0 := blk_frozen BK219.out 0; have hfz33_1 := blk_frozen BK219.out 1; have hfz33_2 := blk_frozen BK219.out 2; have hfz33_3 := blk_frozen BK219.out 3; have hfz33_4 := blk_frozen BK219.out 4))
    (try simp only [Act.put, List.setIfInBounds_toArray, List.set_cons_zero, List.set_cons_succ])
    go_cut [10] (fun v10 wc => ∃ (kq : Nat) (x10_20 : Bool), v10 = .bool x10_20 ∧ Aside0 (compositorlaw20_RiverMoves.j1 kq a2 t215 x10_20 a0_0 a0_1 a0_2 a0_3 l0_4 a1_0 a1_1 a1_2 a1_3 l1_4 0 0 (wrap64 (a0_2 + (wrap64 (a2)))) 0 0 0 (wrap64 (a1_2 + (wrap64 (a2)))) 0 = some r) ∧ Aside0 (kq ≤ kj4) ∧ Aside0 (wc.heap[gb213]? = some (.cells #[.int .i64 a0_0, .int .i64 a0_1, .int .i64 a0_2, .int .i64 a0_3, (.slice A0_4 l0_4.length c0_4)] 24 (0, 0))) ∧ Aside0 (wc.heap[gb214]? = some (.cells #[.int .i64 a1_0, .int .i64 a1_1, .int .i64 a1_2, .int .i64 a1_3, (.slice A1_4 l1_4.length c1_4)] 24 (0, 0))) ∧ Aside0 (wc.heap[gb218]? = some (.cells #[.int .i64 0, .int .i64 0, .int .i64 (wrap64 (a0_2 + (wrap64 (a2)))), .int .i64 0, (.slice none 0 0)] 24 (0, 0))) ∧ Aside0 (wc.heap[gb219]? = some (.cells #[.int .i64 0, .int .i64 0, .int .i64 (wrap64 (a1_2 + (wrap64 (a2)))), .int .i64 0, (.slice none 0 0)] 24 (0, 0))) ∧ Aside0 (Below w.heap.size w wc))
    case first => as_aux_lemma =>
     have H := HC21.out
     clear HC21
     by_cases c34 : a0_2 > 1099511627776
     ·rw [if_pos c34] at H
      have c34b0 : decide (1099511627776 < a0_2) = true := decide_eq_true c34
      clear c34
      (first | rw [c34b0] | (simp only [i64_w, i32_w]; rw [c34b0]) | skip)
      have H' := Aside0.mk H
      clear H
      have hnb35 := NB213_214.out
      have hnc35 := NB214_213.out
      have hnb36 := NB213_218.out
      have hnc36 := NB218_213.out
      have hnb37 := NB213_219.out
      have hnc37 := NB219_213.out
      have hcz38_0 : w29.cell? ⟨gb213, 0, none⟩ = some (.int .i64 a0_0) := (blk_cell BK213.out 0).trans rfl
      have hcz38_1 : w29.cell? ⟨gb213, 1, none⟩ = some (.int .i64 a0_1) := (blk_cell BK213.out 1).trans rfl
      have hcz38_2 : w29.cell? ⟨gb213, 2, none⟩ = some (.int .i64 a0_2) := (blk_cell BK213.out 2).trans rfl
      have hcz38_3 : w29.cell? ⟨gb213, 3, none⟩ = some (.int .i64 a0_3) := (blk_cell BK213.out 3).trans rfl
      have hcz38_4 : w29.cell? ⟨gb213, 4, none⟩ = some (.slice A0_4 l0_4.length c0_4) := (blk_cell BK213.out 4).trans rfl
      have hfz38_0 := blk_frozen BK213.out 0
      have hfz38_1 := blk_frozen BK213.out 1
      have hfz38_2 := blk_frozen BK213.out 2
      have hfz38_3 := blk_frozen BK213.out 3
      have hfz38_4 := blk_frozen BK213.out 4
      go_wp2
      go_meet
      case rel => exact ⟨_, (true), (by first | rfl | (simp; done) | (simp [*]; done)), H', ⟨by have := HJ4.out; first | omega | exact Nat.le_refl _⟩, ⟨by (with_reducible repeat (first | refine blk_drewN ?_ _ | refine blk_drew ?_ | refine blk_alloc ?_ _)); refine blk_far ?_ NB213_219.out _; (with_reducible repeat (first | refine blk_drewN ?_ _ | refine blk_drew ?_ | refine blk_alloc ?_ _)); refine blk_far ?_ NB213_219.out _; (with_reducible repeat (first | refine blk_drewN ?_ _ | refine blk_drew ?_ | refine blk_alloc ?_ _)); refine blk_far ?_ NB213_219.out _; (with_reducible repeat (first | refine blk_drewN ?_ _ | refine blk_drew ?_ | refine blk_alloc ?_ _)); refine blk_far ?_ NB213_219.out _; (with_reducible repeat (first | refine blk_drewN ?_ _ | refine blk_drew ?_ | refine blk_alloc ?_ _)); refine blk_far ?_ NB213_219.out _; (with_reducible repeat (first | refine blk_drewN ?_ _ | refine blk_drew ?_ | refine blk_alloc ?_ _)); exact BK213.out⟩, ⟨by (with_reducible repeat (first | refine blk_drewN ?_ _ | refine blk_drew ?_ | refine blk_alloc ?_ _)); refine blk_far ?_ NB214_219.out _; (with_reducible repeat (first | refine blk_drewN ?_ _ | refine blk_drew ?_ | refine blk_alloc ?_ _)); refine blk_far ?_ NB214_219.out _; (with_reducible repeat (first | refine blk_drewN ?_ _ | refine blk_drew ?_ | refine blk_alloc ?_ _)); refine blk_far ?_ NB214_219.out _; (with_reducible repeat (first | refine blk_drewN ?_ _ | refine blk_drew ?_ | refine blk_alloc ?_ _)); refine blk_far ?_ NB214_219.out _; (with_reducible repeat (first | refine blk_drewN ?_ _ | refine blk_drew ?_ | refine blk_alloc ?_ _)); refine blk_far ?_ NB214_219.out _; (with_reducible repeat (first | refine blk_drewN ?_ _ | refine blk_drew ?_ | refine blk_alloc ?_ _)); exact BK214.out⟩, ⟨by (with_reducible repeat (first | refine blk_drewN ?_ _ | refine blk_drew ?_ | refine blk_alloc ?_ _)); refine blk_far ?_ NB218_219.out _; (with_reducible repeat (first | refine blk_drewN ?_ _ | refine blk_drew ?_ | refine blk_alloc ?_ _)); refine blk_far ?_ NB218_219.out _; (with_reducible repeat (first | refine blk_drewN ?_ _ | refine blk_drew ?_ | refine blk_alloc ?_ _)); refine blk_far ?_ NB218_219.out _; (with_reducible repeat (first | refine blk_drewN ?_ _ | refine blk_drew ?_ | refine blk_alloc ?_ _)); refine blk_far ?_ NB218_219.out _; (with_reducible repeat (first | refine blk_drewN ?_ _ | refine blk_drew ?_ | refine blk_alloc ?_ _)); refine blk_far ?_ NB218_219.out _; (with_reducible repeat (first | refine blk_drewN ?_ _ | refine blk_drew ?_ | refine blk_alloc ?_ _)); exact BK218.out⟩, ⟨by (with_reducible repeat (first | refine blk_drewN ?_ _ | refine blk_drew ?_ | refine blk_alloc ?_ _)); refine blk_put (cs := #[.int .i64 0, .int .i64 0, .int .i64 (wrap64 (a1_2 + (wrap64 (a2)))), .int .i64 0, .slice none 0 0]) ?_ 4 _ rfl; (with_reducible repeat (first | refine blk_drewN ?_ _ | refine blk_drew ?_ | refine blk_alloc ?_ _)); refine blk_put (cs := #[.int .i64 0, .int .i64 0, .int .i64 (wrap64 (a1_2 + (wrap64 (a2)))), .int .i64 0, .slice none 0 0]) ?_ 3 _ rfl; (with_reducible repeat (first | refine blk_drewN ?_ _ | refine blk_drew ?_ | refine blk_alloc ?_ _)); refine blk_put (cs := #[.int .i64 0, .int .i64 0, .int .i64 0, .int .i64 0, .slice none 0 0]) ?_ 2 _ rfl; (with_reducible repeat (first | refine blk_drewN ?_ _ | refine blk_drew ?_ | refine blk_alloc ?_ _)); refine blk_put (cs := #[.int .i64 0, .int .i64 0, .int .i64 0, .int .i64 0, .slice none 0 0]) ?_ 1 _ rfl; (with_reducible repeat (first | refine blk_drewN ?_ _ | refine blk_drew ?_ | refine blk_alloc ?_ _)); refine blk_put (cs := #[.int .i64 0, .int .i64 0, .int .i64 0, .int .i64 0, .slice none 0 0]) ?_ 0 _ rfl; (with_reducible repeat (first | refine blk_drewN ?_ _ | refine blk_drew ?_ | refine blk_alloc ?_ _)); exact BK219.out⟩, ⟨by repeat (first | (with_reducible first | exact HB.out | apply below_alloc | apply pw_below_drewN | apply below_drew1 | refine below_set ?_ GE213.out | refine below_set ?_ GE214.out | refine below_set ?_ GE218.out | refine below_set ?_ GE219.out) | exact HB.out)⟩⟩
     ·rw [if_neg c34] at H
      have c34b0 : decide (1099511627776 < a0_2) = false := decide_eq_false c34
      clear c34
      (first | rw [c34b0] | (simp only [i64_w, i32_w]; rw [c34b0]) | skip)
      by_cases c39 : a0_2 < (-1099511627776)
      ·rw [if_pos c39] at H
       have c39b0 : decide (a0_2 < (-1099511627776)) = true := decide_eq_true c39
       clear c39
       have H' := Aside0.mk H
       clear H
       have hnb40 := NB213_214.out
       have hnc40 := NB214_213.out
       have hnb41 := NB213_218.out
       have hnc41 := NB218_213.out
       have hnb42 := NB213_219.out
       have hnc42 := NB219_213.out
       have hcz43_0 : w29.cell? ⟨gb213, 0, none⟩ = some (.int .i64 a0_0) := (blk_cell BK213.out 0).trans rfl
       have hcz43_1 : w29.cell? ⟨gb213, 1, none⟩ = some (.int .i64 a0_1) := (blk_cell BK213.out 1).trans rfl
       have hcz43_2 : w29.cell? ⟨gb213, 2, none⟩ = some (.int .i64 a0_2) := (blk_cell BK213.out 2).trans rfl
       have hcz43_3 : w29.cell? ⟨gb213, 3, none⟩ = some (.int .i64 a0_3) := (blk_cell BK213.out 3).trans rfl
       have hcz43_4 : w29.cell? ⟨gb213, 4, none⟩ = some (.slice A0_4 l0_4.length c0_4) := (blk_cell BK213.out 4).trans rfl
       have hfz43_0 := blk_frozen BK213.out 0
       have hfz43_1 := blk_frozen BK213.out 1
       have hfz43_2 := blk_frozen BK213.out 2
       have hfz43_3 := blk_frozen BK213.out 3
       have hfz43_4 := blk_frozen BK213.out 4
       go_wp2
       go_meet
       case rel => exact ⟨_, (true), (by first | rfl | (simp; done) | (simp [*]; done)), H', ⟨by have := HJ4.out; first | omega | exact Nat.le_refl _⟩, ⟨by (with_reducible repeat (first | refine blk_drewN ?_ _ | refine blk_drew ?_ | refine blk_alloc ?_ _)); refine blk_far ?_ NB213_219.out _; (with_reducible repeat (first | refine blk_drewN ?_ _ | refine blk_drew ?_ | refine blk_alloc ?_ _)); refine blk_far ?_ NB213_219.out _; (with_reducible repeat (first | refine blk_drewN ?_ _ | refine blk_drew ?_ | refine blk_alloc ?_ _)); refine blk_far ?_ NB213_219.out _; (with_reducible repeat (first | refine blk_drewN ?_ _ | refine blk_drew ?_ | refine blk_alloc ?_ _)); refine blk_far ?_ NB213_219.out _; (with_reducible repeat (first | refine blk_drewN ?_ _ | refine blk_drew ?_ | refine blk_alloc ?_ _)); refine blk_far ?_ NB213_219.out _; (with_reducible repeat (first | refine blk_drewN ?_ _ | refine blk_drew ?_ | refine blk_alloc ?_ _)); exact BK213.out⟩, ⟨by (with_reducible repeat (first | refine blk_drewN ?_ _ | refine blk_drew ?_ | refine blk_alloc ?_ _)); refine blk_far ?_ NB214_219.out _; (with_reducible repeat (first | refine blk_drewN ?_ _ | refine blk_drew ?_ | refine blk_alloc ?_ _)); refine blk_far ?_ NB214_219.out _; (with_reducible repeat (first | refine blk_drewN ?_ _ | refine blk_drew ?_ | refine blk_alloc ?_ _)); refine blk_far ?_ NB214_219.out _; (with_reducible repeat (first | refine blk_drewN ?_ _ | refine blk_drew ?_ | refine blk_alloc ?_ _)); refine blk_far ?_ NB214_219.out _; (with_reducible repeat (first | refine blk_drewN ?_ _ | refine blk_drew ?_ | refine blk_alloc ?_ _)); refine blk_far ?_ NB214_219.out _; (with_reducible repeat (first | refine blk_drewN ?_ _ | refine blk_drew ?_ | refine blk_alloc ?_ _)); exact BK214.out⟩, ⟨by (with_reducible repeat (first | refine blk_drewN ?_ _ | refine blk_drew ?_ | refine blk_alloc ?_ _)); refine blk_far ?_ NB218_219.out _; (with_reducible repeat (first | refine blk_drewN ?_ _ | refine blk_drew ?_ | refine blk_alloc ?_ _)); refine blk_far ?_ NB218_219.out _; (with_reducible repeat (first | refine blk_drewN ?_ _ | refine blk_drew ?_ | refine blk_alloc ?_ _)); refine blk_far ?_ NB218_219.out _; (with_reducible repeat (first | refine blk_drewN ?_ _ | refine blk_drew ?_ | refine blk_alloc ?_ _)); refine blk_far ?_ NB218_219.out _; (with_reducible repeat (first | refine blk_drewN ?_ _ | refine blk_drew ?_ | refine blk_alloc ?_ _)); refine blk_far ?_ NB218_219.out _; (with_reducible repeat (first | refine blk_drewN ?_ _ | refine blk_drew ?_ | refine blk_alloc ?_ _)); exact BK218.out⟩, ⟨by (with_reducible repeat (first | refine blk_drewN ?_ _ | refine blk_drew ?_ | refine blk_alloc ?_ _)); refine blk_put (cs := #[.int .i64 0, .int .i64 0, .int .i64 (wrap64 (a1_2 + (wrap64 (a2)))), .int .i64 0, .slice none 0 0]) ?_ 4 _ rfl; (with_reducible repeat (first | refine blk_drewN ?_ _ | refine blk_drew ?_ | refine blk_alloc ?_ _)); refine blk_put (cs := #[.int .i64 0, .int .i64 0, .int .i64 (wrap64 (a1_2 + (wrap64 (a2)))), .int .i64 0, .slice none 0 0]) ?_ 3 _ rfl; (with_reducible repeat (first | refine blk_drewN ?_ _ | refine blk_drew ?_ | refine blk_alloc ?_ _)); refine blk_put (cs := #[.int .i64 0, .int .i64 0, .int .i64 0, .int .i64 0, .slice none 0 0]) ?_ 2 _ rfl; (with_reducible repeat (first | refine blk_drewN ?_ _ | refine blk_drew ?_ | refine blk_alloc ?_ _)); refine blk_put (cs := #[.int .i64 0, .int .i64 0, .int .i64 0, .int .i64 0, .slice none 0 0]) ?_ 1 _ rfl; (with_reducible repeat (first | refine blk_drewN ?_ _ | refine blk_drew ?_ | refine blk_alloc ?_ _)); refine blk_put (cs := #[.int .i64 0, .int .i64 0, .int .i64 0, .int .i64 0, .slice none 0 0]) ?_ 0 _ rfl; (with_reducible repeat (first | refine blk_drewN ?_ _ | refine blk_drew ?_ | refine blk_alloc ?_ _)); exact BK219.out⟩, ⟨by repeat (first | (with_reducible first | exact HB.out | apply below_alloc | apply pw_below_drewN | apply below_drew1 | refine below_set ?_ GE213.out | refine below_set ?_ GE214.out | refine below_set ?_ GE218.out | refine below_set ?_ GE219.out) | exact HB.out)⟩⟩
      ·rw [if_neg c39] at H
       have c39b0 : decide (a0_2 < (-1099511627776)) = false := decide_eq_false c39
       clear c39
       by_cases c44 : a1_2 > 1099511627776
       ·rw [if_pos c44] at H
        have c44b0 : decide (1099511627776 < a1_2) = true := decide_eq_true c44
        clear c44
        have H' := Aside0.mk H
        clear H
        have hnb45 := NB213_214.out
        have hnc45 := NB214_213.out
        have hnb46 := NB213_218.out
        have hnc46 := NB218_213.out
        have hnb47 := NB213_219.out
        have hnc47 := NB219_213.out
        have hcz48_0 : w29.cell? ⟨gb213, 0, none⟩ = some (.int .i64 a0_0) := (blk_cell BK213.out 0).trans rfl
        have hcz48_1 : w29.cell? ⟨gb213, 1, none⟩ = some (.int .i64 a0_1) := (blk_cell BK213.out 1).trans rfl
        have hcz48_2 : w29.cell? ⟨gb213, 2, none⟩ = some (.int .i64 a0_2) := (blk_cell BK213.out 2).trans rfl
        have hcz48_3 : w29.cell? ⟨gb213, 3, none⟩ = some (.int .i64 a0_3) := (blk_cell BK213.out 3).trans rfl
        have hcz48_4 : w29.cell? ⟨gb213, 4, none⟩ = some (.slice A0_4 l0_4.length c0_4) := (blk_cell BK213.out 4).trans rfl
        have hfz48_0 := blk_frozen BK213.out 0
        have hfz48_1 := blk_frozen BK213.out 1
        have hfz48_2 := blk_frozen BK213.out 2
        have hfz48_3 := blk_frozen BK213.out 3
        have hfz48_4 := blk_frozen BK213.out 4
        have hnb49 := NB214_218.out
        have hnc49 := NB218_214.out
        have hnb50 := NB214_219.out
        have hnc50 := NB219_214.out
        have hcz51_0 : w29.cell? ⟨gb214, 0, none⟩ = some (.int .i64 a1_0) := (blk_cell BK214.out 0).trans rfl
        have hcz51_1 : w29.cell? ⟨gb214, 1, none⟩ = some (.int .i64 a1_1) := (blk_cell BK214.out 1).trans rfl
        have hcz51_2 : w29.cell? ⟨gb214, 2, none⟩ = some (.int .i64 a1_2) := (blk_cell BK214.out 2).trans rfl
        have hcz51_3 : w29.cell? ⟨gb214, 3, none⟩ = some (.int .i64 a1_3) := (blk_cell BK214.out 3).trans rfl
        have hcz51_4 : w29.cell? ⟨gb214, 4, none⟩ = some (.slice A1_4 l1_4.length c1_4) := (blk_cell BK214.out 4).trans rfl
        have hfz51_0 := blk_frozen BK214.out 0
        have hfz51_1 := blk_frozen BK214.out 1
        have hfz51_2 := blk_frozen BK214.out 2
        have hfz51_3 := blk_frozen BK214.out 3
        have hfz51_4 := blk_frozen BK214.out 4
        go_wp2
        go_meet
        case rel => exact ⟨_, (true), (by first | rfl | (simp; done) | (simp [*]; done)), H', ⟨by have := HJ4.out; first | omega | exact Nat.le_refl _⟩, ⟨by (with_reducible repeat (first | refine blk_drewN ?_ _ | refine blk_drew ?_ | refine blk_alloc ?_ _)); refine blk_far ?_ NB213_219.out _; (with_reducible repeat (first | refine blk_drewN ?_ _ | refine blk_drew ?_ | refine blk_alloc ?_ _)); refine blk_far ?_ NB213_219.out _; (with_reducible repeat (first | refine blk_drewN ?_ _ | refine blk_drew ?_ | refine blk_alloc ?_ _)); refine blk_far ?_ NB213_219.out _; (with_reducible repeat (first | refine blk_drewN ?_ _ | refine blk_drew ?_ | refine blk_alloc ?_ _)); refine blk_far ?_ NB213_219.out _; (with_reducible repeat (first | refine blk_drewN ?_ _ | refine blk_drew ?_ | refine blk_alloc ?_ _)); refine blk_far ?_ NB213_219.out _; (with_reducible repeat (first | refine blk_drewN ?_ _ | refine blk_drew ?_ | refine blk_alloc ?_ _)); exact BK213.out⟩, ⟨by (with_reducible repeat (first | refine blk_drewN ?_ _ | refine blk_drew ?_ | refine blk_alloc ?_ _)); refine blk_far ?_ NB214_219.out _; (with_reducible repeat (first | refine blk_drewN ?_ _ | refine blk_drew ?_ | refine blk_alloc ?_ _)); refine blk_far ?_ NB214_219.out _; (with_reducible repeat (first | refine blk_drewN ?_ _ | refine blk_drew ?_ | refine blk_alloc ?_ _)); refine blk_far ?_ NB214_219.out _; (with_reducible repeat (first | refine blk_drewN ?_ _ | refine blk_drew ?_ | refine blk_alloc ?_ _)); refine blk_far ?_ NB214_219.out _; (with_reducible repeat (first | refine blk_drewN ?_ _ | refine blk_drew ?_ | refine blk_alloc ?_ _)); refine blk_far ?_ NB214_219.out _; (with_reducible repeat (first | refine blk_drewN ?_ _ | refine blk_drew ?_ | refine blk_alloc ?_ _)); exact BK214.out⟩, ⟨by (with_reducible repeat (first | refine blk_drewN ?_ _ | refine blk_drew ?_ | refine blk_alloc ?_ _)); refine blk_far ?_ NB218_219.out _; (with_reducible repeat (first | refine blk_drewN ?_ _ | refine blk_drew ?_ | refine blk_alloc ?_ _)); refine blk_far ?_ NB218_219.out _; (with_reducible repeat (first | refine blk_drewN ?_ _ | refine blk_drew ?_ | refine blk_alloc ?_ _)); refine blk_far ?_ NB218_219.out _; (with_reducible repeat (first | refine blk_drewN ?_ _ | refine blk_drew ?_ | refine blk_alloc ?_ _)); refine blk_far ?_ NB218_219.out _; (with_reducible repeat (first | refine blk_drewN ?_ _ | refine blk_drew ?_ | refine blk_alloc ?_ _)); refine blk_far ?_ NB218_219.out _; (with_reducible repeat (first | refine blk_drewN ?_ _ | refine blk_drew ?_ | refine blk_alloc ?_ _)); exact BK218.out⟩, ⟨by (with_reducible repeat (first | refine blk_drewN ?_ _ | refine blk_drew ?_ | refine blk_alloc ?_ _)); refine blk_put (cs := #[.int .i64 0, .int .i64 0, .int .i64 (wrap64 (a1_2 + (wrap64 (a2)))), .int .i64 0, .slice none 0 0]) ?_ 4 _ rfl; (with_reducible repeat (first | refine blk_drewN ?_ _ | refine blk_drew ?_ | refine blk_alloc ?_ _)); refine blk_put (cs := #[.int .i64 0, .int .i64 0, .int .i64 (wrap64 (a1_2 + (wrap64 (a2)))), .int .i64 0, .slice none 0 0]) ?_ 3 _ rfl; (with_reducible repeat (first | refine blk_drewN ?_ _ | refine blk_drew ?_ | refine blk_alloc ?_ _)); refine blk_put (cs := #[.int .i64 0, .int .i64 0, .int .i64 0, .int .i64 0, .slice none 0 0]) ?_ 2 _ rfl; (with_reducible repeat (first | refine blk_drewN ?_ _ | refine blk_drew ?_ | refine blk_alloc ?_ _)); refine blk_put (cs := #[.int .i64 0, .int .i64 0, .int .i64 0, .int .i64 0, .slice none 0 0]) ?_ 1 _ rfl; (with_reducible repeat (first | refine blk_drewN ?_ _ | refine blk_drew ?_ | refine blk_alloc ?_ _)); refine blk_put (cs := #[.int .i64 0, .int .i64 0, .int .i64 0, .int .i64 0, .slice none 0 0]) ?_ 0 _ rfl; (with_reducible repeat (first | refine blk_drewN ?_ _ | refine blk_drew ?_ | refine blk_alloc ?_ _)); exact BK219.out⟩, ⟨by repeat (first | (with_reducible first | exact HB.out | apply below_alloc | apply pw_below_drewN | apply below_drew1 | refine below_set ?_ GE213.out | refine below_set ?_ GE214.out | refine below_set ?_ GE218.out | refine below_set ?_ GE219.out) | exact HB.out)⟩⟩
       ·rw [if_neg c44] at H
        have c44b0 : decide (1099511627776 < a1_2) = false := decide_eq_false c44
        clear c44
        have H' := Aside0.mk H
        clear H
        have hnb52 := NB213_214.out
        have hnc52 := NB214_213.out
        have hnb53 := NB213_218.out
        have hnc53 := NB218_213.out
        have hnb54 := NB213_219.out
        have hnc54 := NB219_213.out
        have hcz55_0 : w29.cell? ⟨gb213, 0, none⟩ = some (.int .i64 a0_0) := (blk_cell BK213.out 0).trans rfl
        have hcz55_1 : w29.cell? ⟨gb213, 1, none⟩ = some (.int .i64 a0_1) := (blk_cell BK213.out 1).trans rfl
        have hcz55_2 : w29.cell? ⟨gb213, 2, none⟩ = some (.int .i64 a0_2) := (blk_cell BK213.out 2).trans rfl
        have hcz55_3 : w29.cell? ⟨gb213, 3, none⟩ = some (.int .i64 a0_3) := (blk_cell BK213.out 3).trans rfl
        have hcz55_4 : w29.cell? ⟨gb213, 4, none⟩ = some (.slice A0_4 l0_4.length c0_4) := (blk_cell BK213.out 4).trans rfl
        have hfz55_0 := blk_frozen BK213.out 0
        have hfz55_1 := blk_frozen BK213.out 1
        have hfz55_2 := blk_frozen BK213.out 2
        have hfz55_3 := blk_frozen BK213.out 3
        have hfz55_4 := blk_frozen BK213.out 4
        have hnb56 := NB214_218.out
        have hnc56 := NB218_214.out
        have hnb57 := NB214_219.out
        have hnc57 := NB219_214.out
        have hcz58_0 : w29.cell? ⟨gb214, 0, none⟩ = some (.int .i64 a1_0) := (blk_cell BK214.out 0).trans rfl
        have hcz58_1 : w29.cell? ⟨gb214, 1, none⟩ = some (.int .i64 a1_1) := (blk_cell BK214.out 1).trans rfl
        have hcz58_2 : w29.cell? ⟨gb214, 2, none⟩ = some (.int .i64 a1_2) := (blk_cell BK214.out 2).trans rfl
        have hcz58_3 : w29.cell? ⟨gb214, 3, none⟩ = some (.int .i64 a1_3) := (blk_cell BK214.out 3).trans rfl
        have hcz58_4 : w29.cell? ⟨gb214, 4, none⟩ = some (.slice A1_4 l1_4.length c1_4) := (blk_cell BK214.out 4).trans rfl
        have hfz58_0 := blk_frozen BK214.out 0
        have hfz58_1 := blk_frozen BK214.out 1
        have hfz58_2 := blk_frozen BK214.out 2
        have hfz58_3 := blk_frozen BK214.out 3
        have hfz58_4 := blk_frozen BK214.out 4
        go_wp2
        go_meet
        case rel => exact ⟨_, (decide (a1_2 < (-1099511627776))), (by first | rfl | (simp; done) | (simp [*]; done)), H', ⟨by have := HJ4.out; first | omega | exact Nat.le_refl _⟩, ⟨by (with_reducible repeat (first | refine blk_drewN ?_ _ | refine blk_drew ?_ | refine blk_alloc ?_ _)); refine blk_far ?_ NB213_219.out _; (with_reducible repeat (first | refine blk_drewN ?_ _ | refine blk_drew ?_ | refine blk_alloc ?_ _)); refine blk_far ?_ NB213_219.out _; (with_reducible repeat (first | refine blk_drewN ?_ _ | refine blk_drew ?_ | refine blk_alloc ?_ _)); refine blk_far ?_ NB213_219.out _; (with_reducible repeat (first | refine blk_drewN ?_ _ | refine blk_drew ?_ | refine blk_alloc ?_ _)); refine blk_far ?_ NB213_219.out _; (with_reducible repeat (first | refine blk_drewN ?_ _ | refine blk_drew ?_ | refine blk_alloc ?_ _)); refine blk_far ?_ NB213_219.out _; (with_reducible repeat (first | refine blk_drewN ?_ _ | refine blk_drew ?_ | refine blk_alloc ?_ _)); exact BK213.out⟩, ⟨by (with_reducible repeat (first | refine blk_drewN ?_ _ | refine blk_drew ?_ | refine blk_alloc ?_ _)); refine blk_far ?_ NB214_219.out _; (with_reducible repeat (first | refine blk_drewN ?_ _ | refine blk_drew ?_ | refine blk_alloc ?_ _)); refine blk_far ?_ NB214_219.out _; (with_reducible repeat (first | refine blk_drewN ?_ _ | refine blk_drew ?_ | refine blk_alloc ?_ _)); refine blk_far ?_ NB214_219.out _; (with_reducible repeat (first | refine blk_drewN ?_ _ | refine blk_drew ?_ | refine blk_alloc ?_ _)); refine blk_far ?_ NB214_219.out _; (with_reducible repeat (first | refine blk_drewN ?_ _ | refine blk_drew ?_ | refine blk_alloc ?_ _)); refine blk_far ?_ NB214_219.out _; (with_reducible repeat (first | refine blk_drewN ?_ _ | refine blk_drew ?_ | refine blk_alloc ?_ _)); exact BK214.out⟩, ⟨by (with_reducible repeat (first | refine blk_drewN ?_ _ | refine blk_drew ?_ | refine blk_alloc ?_ _)); refine blk_far ?_ NB218_219.out _; (with_reducible repeat (first | refine blk_drewN ?_ _ | refine blk_drew ?_ | refine blk_alloc ?_ _)); refine blk_far ?_ NB218_219.out _; (with_reducible repeat (first | refine blk_drewN ?_ _ | refine blk_drew ?_ | refine blk_alloc ?_ _)); refine blk_far ?_ NB218_219.out _; (with_reducible repeat (first | refine blk_drewN ?_ _ | refine blk_drew ?_ | refine blk_alloc ?_ _)); refine blk_far ?_ NB218_219.out _; (with_reducible repeat (first | refine blk_drewN ?_ _ | refine blk_drew ?_ | refine blk_alloc ?_ _)); refine blk_far ?_ NB218_219.out _; (with_reducible repeat (first | refine blk_drewN ?_ _ | refine blk_drew ?_ | refine blk_alloc ?_ _)); exact BK218.out⟩, ⟨by (with_reducible repeat (first | refine blk_drewN ?_ _ | refine blk_drew ?_ | refine blk_alloc ?_ _)); refine blk_put (cs := #[.int .i64 0, .int .i64 0, .int .i64 (wrap64 (a1_2 + (wrap64 (a2)))), .int .i64 0, .slice none 0 0]) ?_ 4 _ rfl; (with_reducible repeat (first | refine blk_drewN ?_ _ | refine blk_drew ?_ | refine blk_alloc ?_ _)); refine blk_put (cs := #[.int .i64 0, .int .i64 0, .int .i64 (wrap64 (a1_2 + (wrap64 (a2)))), .int .i64 0, .slice none 0 0]) ?_ 3 _ rfl; (with_reducible repeat (first | refine blk_drewN ?_ _ | refine blk_drew ?_ | refine blk_alloc ?_ _)); refine blk_put (cs := #[.int .i64 0, .int .i64 0, .int .i64 0, .int .i64 0, .slice none 0 0]) ?_ 2 _ rfl; (with_reducible repeat (first | refine blk_drewN ?_ _ | refine blk_drew ?_ | refine blk_alloc ?_ _)); refine blk_put (cs := #[.int .i64 0, .int .i64 0, .int .i64 0, .int .i64 0, .slice none 0 0]) ?_ 1 _ rfl; (with_reducible repeat (first | refine blk_drewN ?_ _ | refine blk_drew ?_ | refine blk_alloc ?_ _)); refine blk_put (cs := #[.int .i64 0, .int .i64 0, .int .i64 0, .int .i64 0, .slice none 0 0]) ?_ 0 _ rfl; (with_reducible repeat (first | refine blk_drewN ?_ _ | refine blk_drew ?_ | refine blk_alloc ?_ _)); exact BK219.out⟩, ⟨by repeat (first | (with_reducible first | exact HB.out | apply below_alloc | apply pw_below_drewN | apply below_drew1 | refine below_set ?_ GE213.out | refine below_set ?_ GE214.out | refine below_set ?_ GE218.out | refine below_set ?_ GE219.out) | exact HB.out)⟩⟩
    case rest => as_aux_lemma =>
     clear HC21
     (try clear c1); (try clear c2)
     (try clear p2); (try clear c3)
     (try clear c4); (try clear c5)
     (try clear c6); (try clear p6)
     (try clear c7); (try clear c8)
     (try clear c10); (try clear c12)
     (try clear c17); (try clear c20)
     (try clear c22); (try clear c25)
     (try clear c26); (try clear c30)
     (try clear c31); (try clear c32)
     (try clear c34); (try clear c34b0)
     (try clear c35); (try clear c36)
     (try clear c37); (try clear c39)
     (try clear c39b0); (try clear c40)
     (try clear c41); (try clear c42)
     (try clear c44); (try clear c44b0)
     (try clear c45); (try clear c46)
     (try clear c47); (try clear c49)
     (try clear c50); (try clear c52)
     (try clear c53); (try clear c54)
     (try clear c56); (try clear c57)
     (try clear hcz13_0); (try clear hcz13_1)
     (try clear hcz13_2); (try clear hcz13_3)
     (try clear hcz13_4); (try clear hcz15_0)
     (try clear hcz15_1); (try clear hcz15_2)
     (try clear hcz15_3); (try clear hcz15_4)
     (try clear hcz18_0); (try clear hcz18_1)
     (try clear hcz18_2); (try clear hcz18_3)
     (try clear hcz18_4); (try clear hcz23_0)
     (try clear hcz23_1); (try clear hcz23_2)
     (try clear hcz23_3); (try clear hcz23_4)
     (try clear hcz27_0); (try clear hcz27_1)
     (try clear hcz27_2); (try clear hcz27_3)
     (try clear hcz27_4); (try clear hcz28_0)
     (try clear hcz28_1); (try clear hcz28_2)
     (try clear hcz28_3); (try clear hcz28_4)
     (try clear hcz33_0); (try clear hcz33_1)
     (try clear hcz33_2); (try clear hcz33_3)
     (try clear hcz33_4); (try clear hcz38_0)
     (try clear hcz38_1); (try clear hcz38_2)
     (try clear hcz38_3); (try clear hcz38_4)
     (try clear hcz43_0); (try clear hcz43_1)
     (try clear hcz43_2); (try clear hcz43_3)
     (try clear hcz43_4); (try clear hcz48_0)
     (try clear hcz48_1); (try clear hcz48_2)
     (try clear hcz48_3); (try clear hcz48_4)
     (try clear hcz51_0); (try clear hcz51_1)
     (try clear hcz51_2); (try clear hcz51_3)
     (try clear hcz51_4); (try clear hcz55_0)
     (try clear hcz55_1); (try clear hcz55_2)
     (try clear hcz55_3); (try clear hcz55_4)
     (try clear hcz58_0); (try clear hcz58_1)
     (try clear hcz58_2); (try clear hcz58_3)
     (try clear hcz58_4); (try clear hfz13_0)
     (try clear hfz13_1); (try clear hfz13_2)
     (try clear hfz13_3); (try clear hfz13_4)
     (try clear hfz15_0); (try clear hfz15_1)
     (try clear hfz15_2); (try clear hfz15_3)
     (try clear hfz15_4); (try clear hfz18_0)
     (try clear hfz18_1); (try clear hfz18_2)
     (try clear hfz18_3); (try clear hfz18_4)
     (try clear hfz23_0); (try clear hfz23_1)
     (try clear hfz23_2); (try clear hfz23_3)
     (try clear hfz23_4); (try clear hfz27_0)
     (try clear hfz27_1); (try clear hfz27_2)
     (try clear hfz27_3); (try clear hfz27_4)
     (try clear hfz28_0); (try clear hfz28_1)
     (try clear hfz28_2); (try clear hfz28_3)
     (try clear hfz28_4); (try clear hfz33_0)
     (try clear hfz33_1); (try clear hfz33_2)
     (try clear hfz33_3); (try clear hfz33_4)
     (try clear hfz38_0); (try clear hfz38_1)
     (try clear hfz38_2); (try clear hfz38_3)
     (try clear hfz38_4); (try clear hfz43_0)
     (try clear hfz43_1); (try clear hfz43_2)
     (try clear hfz43_3); (try clear hfz43_4)
     (try clear hfz48_0); (try clear hfz48_1)
     (try clear hfz48_2); (try clear hfz48_3)
     (try clear hfz48_4); (try clear hfz51_0)
     (try clear hfz51_1); (try clear hfz51_2)
     (try clear hfz51_3); (try clear hfz51_4)
     (try clear hfz55_0); (try clear hfz55_1)
     (try clear hfz55_2); (try clear hfz55_3)
     (try clear hfz55_4); (try clear hfz58_0)
     (try clear hfz58_1); (try clear hfz58_2)
     (try clear hfz58_3); (try clear hfz58_4); (try clear p2)
     obtain ⟨kq, x10_20, rfl, HA, HJ20, BK213, BK214, BK218, BK219, HB⟩ := hcut
     cases kq with
     | zero => exact absurd HA.out (by simp [compositorlaw20_RiverMoves.j1])
     | succ kj20 =>
      have H := HA.out
      clear HA
      simp only [compositorlaw20_RiverMoves.j1] at H
      have H' := Aside0.mk H
      clear H
      go_wp2
      go_loopg [10, 11] kj20 (fun kq v10 v11 w' => ∃ (x10_3 : Bool) (x11_3 : Int) (x219004_3 : List (S33)) (u219004 : Value), v10 = .bool x10_3 ∧ v11 = .int .i64 x11_3 ∧ Aside0 (compositorlaw20_RiverMoves.l0 kq a2 t215 x10_3 x11_3 a0_0 a0_1 a0_2 a0_3 l0_4 a1_0 a1_1 a1_2 a1_3 l1_4 0 0 (wrap64 (a0_2 + (wrap64 (a2)))) 0 x219004_3 0 0 (wrap64 (a1_2 + (wrap64 (a2)))) 0 = some r) ∧ Aside0 (kq ≤ kj20) ∧ Aside0 (Kd.R k33 33 w' w.heap.size (fun _ => True) u219004 x219004_3) ∧ Aside0 (w'.heap[gb213]? = some (.cells #[.int .i64 a0_0, .int .i64 a0_1, .int .i64 a0_2, .int .i64 a0_3, (.slice A0_4 l0_4.length c0_4)] 24 (0, 0))) ∧ Aside0 (w'.heap[gb214]? = some (.cells #[.int .i64 a1_0, .int .i64 a1_1, .int .i64 a1_2, .int .i64 a1_3, (.slice A1_4 l1_4.length c1_4)] 24 (0, 0))) ∧ Aside0 (w'.heap[gb218]? = some (.cells #[.int .i64 0, .int .i64 0, .int .i64 (wrap64 (a0_2 + (wrap64 (a2)))), .int .i64 0, u219004] 24 (0, 0))) ∧ Aside0 (w'.heap[gb219]? = some (.cells #[.int .i64 0, .int .i64 0, .int .i64 (wrap64 (a1_2 + (wrap64 (a2)))), .int .i64 0, (.slice none 0 0)] 24 (0, 0))) ∧ Aside0 (Below w.heap.size w w'))
      case atStart => exact ⟨(x10_20), (0), (([] : List (S33))), (.slice none 0 0), (by first | rfl | (simp; done) | (simp [*]; done)), (by first | rfl | (simp; done) | (simp [*]; done)), H', ⟨Nat.le_refl _⟩, ⟨by first | exact Kd.R_nil _ _ _ _ _ | exact Kd.N_nil _ _ _ _ _ | exact Kd.V_nil _ _ _ _ _ | exact Kd.Q_nil _ _ _ _ _ | exact Kd.S_nil _ _ _ _ _⟩, ⟨by (with_reducible repeat (first | refine blk_drewN ?_ _ | refine blk_drew ?_ | refine blk_alloc ?_ _)); exact BK213.out⟩, ⟨by (with_reducible repeat (first | refine blk_drewN ?_ _ | refine blk_drew ?_ | refine blk_alloc ?_ _)); exact BK214.out⟩, ⟨by (with_reducible repeat (first | refine blk_drewN ?_ _ | refine blk_drew ?_ | refine blk_alloc ?_ _)); exact BK218.out⟩, ⟨by (with_reducible repeat (first | refine blk_drewN ?_ _ | refine blk_drew ?_ | refine blk_alloc ?_ _)); exact BK219.out⟩, ⟨by repeat (first | (with_reducible first | exact HB.out | apply below_alloc | apply pw_below_drewN | apply below_drew1 | refine below_set ?_ GE213.out | refine below_set ?_ GE214.out | refine below_set ?_ GE218.out | refine below_set ?_ GE219.out) | exact HB.out)⟩⟩
      case round =>
       clear H'
       (try clear c1); (try clear c2)
       (try clear p2); (try clear c3)
       (try clear c4); (try clear c5)
       (try clear c6); (try clear p6)
       (try clear c7); (try clear c8)
       (try clear c10); (try clear c12)
       (try clear c17); (try clear c20)
       (try clear c22); (try clear c25)
       (try clear c26); (try clear c30)
       (try clear c31); (try clear c32)
       (try clear c34); (try clear c34b0)
       (try clear c35); (try clear c36)
       (try clear c37); (try clear c39)
       (try clear c39b0); (try clear c40)
       (try clear c41); (try clear c42)
       (try clear c44); (try clear c44b0)
       (try clear c45); (try clear c46)
       (try clear c47); (try clear c49)
       (try clear c50); (try clear c52)
       (try clear c53); (try clear c54)
       (try clear c56); (try clear c57)
       (try clear hcz13_0); (try clear hcz13_1)
       (try clear hcz13_2); (try clear hcz13_3)
       (try clear hcz13_4); (try clear hcz15_0)
       (try clear hcz15_1); (try clear hcz15_2)
       (try clear hcz15_3); (try clear hcz15_4)
       (try clear hcz18_0); (try clear hcz18_1)
       (try clear hcz18_2); (try clear hcz18_3)
       (try clear hcz18_4); (try clear hcz23_0)
       (try clear hcz23_1); (try clear hcz23_2)
       (try clear hcz23_3); (try clear hcz23_4)
       (try clear hcz27_0); (try clear hcz27_1)
       (try clear hcz27_2); (try clear hcz27_3)
       (try clear hcz27_4); (try clear hcz28_0)
       (try clear hcz28_1); (try clear hcz28_2)
       (try clear hcz28_3); (try clear hcz28_4)
       (try clear hcz33_0); (try clear hcz33_1)
       (try clear hcz33_2); (try clear hcz33_3)
       (try clear hcz33_4); (try clear hcz38_0)
       (try clear hcz38_1); (try clear hcz38_2)
       (try clear hcz38_3); (try clear hcz38_4)
       (try clear hcz43_0); (try clear hcz43_1)
       (try clear hcz43_2); (try clear hcz43_3)
       (try clear hcz43_4); (try clear hcz48_0)
       (try clear hcz48_1); (try clear hcz48_2)
       (try clear hcz48_3); (try clear hcz48_4)
       (try clear hcz51_0); (try clear hcz51_1)
       (try clear hcz51_2); (try clear hcz51_3)
       (try clear hcz51_4); (try clear hcz55_0)
       (try clear hcz55_1); (try clear hcz55_2)
       (try clear hcz55_3); (try clear hcz55_4)
       (try clear hcz58_0); (try clear hcz58_1)
       (try clear hcz58_2); (try clear hcz58_3)
       (try clear hcz58_4); (try clear hfz13_0)
       (try clear hfz13_1); (try clear hfz13_2)
       (try clear hfz13_3); (try clear hfz13_4)
       (try clear hfz15_0); (try clear hfz15_1)
       (try clear hfz15_2); (try clear hfz15_3)
       (try clear hfz15_4); (try clear hfz18_0)
       (try clear hfz18_1); (try clear hfz18_2)
       (try clear hfz18_3); (try clear hfz18_4)
       (try clear hfz23_0); (try clear hfz23_1)
       (try clear hfz23_2); (try clear hfz23_3)
       (try clear hfz23_4); (try clear hfz27_0)
       (try clear hfz27_1); (try clear hfz27_2)
       (try clear hfz27_3); (try clear hfz27_4)
       (try clear hfz28_0); (try clear hfz28_1)
       (try clear hfz28_2); (try clear hfz28_3)
       (try clear hfz28_4); (try clear hfz33_0)
       (try clear hfz33_1); (try clear hfz33_2)
       (try clear hfz33_3); (try clear hfz33_4)
       (try clear hfz38_0); (try clear hfz38_1)
       (try clear hfz38_2); (try clear hfz38_3)
       (try clear hfz38_4); (try clear hfz43_0)
       (try clear hfz43_1); (try clear hfz43_2)
       (try clear hfz43_3); (try clear hfz43_4)
       (try clear hfz48_0); (try clear hfz48_1)
       (try clear hfz48_2); (try clear hfz48_3)
       (try clear hfz48_4); (try clear hfz51_0)
       (try clear hfz51_1); (try clear hfz51_2)
       (try clear hfz51_3); (try clear hfz51_4)
       (try clear hfz55_0); (try clear hfz55_1)
       (try clear hfz55_2); (try clear hfz55_3)
       (try clear hfz55_4); (try clear hfz58_0)
       (try clear hfz58_1); (try clear hfz58_2)
       (try clear hfz58_3); (try clear hfz58_4)
       (try clear p2); (try clear p6)
       obtain ⟨x10_3, x11_3, x219004_3, u219004, rfl, rfl, HA, HK3, HO_219004, BK213, BK214, BK218, BK219, HB⟩ := hrel
       cases gk with
       | zero => exact absurd HA.out (by simp [compositorlaw20_RiverMoves.l0])
       | succ k3 =>
        have H := HA.out
        clear HA
        simp only [compositorlaw20_RiverMoves.l0] at H
        by_cases c59 : x11_3 < (l0_4.length : Int)
        ·rw [if_pos c59] at H
         have c59b0 : decide (x11_3 < (l0_4.length : Int)) = true := decide_eq_true c59
         clear c59
         by_cases c60 : x10_3 = true
         ·subst c60
          have H1 : (if 0 ≤ x11_3 then (if x219004_3.length < 8796093022208 then (compositorlaw20_RiverMoves.l0 k3 a2 t215 true (wrap64 (x11_3 + 1)) a0_0 a0_1 a0_2 a0_3 l0_4 a1_0 a1_1 a1_2 a1_3 l1_4 0 0 (wrap64 (a0_2 + (wrap64 (a2)))) 0 (x219004_3 ++ [(⟨(rd_T33 l0_4 x11_3).f0, wrap64 (((rd_T33 l0_4 x11_3).f1) + (wrap64 (a2)))⟩ : S33)]) 0 0 (wrap64 (a1_2 + (wrap64 (a2)))) 0) else (none)) else (none)) = some r := by rw [if_pos rfl] at H; exact H
          clear H
          have H := H1
          clear H1
          by_cases c61 : 0 ≤ x11_3
          ·rw [if_pos c61] at H
           have c61b0 : decide (0 ≤ x11_3) = true := decide_eq_true c61
           clear c61
           by_cases c62 : x219004_3.length < 8796093022208
           ·rw [if_pos c62] at H
            have LMc62 := Aside0.mk c62
            clear c62
            obtain ⟨y222, hy222⟩ : ∃ y_ : List (S33), y_ = (x219004_3 ++ [(⟨(rd_T33 l0_4 x11_3).f0, wrap64 (((rd_T33 l0_4 x11_3).f1) + (wrap64 (a2)))⟩ : S33)]) := ⟨_, rfl⟩
            replace H : (compositorlaw20_RiverMoves.l0 k3 a2 t215 true (wrap64 (x11_3 + 1)) a0_0 a0_1 a0_2 a0_3 l0_4 a1_0 a1_1 a1_2 a1_3 l1_4 0 0 (wrap64 (a0_2 + (wrap64 (a2)))) 0 y222 0 0 (wrap64 (a1_2 + (wrap64 (a2)))) 0) = some r := by first | (rw [hy222]; with_reducible exact H) | (have H2_ := (Option.bind_some _ _).symm.trans H; rw [hy222]; with_reducible exact H2_) | (have H2_ := (Option.bind_some _ _).symm.trans H; with_reducible exact H2_) | with_reducible exact H | (rw [hy222]; exact H) | exact H
            have Ny222 := Aside0.mk hy222
            clear hy222
            have H' := Aside0.mk H
            clear H
            have hnb63 := NB213_214.out
            have hnc63 := NB214_213.out
            have hnb64 := NB213_218.out
            have hnc64 := NB218_213.out
            have hnb65 := NB213_219.out
            have hnc65 := NB219_213.out
            have hcz66_0 : wr.cell? ⟨gb213, 0, none⟩ = some (.int .i64 a0_0) := (blk_cell BK213.out 0).trans rfl
            have hcz66_1 : wr.cell? ⟨gb213, 1, none⟩ = some (.int .i64 a0_1) := (blk_cell BK213.out 1).trans rfl
            have hcz66_2 : wr.cell? ⟨gb213, 2, none⟩ = some (.int .i64 a0_2) := (blk_cell BK213.out 2).trans rfl
            have hcz66_3 : wr.cell? ⟨gb213, 3, none⟩ = some (.int .i64 a0_3) := (blk_cell BK213.out 3).trans rfl
            have hcz66_4 : wr.cell? ⟨gb213, 4, none⟩ = some (.slice A0_4 l0_4.length c0_4) := (blk_cell BK213.out 4).trans rfl
            have hfz66_0 := blk_frozen BK213.out 0
            have hfz66_1 := blk_frozen BK213.out 1
            have hfz66_2 := blk_frozen BK213.out 2
            have hfz66_3 := blk_frozen BK213.out 3
            have hfz66_4 := blk_frozen BK213.out 4
            try go_wp2
            have n0_ := Aside0.mk (Kd.R_drew HO_219004.out)
            have n1_ := Aside0.mk (blk_drew BK213.out)
            have n2_ := Aside0.mk (blk_drew BK214.out)
            have n3_ := Aside0.mk (blk_drew BK218.out)
            have n4_ := Aside0.mk (blk_drew BK219.out)
            have n5_ := Aside0.mk (below_drew1 HB.out)
            clear HO_219004
            clear BK213
            clear BK214
            clear BK218
            clear BK219
            clear HB
            have HO_219004 := n0_
            have BK213 := n1_
            have BK214 := n2_
            have BK218 := n3_
            have BK219 := n4_
            have HB := n5_
            clear n0_ n1_ n2_ n3_ n4_ n5_
            have p220 : 0 ≤ (x11_3 : Int) := odt
            have q220 : x11_3 < (l0_4.length : Int) := odt
            obtain ⟨ad220, e220, hx220_0, hx220_1⟩ := at_T33 HR0_4.out x11_3 p220 q220
            have hw220_1 := hx220_1
            have hw220_0 := hx220_0
            cases e220
            replace hx220_0 := (HB.out.cell (World.block_lt_of_cell? w _ hx220_0)).trans hx220_0
            replace hx220_1 := (HB.out.cell (World.block_lt_of_cell? w _ hx220_1)).trans hx220_1
            replace p220 := eq_true p220
            replace q220 := eq_true q220
            have p221 : 0 ≤ (x11_3 : Int) := odt
            have q221 : x11_3 < (l0_4.length : Int) := odt
            obtain ⟨ad221, e221, hx221_0, hx221_1⟩ := at_T33 HR0_4.out x11_3 p221 q221
            have hw221_1 := hx221_1
            have hw221_0 := hx221_0
            obtain rfl : ad220 = ad221 := (by injection e221)
            replace hx221_0 := (HB.out.cell (World.block_lt_of_cell? w _ hx221_0)).trans hx221_0
            replace hx221_1 := (HB.out.cell (World.block_lt_of_cell? w _ hx221_1)).trans hx221_1
            replace p221 := eq_true p221
            replace q221 := eq_true q221
            refine start_ (n := 22) (S := fun w' => w'.cell? ⟨gb218, 0, none⟩ = some (.int .i64 0) ∧ w'.cell? ⟨gb218, 1, none⟩ = some (.int .i64 0) ∧ w'.cell? ⟨gb218, 2, none⟩ = some (.int .i64 (wrap64 (a0_2 + (wrap64 (a2))))) ∧ w'.cell? ⟨gb218, 3, none⟩ = some (.int .i64 0) ∧ w'.cell? ⟨gb218, 4, none⟩ = some (u219004) ∧ w'.cell? ⟨gb213, 0, none⟩ = some (.int .i64 a0_0) ∧ w'.cell? ⟨gb213, 1, none⟩ = some (.int .i64 a0_1) ∧ w'.cell? ⟨gb213, 2, none⟩ = some (.int .i64 a0_2) ∧ w'.cell? ⟨gb213, 3, none⟩ = some (.int .i64 a0_3) ∧ w'.cell? ⟨gb213, 4, none⟩ = some (.slice (some ad220) l0_4.length c0_4) ∧ w'.cell? (ad220.add ((x11_3).toNat * 2)) = some (.int .i64 ((rd_T33 l0_4 x11_3).f0)) ∧ w'.cell? ⟨(ad220.add ((x11_3).toNat * 2)).block, (ad220.add ((x11_3).toNat * 2)).off + 1, none⟩ = some (.int .i64 ((rd_T33 l0_4 x11_3).f1)) ∧ w'.cell? (ad220.add ((x11_3).toNat * 2)) = some (.int .i64 ((rd_T33 l0_4 x11_3).f0)) ∧ w'.cell? ⟨(ad220.add ((x11_3).toNat * 2)).block, (ad220.add ((x11_3).toNat * 2)).off + 1, none⟩ = some (.int .i64 ((rd_T33 l0_4 x11_3).f1))) (ds := [21]) (bA 22 0) (by kernel_rfl) rfl rfl ⟨(blk_cell BK218.out 0).trans rfl, (blk_cell BK218.out 1).trans rfl, (blk_cell BK218.out 2).trans rfl, (blk_cell BK218.out 3).trans rfl, (blk_cell BK218.out 4).trans rfl, (blk_cell BK213.out 0).trans rfl, (blk_cell BK213.out 1).trans rfl, (blk_cell BK213.out 2).trans rfl, (blk_cell BK213.out 3).trans rfl, (blk_cell BK213.out 4).trans rfl, ((HB.out.cell (World.block_lt_of_cell? w _ hw220_0)).trans hw220_0), ((HB.out.cell (World.block_lt_of_cell? w _ hw220_1)).trans hw220_1), ((HB.out.cell (World.block_lt_of_cell? w _ hw221_0)).trans hw221_0), ((HB.out.cell (World.block_lt_of_cell? w _ hw221_1)).trans hw221_1)⟩ (fun hHeld => ?_); refine with_tabW compositorlaw20_RiverMoves.tab11 compositorlaw20_RiverMoves.bits11 (fun HT_ HW_ => ?_)
            generalize wr.drew = w67 at HO_219004 BK213 BK214 BK218 BK219 HB hx220_0 hx220_1 hx221_0 hx221_1 hHeld ⊢
            refine pure_ (i := 0) (N := some 82) (v := ?_) (a' := ?_) (bA 22 1) rfl rfl (any_of HT_.out (by kernel_rfl)) (fun _ _ _ h => h) (Or.inl ⟨by rfl, ?_⟩) ?_ ?_; rotate_left; intro w'; go_simp; with_reducible rfl; rotate_left; simp only [Act.put, List.setIfInBounds_toArray, List.set_cons_zero, List.set_cons_succ, i64_w, i32_w]; rfl
            refine pure_ (i := 2) (N := some 84) (v := ?_) (a' := ?_) (bA 22 5) rfl rfl (any_of HT_.out (by kernel_rfl)) (fun _ _ _ h => h) (Or.inl ⟨by rfl, ?_⟩) ?_ ?_; rotate_left; intro w'; go_simp; with_reducible rfl; rotate_left; simp only [Act.put, List.setIfInBounds_toArray, List.set_cons_zero, List.set_cons_succ, i64_w, i32_w]; rfl
            refine pure_ (i := 4) (N := some 86) (v := ?_) (a' := ?_) (bA 22 21) rfl rfl (any_of HT_.out (by kernel_rfl)) (fun _ _ _ h => h) (Or.inl ⟨by rfl, ?_⟩) ?_ ?_; rotate_left; intro w'; go_simp; with_reducible rfl; rotate_left; simp only [Act.put, List.setIfInBounds_toArray, List.set_cons_zero, List.set_cons_succ, i64_w, i32_w]; rfl
            refine pure_ (i := 8) (N := some 90) (v := ?_) (a' := ?_) (bA 22 277) rfl rfl (any_of HT_.out (by kernel_rfl)) (fun _ _ _ h => h) (Or.inl ⟨by rfl, ?_⟩) ?_ ?_; rotate_left; intro w'; go_simp; with_reducible rfl; rotate_left; simp only [Act.put, List.setIfInBounds_toArray, List.set_cons_zero, List.set_cons_succ, i64_w, i32_w]; rfl
            refine pure_ (i := 10) (N := some 92) (v := ?_) (a' := ?_) (bA 22 1301) rfl rfl (any_of HT_.out (by kernel_rfl)) (fun _ _ _ h => h) (Or.inl ⟨by rfl, ?_⟩) ?_ ?_; rotate_left; intro w'; go_simp; with_reducible rfl; rotate_left; simp only [Act.put, List.setIfInBounds_toArray, List.set_cons_zero, List.set_cons_succ, i64_w, i32_w]; rfl
            refine pure_ (i := 14) (N := some 96) (v := ?_) (a' := ?_) (bA 22 17685) rfl rfl (any_of HT_.out (by kernel_rfl)) (fun _ _ _ h => h) (Or.inl ⟨by rfl, ?_⟩) ?_ ?_; rotate_left; intro w'; go_simp; with_reducible rfl; rotate_left; simp only [Act.put, List.setIfInBounds_toArray, List.set_cons_zero, List.set_cons_succ, i64_w, i32_w]; rfl
            refine pure_ (i := 15) (N := some 97) (v := ?_) (a' := ?_) (bA 22 50453) rfl rfl (any_of HT_.out (by kernel_rfl)) (fun _ _ _ h => h) (Or.inl ⟨by rfl, ?_⟩) ?_ ?_; rotate_left; intro w'; go_simp; with_reducible rfl; rotate_left; simp only [Act.put, List.setIfInBounds_toArray, List.set_cons_zero, List.set_cons_succ, i64_w, i32_w]; rfl
            refine take_ (i := 1) (N := some 83) (v := ?_) (a' := ?_) (bA 22 50455) rfl rfl (take_ofW HT_.out HW_.out (by kernel_rfl)) (fun _ _ _ h => h) (Or.inl ⟨by rfl, ?_⟩) hHeld ?_ ?_; rotate_left; rintro w' ⟨s0, s1, s2, s3, s4, s5, s6, s7, s8, s9, s10, s11, s12, s13⟩; go_simp; with_reducible rfl; rotate_left; simp only [Act.put, List.setIfInBounds_toArray, List.set_cons_zero, List.set_cons_succ, i64_w, i32_w]; rfl
            refine take_ (i := 3) (N := some 85) (v := ?_) (a' := ?_) (bA 22 50463) rfl rfl (take_ofW HT_.out HW_.out (by kernel_rfl)) (fun _ _ _ h => h) (Or.inl ⟨by rfl, ?_⟩) hHeld ?_ ?_; rotate_left; rintro w' ⟨s0, s1, s2, s3, s4, s5, s6, s7, s8, s9, s10, s11, s12, s13⟩; go_simp; with_reducible rfl; rotate_left; simp only [Act.put, List.setIfInBounds_toArray, List.set_cons_zero, List.set_cons_succ, i64_w, i32_w]; rfl
            refine pure_ (i := 5) (N := some 87) (v := ?_) (a' := ?_) (bA 22 50495) rfl rfl (any_of HT_.out (by kernel_rfl)) (fun _ _ _ h => h) (Or.inl ⟨by rfl, ?_⟩) ?_ ?_; rotate_left; intro w'; go_simp; with_reducible rfl; rotate_left; simp only [Act.put, List.setIfInBounds_toArray, List.set_cons_zero, List.set_cons_succ, i64_w, i32_w]; rfl
            refine pure_ (i := 6) (N := some 88) (v := ?_) (a' := ?_) (bA 22 50559) rfl rfl (any_of HT_.out (by kernel_rfl)) (fun _ _ _ h => h) (Or.inl ⟨by rfl, ?_⟩) ?_ ?_; rotate_left; intro w'; go_simp; with_reducible rfl; rotate_left; simp only [Act.put, List.setIfInBounds_toArray, List.set_cons_zero, List.set_cons_succ, i64_w, i32_w]; rfl
            refine take_ (i := 7) (N := some 89) (v := ?_) (a' := ?_) (bA 22 50687) rfl rfl (take_ofW HT_.out HW_.out (by kernel_rfl)) (fun _ _ _ h => h) (Or.inl ⟨by rfl, ?_⟩) hHeld ?_ ?_; rotate_left; rintro w' ⟨s0, s1, s2, s3, s4, s5, s6, s7, s8, s9, s10, s11, s12, s13⟩; go_simp; with_reducible rfl; rotate_left; simp only [Act.put, List.setIfInBounds_toArray, List.set_cons_zero, List.set_cons_succ, i64_w, i32_w]; rfl
            refine take_ (i := 9) (N := some 91) (v := ?_) (a' := ?_) (bA 22 51199) rfl rfl (take_ofW HT_.out HW_.out (by kernel_rfl)) (fun _ _ _ h => h) (Or.inl ⟨by rfl, ?_⟩) hHeld ?_ ?_; rotate_left; rintro w' ⟨s0, s1, s2, s3, s4, s5, s6, s7, s8, s9, s10, s11, s12, s13⟩; go_simp; with_reducible rfl; rotate_left; simp only [Act.put, List.setIfInBounds_toArray, List.set_cons_zero, List.set_cons_succ, i64_w, i32_w]; rfl
            refine pure_ (i := 11) (N := some 93) (v := ?_) (a' := ?_) (bA 22 53247) rfl rfl (any_of HT_.out (by kernel_rfl)) (fun _ _ _ h => h) (Or.inl ⟨by rfl, ?_⟩) ?_ ?_; rotate_left; intro w'; go_simp; with_reducible rfl; rotate_left; simp only [Act.put, List.setIfInBounds_toArray, List.set_cons_zero, List.set_cons_succ, i64_w, i32_w]; rfl
            refine pure_ (i := 12) (N := some 94) (v := ?_) (a' := ?_) (bA 22 57343) rfl rfl (any_of HT_.out (by kernel_rfl)) (fun _ _ _ h => h) (Or.inl ⟨by rfl, ?_⟩) ?_ ?_; rotate_left; intro w'; go_simp; with_reducible rfl; rotate_left; simp only [Act.put, List.setIfInBounds_toArray, List.set_cons_zero, List.set_cons_succ, i64_w, i32_w]; rfl
            refine take_ (i := 13) (N := some 95) (v := ?_) (a' := ?_) (bA 22 65535) rfl rfl (take_ofW HT_.out HW_.out (by kernel_rfl)) (fun _ _ _ h => h) (Or.inl ⟨by rfl, ?_⟩) hHeld ?_ ?_; rotate_left; rintro w' ⟨s0, s1, s2, s3, s4, s5, s6, s7, s8, s9, s10, s11, s12, s13⟩; go_simp; with_reducible rfl; rotate_left; simp only [Act.put, List.setIfInBounds_toArray, List.set_cons_zero, List.set_cons_succ, i64_w, i32_w]; rfl
            refine pure_ (i := 16) (N := some 98) (v := ?_) (a' := ?_) (bA 22 131071) rfl rfl (any_of HT_.out (by kernel_rfl)) (fun _ _ _ h => h) (Or.inl ⟨by rfl, ?_⟩) ?_ ?_; rotate_left; intro w'; go_simp; with_reducible rfl; rotate_left; simp only [Act.put, List.setIfInBounds_toArray, List.set_cons_zero, List.set_cons_succ, i64_w, i32_w]; rfl
            refine pure_ (i := 17) (N := some 99) (v := ?_) (a' := ?_) (bA 22 262143) rfl rfl (any_of HT_.out (by kernel_rfl)) (fun _ _ _ h => h) (Or.inl ⟨by rfl, ?_⟩) ?_ ?_; rotate_left; intro w'; go_simp; with_reducible rfl; rotate_left; simp only [Act.put, List.setIfInBounds_toArray, List.set_cons_zero, List.set_cons_succ, i64_w, i32_w]; rfl
            refine one_ (i := 18) (N := some 100) (bA 22 524287) rfl rfl (one_of HT_.out (by kernel_rfl)) (by decide) (fun K hK => ?_)
            refine value_ (w1 := ?_) (v := ?_) (by rfl) rfl ?_ ?_
            rotate_left 2
            ·go_simp
             constructor
             ·rfl
             ·rfl
            refine hK.out _ _ ⟨(blk_cell (blk_alloc BK218.out _) 0).trans rfl, (blk_cell (blk_alloc BK218.out _) 1).trans rfl, (blk_cell (blk_alloc BK218.out _) 2).trans rfl, (blk_cell (blk_alloc BK218.out _) 3).trans rfl, (blk_cell (blk_alloc BK218.out _) 4).trans rfl, (blk_cell (blk_alloc BK213.out _) 0).trans rfl, (blk_cell (blk_alloc BK213.out _) 1).trans rfl, (blk_cell (blk_alloc BK213.out _) 2).trans rfl, (blk_cell (blk_alloc BK213.out _) 3).trans rfl, (blk_cell (blk_alloc BK213.out _) 4).trans rfl, (World.cell?_alloc_lt _ _ _ (World.block_lt_of_cell? _ _ (((HB.out.cell (World.block_lt_of_cell? w _ hw220_0)).trans hw220_0)))).trans (((HB.out.cell (World.block_lt_of_cell? w _ hw220_0)).trans hw220_0)), (World.cell?_alloc_lt _ _ _ (World.block_lt_of_cell? _ _ (((HB.out.cell (World.block_lt_of_cell? w _ hw220_1)).trans hw220_1)))).trans (((HB.out.cell (World.block_lt_of_cell? w _ hw220_1)).trans hw220_1)), (World.cell?_alloc_lt _ _ _ (World.block_lt_of_cell? _ _ (((HB.out.cell (World.block_lt_of_cell? w _ hw221_0)).trans hw221_0)))).trans (((HB.out.cell (World.block_lt_of_cell? w _ hw221_0)).trans hw221_0)), (World.cell?_alloc_lt _ _ _ (World.block_lt_of_cell? _ _ (((HB.out.cell (World.block_lt_of_cell? w _ hw221_1)).trans hw221_1)))).trans (((HB.out.cell (World.block_lt_of_cell? w _ hw221_1)).trans hw221_1))⟩ (fun hHeld => ?_)
            clear hK K
            refine norm_ (a' := ?_) ?_ ?_
            rotate_left
            ·show Act.put _ (some 100) _ = _
             simp only [Act.put, List.setIfInBounds_toArray, List.set_cons_zero, List.set_cons_succ, i64_w, i32_w]
             rfl
            refine one_ (i := 19) (N := some 101) (bA 22 1048575) rfl rfl (one_of HT_.out (by kernel_rfl)) (by decide) (fun K hK => ?_)
            refine Kd.R_append_step k33 (w0 := w) w.heap.size (by rfl) (.tmp 83) (.tmp 100) 22 33 (.agg #[(.int .i64 0), (.int .i64 0)]) 16 rfl Try.underlying22 info33 rfl (by decide) (by omega) u219004 x219004_3 (⟨(rd_T33 l0_4 x11_3).f0, wrap64 (((rd_T33 l0_4 x11_3).f1) + (wrap64 (a2)))⟩ : S33) [.int .i64 ((rd_T33 l0_4 x11_3).f0), .int .i64 (wrap64 (((rd_T33 l0_4 x11_3).f1) + (wrap64 (a2))))] (fun _ => True) (fun _ => False) rfl rfl ?aP (fun _ hk => hk.elim) ?aF ?aO ?aB ?aS ?aL ?_
            (case aP => exact k33_mkM _ _ _ (⟨(rd_T33 l0_4 x11_3).f0, wrap64 (((rd_T33 l0_4 x11_3).f1) + (wrap64 (a2)))⟩ : S33))
            (case aB => exact (by repeat (first | (with_reducible first | exact HB.out | apply below_alloc | apply pw_below_drewN | apply below_drew1 | refine below_set ?_ GE213.out | refine below_set ?_ GE214.out | refine below_set ?_ GE218.out | refine below_set ?_ GE219.out) | exact HB.out)))
            (case aF => exact (fun _ _ => trivial))
            (case aO => exact (by (with_reducible repeat (first | apply Kd.R_alloc | apply Kd.R_drewN | apply Kd.R_drew)); exact HO_219004.out))
            (case aS => exact (below_size (by repeat (first | (with_reducible first | exact HB.out | apply below_alloc | apply pw_below_drewN | apply below_drew1 | refine below_set ?_ GE213.out | refine below_set ?_ GE214.out | refine below_set ?_ GE218.out | refine below_set ?_ GE219.out) | exact HB.out))))
            (case aL => have := LMc62.out; omega)
            intro v223 w68 ho hb hg hat
            rw [← Ny222.out] at ho
            have n0_ := Aside0.mk (blk_grown (g := gb213) (o := .cells #[.int .i64 a0_0, .int .i64 a0_1, .int .i64 a0_2, .int .i64 a0_3, .slice (some ad220) l0_4.length c0_4] 24 (0, 0)) (by (with_reducible repeat (first | refine blk_drewN ?_ _ | refine blk_drew ?_ | refine blk_alloc ?_ _)); exact BK213.out) hg (Kd.R_ne HO_219004.out BK213.out (by decide)))
            have n1_ := Aside0.mk (blk_grown (g := gb214) (o := .cells #[.int .i64 a1_0, .int .i64 a1_1, .int .i64 a1_2, .int .i64 a1_3, .slice A1_4 l1_4.length c1_4] 24 (0, 0)) (by (with_reducible repeat (first | refine blk_drewN ?_ _ | refine blk_drew ?_ | refine blk_alloc ?_ _)); exact BK214.out) hg (Kd.R_ne HO_219004.out BK214.out (by decide)))
            have n2_ := Aside0.mk (blk_grown (g := gb218) (o := .cells #[.int .i64 0, .int .i64 0, .int .i64 (wrap64 (a0_2 + (wrap64 (a2)))), .int .i64 0, u219004] 24 (0, 0)) (by (with_reducible repeat (first | refine blk_drewN ?_ _ | refine blk_drew ?_ | refine blk_alloc ?_ _)); exact BK218.out) hg (Kd.R_ne HO_219004.out BK218.out (by decide)))
            have n3_ := Aside0.mk (blk_grown (g := gb219) (o := .cells #[.int .i64 0, .int .i64 0, .int .i64 (wrap64 (a1_2 + (wrap64 (a2)))), .int .i64 0, .slice none 0 0] 24 (0, 0)) (by (with_reducible repeat (first | refine blk_drewN ?_ _ | refine blk_drew ?_ | refine blk_alloc ?_ _)); exact BK219.out) hg (Kd.R_ne HO_219004.out BK219.out (by decide)))
            have n4_ := Aside0.mk (hb)
            have n5_ := Aside0.mk (ho)
            clear BK213
            clear BK214
            clear BK218
            clear BK219
            clear HB
            clear HO_219004
            have BK213 := n0_
            have BK214 := n1_
            have BK218 := n2_
            have BK219 := n3_
            have HB := n4_
            have HO224 := n5_
            clear n0_ n1_ n2_ n3_ n4_ n5_
            clear ho hb hg hat
            obtain ⟨Ao69, co69, eo69⟩ := Kd.R_slice HO224.out
            (first | subst eo69 | (injection eo69 with f1_ f2_ f3_; have f4_ := f1_.symm; have f5_ := f3_.symm; clear f1_ f2_ f3_; subst f4_; subst f5_))
            refine hK.out _ _ ⟨(blk_cell BK218.out 0).trans rfl, (blk_cell BK218.out 1).trans rfl, (blk_cell BK218.out 2).trans rfl, (blk_cell BK218.out 3).trans rfl, (blk_cell BK218.out 4).trans rfl, (blk_cell BK213.out 0).trans rfl, (blk_cell BK213.out 1).trans rfl, (blk_cell BK213.out 2).trans rfl, (blk_cell BK213.out 3).trans rfl, (blk_cell BK213.out 4).trans rfl, ((HB.out.cell (World.block_lt_of_cell? w _ hw220_0)).trans hw220_0), ((HB.out.cell (World.block_lt_of_cell? w _ hw220_1)).trans hw220_1), ((HB.out.cell (World.block_lt_of_cell? w _ hw221_0)).trans hw221_0), ((HB.out.cell (World.block_lt_of_cell? w _ hw221_1)).trans hw221_1)⟩ (fun hHeld => ?_)
            clear hK K
            refine norm_ (a' := ?_) ?_ ?_
            rotate_left
            ·show Act.put _ (some 101) _ = _
             simp only [Act.put, List.setIfInBounds_toArray, List.set_cons_zero, List.set_cons_succ, i64_w, i32_w]
             rfl
            refine pure_ (i := 20) (N := some 102) (v := ?_) (a' := ?_) (bA 22 2097151) rfl rfl (any_of HT_.out (by kernel_rfl)) (fun _ _ _ h => h) (Or.inl ⟨by rfl, ?_⟩) ?_ ?_; rotate_left; intro w'; go_simp; with_reducible rfl; rotate_left; simp only [Act.put, List.setIfInBounds_toArray, List.set_cons_zero, List.set_cons_succ, i64_w, i32_w]; rfl
            refine last_ (i := 21) (N := none) (bA 22 4194303) rfl rfl (one_of HT_.out (by kernel_rfl)) (by decide) (fun K hK => ?_)
            have hs70 : w68.cell? ⟨gb218, 4, none⟩ = some (u219004) := (blk_cell BK218.out 4).trans rfl
            have hfs70 := blk_frozen BK218.out 4
            have hns70_0 := NB213_218.out
            have hns70_1 := NB214_218.out
            have hns70_3 := NB219_218.out
            have hms70_0 := NB218_213.out
            have hms70_1 := NB218_214.out
            have hms70_3 := NB218_219.out
            refine skip_ (w1 := ?_) (by rfl) rfl ?_ ?_
            rotate_left
            ·go_simp
             rfl
            refine hK.out _ _ ?_
            clear hK K
            refine done_ (done_of HT_.out (by kernel_rfl)) ?_
            try go_wp2
            go_roundg k3
            case measure => have := HJ4.out; have := HJ20.out; have := HK3.out; omega
            case rel => exact ⟨(true), (wrap64 (x11_3 + 1)), (y222), (.slice Ao69 y222.length co69), (by first | rfl | (simp; done) | (simp [*]; done)), (by first | rfl | (simp; done) | (simp [*]; done)), H', ⟨by have := HJ4.out; have := HJ20.out; have := HK3.out; omega⟩, ⟨by (with_reducible repeat (first | apply Kd.R_alloc | apply Kd.R_drewN | apply Kd.R_drew)); exact Kd.R_mono (Kd.R_far (p := ⟨gb218, 4, none⟩) (Kd.R_types HO224.out BK218.out (by decide)) (fun _ hk => hk.2) (.slice Ao69 y222.length co69)) (fun _ hk => trivial)⟩, ⟨by (with_reducible repeat (first | refine blk_drewN ?_ _ | refine blk_drew ?_ | refine blk_alloc ?_ _)); refine blk_far ?_ NB213_218.out _; (with_reducible repeat (first | refine blk_drewN ?_ _ | refine blk_drew ?_ | refine blk_alloc ?_ _)); exact BK213.out⟩, ⟨by (with_reducible repeat (first | refine blk_drewN ?_ _ | refine blk_drew ?_ | refine blk_alloc ?_ _)); refine blk_far ?_ NB214_218.out _; (with_reducible repeat (first | refine blk_drewN ?_ _ | refine blk_drew ?_ | refine blk_alloc ?_ _)); exact BK214.out⟩, ⟨by (with_reducible repeat (first | refine blk_drewN ?_ _ | refine blk_drew ?_ | refine blk_alloc ?_ _)); refine blk_put (cs := #[.int .i64 0, .int .i64 0, .int .i64 (wrap64 (a0_2 + (wrap64 (a2)))), .int .i64 0, u219004]) ?_ 4 _ rfl; (with_reducible repeat (first | refine blk_drewN ?_ _ | refine blk_drew ?_ | refine blk_alloc ?_ _)); exact BK218.out⟩, ⟨by (with_reducible repeat (first | refine blk_drewN ?_ _ | refine blk_drew ?_ | refine blk_alloc ?_ _)); refine blk_far ?_ NB219_218.out _; (with_reducible repeat (first | refine blk_drewN ?_ _ | refine blk_drew ?_ | refine blk_alloc ?_ _)); exact BK219.out⟩, ⟨by repeat (first | (with_reducible first | exact HB.out | apply below_alloc | apply pw_below_drewN | apply below_drew1 | refine below_set ?_ GE213.out | refine below_set ?_ GE214.out | refine below_set ?_ GE218.out | refine below_set ?_ GE219.out) | exact HB.out)⟩⟩
           ·rw [if_neg c62] at H
            exact absurd H (by simp)
          ·rw [if_neg c61] at H
           exact absurd H (by simp)
         ·replace c60 := Bool.eq_false_iff.mpr c60
          subst c60
          have H1 : (if 0 ≤ x11_3 then (if ((rd_T33 l0_4 x11_3).f1) > 1099511627776 then (if x219004_3.length < 8796093022208 then (compositorlaw20_RiverMoves.l0 k3 a2 t215 true (wrap64 (x11_3 + 1)) a0_0 a0_1 a0_2 a0_3 l0_4 a1_0 a1_1 a1_2 a1_3 l1_4 0 0 (wrap64 (a0_2 + (wrap64 (a2)))) 0 (x219004_3 ++ [(⟨(rd_T33 l0_4 x11_3).f0, wrap64 (((rd_T33 l0_4 x11_3).f1) + (wrap64 (a2)))⟩ : S33)]) 0 0 (wrap64 (a1_2 + (wrap64 (a2)))) 0) else (none)) else (if x219004_3.length < 8796093022208 then (compositorlaw20_RiverMoves.l0 k3 a2 t215 (decide (((rd_T33 l0_4 x11_3).f1) < (-1099511627776))) (wrap64 (x11_3 + 1)) a0_0 a0_1 a0_2 a0_3 l0_4 a1_0 a1_1 a1_2 a1_3 l1_4 0 0 (wrap64 (a0_2 + (wrap64 (a2)))) 0 (x219004_3 ++ [(⟨(rd_T33 l0_4 x11_3).f0, wrap64 (((rd_T33 l0_4 x11_3).f1) + (wrap64 (a2)))⟩ : S33)]) 0 0 (wrap64 (a1_2 + (wrap64 (a2)))) 0) else (none))) else (none)) = some r := by rw [if_neg (show ¬ (false = true) by decide)] at H; exact H
          clear H
          have H := H1
          clear H1
          by_cases c71 : 0 ≤ x11_3
          ·rw [if_pos c71] at H
           have c71b0 : decide (0 ≤ x11_3) = true := decide_eq_true c71
           clear c71
           by_cases c72 : ((rd_T33 l0_4 x11_3).f1) > 1099511627776
           ·rw [if_pos c72] at H
            have c72b0 : decide (1099511627776 < ((rd_T33 l0_4 x11_3).f1)) = true := decide_eq_true c72
            clear c72
            by_cases c73 : x219004_3.length < 8796093022208
            ·rw [if_pos c73] at H
             have LMc73 := Aside0.mk c73
             clear c73
             obtain ⟨y228, hy228⟩ : ∃ y_ : List (S33), y_ = (x219004_3 ++ [(⟨(rd_T33 l0_4 x11_3).f0, wrap64 (((rd_T33 l0_4 x11_3).f1) + (wrap64 (a2)))⟩ : S33)]) := ⟨_, rfl⟩
             replace H : (compositorlaw20_RiverMoves.l0 k3 a2 t215 true (wrap64 (x11_3 + 1)) a0_0 a0_1 a0_2 a0_3 l0_4 a1_0 a1_1 a1_2 a1_3 l1_4 0 0 (wrap64 (a0_2 + (wrap64 (a2)))) 0 y228 0 0 (wrap64 (a1_2 + (wrap64 (a2)))) 0) = some r := by first | (rw [hy228]; with_reducible exact H) | (have H2_ := (Option.bind_some _ _).symm.trans H; rw [hy228]; with_reducible exact H2_) | (have H2_ := (Option.bind_some _ _).symm.trans H; with_reducible exact H2_) | with_reducible exact H | (rw [hy228]; exact H) | exact H
             have Ny228 := Aside0.mk hy228
             clear hy228
             have H' := Aside0.mk H
             clear H
             have hnb74 := NB213_214.out
             have hnc74 := NB214_213.out
             have hnb75 := NB213_218.out
             have hnc75 := NB218_213.out
             have hnb76 := NB213_219.out
             have hnc76 := NB219_213.out
             have hcz77_0 : wr.cell? ⟨gb213, 0, none⟩ = some (.int .i64 a0_0) := (blk_cell BK213.out 0).trans rfl
             have hcz77_1 : wr.cell? ⟨gb213, 1, none⟩ = some (.int .i64 a0_1) := (blk_cell BK213.out 1).trans rfl
             have hcz77_2 : wr.cell? ⟨gb213, 2, none⟩ = some (.int .i64 a0_2) := (blk_cell BK213.out 2).trans rfl
             have hcz77_3 : wr.cell? ⟨gb213, 3, none⟩ = some (.int .i64 a0_3) := (blk_cell BK213.out 3).trans rfl
             have hcz77_4 : wr.cell? ⟨gb213, 4, none⟩ = some (.slice A0_4 l0_4.length c0_4) := (blk_cell BK213.out 4).trans rfl
             have hfz77_0 := blk_frozen BK213.out 0
             have hfz77_1 := blk_frozen BK213.out 1
             have hfz77_2 := blk_frozen BK213.out 2
             have hfz77_3 := blk_frozen BK213.out 3
             have hfz77_4 := blk_frozen BK213.out 4
             have p225 : 0 ≤ (x11_3 : Int) := odt
             have q225 : x11_3 < (l0_4.length : Int) := odt
             obtain ⟨ad225, e225, hx225_0, hx225_1⟩ := at_T33 HR0_4.out x11_3 p225 q225
             cases e225
             replace hx225_0 := (HB.out.cell (World.block_lt_of_cell? w _ hx225_0)).trans hx225_0
             replace hx225_1 := (HB.out.cell (World.block_lt_of_cell? w _ hx225_1)).trans hx225_1
             replace p225 := eq_true p225
             replace q225 := eq_true q225
             try go_wp2
             have n0_ := Aside0.mk (Kd.R_drew HO_219004.out)
             have n1_ := Aside0.mk (blk_drew BK213.out)
             have n2_ := Aside0.mk (blk_drew BK214.out)
             have n3_ := Aside0.mk (blk_drew BK218.out)
             have n4_ := Aside0.mk (blk_drew BK219.out)
             have n5_ := Aside0.mk (below_drew1 HB.out)
             clear HO_219004
             clear BK213
             clear BK214
             clear BK218
             clear BK219
             clear HB
             have HO_219004 := n0_
             have BK213 := n1_
             have BK214 := n2_
             have BK218 := n3_
             have BK219 := n4_
             have HB := n5_
             clear n0_ n1_ n2_ n3_ n4_ n5_
             have p226 : 0 ≤ (x11_3 : Int) := odt
             have q226 : x11_3 < (l0_4.length : Int) := odt
             obtain ⟨ad226, e226, hx226_0, hx226_1⟩ := at_T33 HR0_4.out x11_3 p226 q226
             have hw226_1 := hx226_1
             have hw226_0 := hx226_0
             obtain rfl : ad225 = ad226 := (by injection e226)
             replace hx226_0 := (HB.out.cell (World.block_lt_of_cell? w _ hx226_0)).trans hx226_0
             replace hx226_1 := (HB.out.cell (World.block_lt_of_cell? w _ hx226_1)).trans hx226_1
             replace p226 := eq_true p226
             replace q226 := eq_true q226
             have p227 : 0 ≤ (x11_3 : Int) := odt
             have q227 : x11_3 < (l0_4.length : Int) := odt
             obtain ⟨ad227, e227, hx227_0, hx227_1⟩ := at_T33 HR0_4.out x11_3 p227 q227
             have hw227_1 := hx227_1
             have hw227_0 := hx227_0
             obtain rfl : ad225 = ad227 := (by injection e227)
             replace hx227_0 := (HB.out.cell (World.block_lt_of_cell? w _ hx227_0)).trans hx227_0
             replace hx227_1 := (HB.out.cell (World.block_lt_of_cell? w _ hx227_1)).trans hx227_1
             replace p227 := eq_true p227
             replace q227 := eq_true q227
             refine start_ (n := 22) (S := fun w' => w'.cell? ⟨gb218, 0, none⟩ = some (.int .i64 0) ∧ w'.cell? ⟨gb218, 1, none⟩ = some (.int .i64 0) ∧ w'.cell? ⟨gb218, 2, none⟩ = some (.int .i64 (wrap64 (a0_2 + (wrap64 (a2))))) ∧ w'.cell? ⟨gb218, 3, none⟩ = some (.int .i64 0) ∧ w'.cell? ⟨gb218, 4, none⟩ = some (u219004) ∧ w'.cell? ⟨gb213, 0, none⟩ = some (.int .i64 a0_0) ∧ w'.cell? ⟨gb213, 1, none⟩ = some (.int .i64 a0_1) ∧ w'.cell? ⟨gb213, 2, none⟩ = some (.int .i64 a0_2) ∧ w'.cell? ⟨gb213, 3, none⟩ = some (.int .i64 a0_3) ∧ w'.cell? ⟨gb213, 4, none⟩ = some (.slice (some ad225) l0_4.length c0_4) ∧ w'.cell? (ad225.add ((x11_3).toNat * 2)) = some (.int .i64 ((rd_T33 l0_4 x11_3).f0)) ∧ w'.cell? ⟨(ad225.add ((x11_3).toNat * 2)).block, (ad225.add ((x11_3).toNat * 2)).off + 1, none⟩ = some (.int .i64 ((rd_T33 l0_4 x11_3).f1)) ∧ w'.cell? (ad225.add ((x11_3).toNat * 2)) = some (.int .i64 ((rd_T33 l0_4 x11_3).f0)) ∧ w'.cell? ⟨(ad225.add ((x11_3).toNat * 2)).block, (ad225.add ((x11_3).toNat * 2)).off + 1, none⟩ = some (.int .i64 ((rd_T33 l0_4 x11_3).f1))) (ds := [21]) (bA 22 0) (by kernel_rfl) rfl rfl ⟨(blk_cell BK218.out 0).trans rfl, (blk_cell BK218.out 1).trans rfl, (blk_cell BK218.out 2).trans rfl, (blk_cell BK218.out 3).trans rfl, (blk_cell BK218.out 4).trans rfl, (blk_cell BK213.out 0).trans rfl, (blk_cell BK213.out 1).trans rfl, (blk_cell BK213.out 2).trans rfl, (blk_cell BK213.out 3).trans rfl, (blk_cell BK213.out 4).trans rfl, ((HB.out.cell (World.block_lt_of_cell? w _ hw226_0)).trans hw226_0), ((HB.out.cell (World.block_lt_of_cell? w _ hw226_1)).trans hw226_1), ((HB.out.cell (World.block_lt_of_cell? w _ hw227_0)).trans hw227_0), ((HB.out.cell (World.block_lt_of_cell? w _ hw227_1)).trans hw227_1)⟩ (fun hHeld => ?_); refine with_tabW compositorlaw20_RiverMoves.tab11 compositorlaw20_RiverMoves.bits11 (fun HT_ HW_ => ?_)
             generalize wr.drew = w78 at HO_219004 BK213 BK214 BK218 BK219 HB hx226_0 hx226_1 hx227_0 hx227_1 hHeld ⊢
             refine pure_ (i := 0) (N := some 82) (v := ?_) (a' := ?_) (bA 22 1) rfl rfl (any_of HT_.out (by kernel_rfl)) (fun _ _ _ h => h) (Or.inl ⟨by rfl, ?_⟩) ?_ ?_; rotate_left; intro w'; go_simp; with_reducible rfl; rotate_left; simp only [Act.put, List.setIfInBounds_toArray, List.set_cons_zero, List.set_cons_succ, i64_w, i32_w]; rfl
             refine pure_ (i := 2) (N := some 84) (v := ?_) (a' := ?_) (bA 22 5) rfl rfl (any_of HT_.out (by kernel_rfl)) (fun _ _ _ h => h) (Or.inl ⟨by rfl, ?_⟩) ?_ ?_; rotate_left; intro w'; go_simp; with_reducible rfl; rotate_left; simp only [Act.put, List.setIfInBounds_toArray, List.set_cons_zero, List.set_cons_succ, i64_w, i32_w]; rfl
             refine pure_ (i := 4) (N := some 86) (v := ?_) (a' := ?_) (bA 22 21) rfl rfl (any_of HT_.out (by kernel_rfl)) (fun _ _ _ h => h) (Or.inl ⟨by rfl, ?_⟩) ?_ ?_; rotate_left; intro w'; go_simp; with_reducible rfl; rotate_left; simp only [Act.put, List.setIfInBounds_toArray, List.set_cons_zero, List.set_cons_succ, i64_w, i32_w]; rfl
             refine pure_ (i := 8) (N := some 90) (v := ?_) (a' := ?_) (bA 22 277) rfl rfl (any_of HT_.out (by kernel_rfl)) (fun _ _ _ h => h) (Or.inl ⟨by rfl, ?_⟩) ?_ ?_; rotate_left; intro w'; go_simp; with_reducible rfl; rotate_left; simp only [Act.put, List.setIfInBounds_toArray, List.set_cons_zero, List.set_cons_succ, i64_w, i32_w]; rfl
             refine pure_ (i := 10) (N := some 92) (v := ?_) (a' := ?_) (bA 22 1301) rfl rfl (any_of HT_.out (by kernel_rfl)) (fun _ _ _ h => h) (Or.inl ⟨by rfl, ?_⟩) ?_ ?_; rotate_left; intro w'; go_simp; with_reducible rfl; rotate_left; simp only [Act.put, List.setIfInBounds_toArray, List.set_cons_zero, List.set_cons_succ, i64_w, i32_w]; rfl
             refine pure_ (i := 14) (N := some 96) (v := ?_) (a' := ?_) (bA 22 17685) rfl rfl (any_of HT_.out (by kernel_rfl)) (fun _ _ _ h => h) (Or.inl ⟨by rfl, ?_⟩) ?_ ?_; rotate_left; intro w'; go_simp; with_reducible rfl; rotate_left; simp only [Act.put, List.setIfInBounds_toArray, List.set_cons_zero, List.set_cons_succ, i64_w, i32_w]; rfl
             refine pure_ (i := 15) (N := some 97) (v := ?_) (a' := ?_) (bA 22 50453) rfl rfl (any_of HT_.out (by kernel_rfl)) (fun _ _ _ h => h) (Or.inl ⟨by rfl, ?_⟩) ?_ ?_; rotate_left; intro w'; go_simp; with_reducible rfl; rotate_left; simp only [Act.put, List.setIfInBounds_toArray, List.set_cons_zero, List.set_cons_succ, i64_w, i32_w]; rfl
             refine take_ (i := 1) (N := some 83) (v := ?_) (a' := ?_) (bA 22 50455) rfl rfl (take_ofW HT_.out HW_.out (by kernel_rfl)) (fun _ _ _ h => h) (Or.inl ⟨by rfl, ?_⟩) hHeld ?_ ?_; rotate_left; rintro w' ⟨s0, s1, s2, s3, s4, s5, s6, s7, s8, s9, s10, s11, s12, s13⟩; go_simp; with_reducible rfl; rotate_left; simp only [Act.put, List.setIfInBounds_toArray, List.set_cons_zero, List.set_cons_succ, i64_w, i32_w]; rfl
             refine take_ (i := 3) (N := some 85) (v := ?_) (a' := ?_) (bA 22 50463) rfl rfl (take_ofW HT_.out HW_.out (by kernel_rfl)) (fun _ _ _ h => h) (Or.inl ⟨by rfl, ?_⟩) hHeld ?_ ?_; rotate_left; rintro w' ⟨s0, s1, s2, s3, s4, s5, s6, s7, s8, s9, s10, s11, s12, s13⟩; go_simp; with_reducible rfl; rotate_left; simp only [Act.put, List.setIfInBounds_toArray, List.set_cons_zero, List.set_cons_succ, i64_w, i32_w]; rfl
             refine pure_ (i := 5) (N := some 87) (v := ?_) (a' := ?_) (bA 22 50495) rfl rfl (any_of HT_.out (by kernel_rfl)) (fun _ _ _ h => h) (Or.inl ⟨by rfl, ?_⟩) ?_ ?_; rotate_left; intro w'; go_simp; with_reducible rfl; rotate_left; simp only [Act.put, List.setIfInBounds_toArray, List.set_cons_zero, List.set_cons_succ, i64_w, i32_w]; rfl
             refine pure_ (i := 6) (N := some 88) (v := ?_) (a' := ?_) (bA 22 50559) rfl rfl (any_of HT_.out (by kernel_rfl)) (fun _ _ _ h => h) (Or.inl ⟨by rfl, ?_⟩) ?_ ?_; rotate_left; intro w'; go_simp; with_reducible rfl; rotate_left; simp only [Act.put, List.setIfInBounds_toArray, List.set_cons_zero, List.set_cons_succ, i64_w, i32_w]; rfl
             refine take_ (i := 7) (N := some 89) (v := ?_) (a' := ?_) (bA 22 50687) rfl rfl (take_ofW HT_.out HW_.out (by kernel_rfl)) (fun _ _ _ h => h) (Or.inl ⟨by rfl, ?_⟩) hHeld ?_ ?_; rotate_left; rintro w' ⟨s0, s1, s2, s3, s4, s5, s6, s7, s8, s9, s10, s11, s12, s13⟩; go_simp; with_reducible rfl; rotate_left; simp only [Act.put, List.setIfInBounds_toArray, List.set_cons_zero, List.set_cons_succ, i64_w, i32_w]; rfl
             refine take_ (i := 9) (N := some 91) (v := ?_) (a' := ?_) (bA 22 51199) rfl rfl (take_ofW HT_.out HW_.out (by kernel_rfl)) (fun _ _ _ h => h) (Or.inl ⟨by rfl, ?_⟩) hHeld ?_ ?_; rotate_left; rintro w' ⟨s0, s1, s2, s3, s4, s5, s6, s7, s8, s9, s10, s11, s12, s13⟩; go_simp; with_reducible rfl; rotate_left; simp only [Act.put, List.setIfInBounds_toArray, List.set_cons_zero, List.set_cons_succ, i64_w, i32_w]; rfl
             refine pure_ (i := 11) (N := some 93) (v := ?_) (a' := ?_) (bA 22 53247) rfl rfl (any_of HT_.out (by kernel_rfl)) (fun _ _ _ h => h) (Or.inl ⟨by rfl, ?_⟩) ?_ ?_; rotate_left; intro w'; go_simp; with_reducible rfl; rotate_left; simp only [Act.put, List.setIfInBounds_toArray, List.set_cons_zero, List.set_cons_succ, i64_w, i32_w]; rfl
             refine pure_ (i := 12) (N := some 94) (v := ?_) (a' := ?_) (bA 22 57343) rfl rfl (any_of HT_.out (by kernel_rfl)) (fun _ _ _ h => h) (Or.inl ⟨by rfl, ?_⟩) ?_ ?_; rotate_left; intro w'; go_simp; with_reducible rfl; rotate_left; simp only [Act.put, List.setIfInBounds_toArray, List.set_cons_zero, List.set_cons_succ, i64_w, i32_w]; rfl
             refine take_ (i := 13) (N := some 95) (v := ?_) (a' := ?_) (bA 22 65535) rfl rfl (take_ofW HT_.out HW_.out (by kernel_rfl)) (fun _ _ _ h => h) (Or.inl ⟨by rfl, ?_⟩) hHeld ?_ ?_; rotate_left; rintro w' ⟨s0, s1, s2, s3, s4, s5, s6, s7, s8, s9, s10, s11, s12, s13⟩; go_simp; with_reducible rfl; rotate_left; simp only [Act.put, List.setIfInBounds_toArray, List.set_cons_zero, List.set_cons_succ, i64_w, i32_w]; rfl
             refine pure_ (i := 16) (N := some 98) (v := ?_) (a' := ?_) (bA 22 131071) rfl rfl (any_of HT_.out (by kernel_rfl)) (fun _ _ _ h => h) (Or.inl ⟨by rfl, ?_⟩) ?_ ?_; rotate_left; intro w'; go_simp; with_reducible rfl; rotate_left; simp only [Act.put, List.setIfInBounds_toArray, List.set_cons_zero, List.set_cons_succ, i64_w, i32_w]; rfl
             refine pure_ (i := 17) (N := some 99) (v := ?_) (a' := ?_) (bA 22 262143) rfl rfl (any_of HT_.out (by kernel_rfl)) (fun _ _ _ h => h) (Or.inl ⟨by rfl, ?_⟩) ?_ ?_; rotate_left; intro w'; go_simp; with_reducible rfl; rotate_left; simp only [Act.put, List.setIfInBounds_toArray, List.set_cons_zero, List.set_cons_succ, i64_w, i32_w]; rfl
             refine one_ (i := 18) (N := some 100) (bA 22 524287) rfl rfl (one_of HT_.out (by kernel_rfl)) (by decide) (fun K hK => ?_)
             refine value_ (w1 := ?_) (v := ?_) (by rfl) rfl ?_ ?_
             rotate_left 2
             ·go_simp
              constructor
              ·rfl
              ·rfl
             refine hK.out _ _ ⟨(blk_cell (blk_alloc BK218.out _) 0).trans rfl, (blk_cell (blk_alloc BK218.out _) 1).trans rfl, (blk_cell (blk_alloc BK218.out _) 2).trans rfl, (blk_cell (blk_alloc BK218.out _) 3).trans rfl, (blk_cell (blk_alloc BK218.out _) 4).trans rfl, (blk_cell (blk_alloc BK213.out _) 0).trans rfl, (blk_cell (blk_alloc BK213.out _) 1).trans rfl, (blk_cell (blk_alloc BK213.out _) 2).trans rfl, (blk_cell (blk_alloc BK213.out _) 3).trans rfl, (blk_cell (blk_alloc BK213.out _) 4).trans rfl, (World.cell?_alloc_lt _ _ _ (World.block_lt_of_cell? _ _ (((HB.out.cell (World.block_lt_of_cell? w _ hw226_0)).trans hw226_0)))).trans (((HB.out.cell (World.block_lt_of_cell? w _ hw226_0)).trans hw226_0)), (World.cell?_alloc_lt _ _ _ (World.block_lt_of_cell? _ _ (((HB.out.cell (World.block_lt_of_cell? w _ hw226_1)).trans hw226_1)))).trans (((HB.out.cell (World.block_lt_of_cell? w _ hw226_1)).trans hw226_1)), (World.cell?_alloc_lt _ _ _ (World.block_lt_of_cell? _ _ (((HB.out.cell (World.block_lt_of_cell? w _ hw227_0)).trans hw227_0)))).trans (((HB.out.cell (World.block_lt_of_cell? w _ hw227_0)).trans hw227_0)), (World.cell?_alloc_lt _ _ _ (World.block_lt_of_cell? _ _ (((HB.out.cell (World.block_lt_of_cell? w _ hw227_1)).trans hw227_1)))).trans (((HB.out.cell (World.block_lt_of_cell? w _ hw227_1)).trans hw227_1))⟩ (fun hHeld => ?_)
             clear hK K
             refine norm_ (a' := ?_) ?_ ?_
             rotate_left
             ·show Act.put _ (some 100) _ = _
              simp only [Act.put, List.setIfInBounds_toArray, List.set_cons_zero, List.set_cons_succ, i64_w, i32_w]
              rfl
             refine one_ (i := 19) (N := some 101) (bA 22 1048575) rfl rfl (one_of HT_.out (by kernel_rfl)) (by decide) (fun K hK => ?_)
             refine Kd.R_append_step k33 (w0 := w) w.heap.size (by rfl) (.tmp 83) (.tmp 100) 22 33 (.agg #[(.int .i64 0), (.int .i64 0)]) 16 rfl Try.underlying22 info33 rfl (by decide) (by omega) u219004 x219004_3 (⟨(rd_T33 l0_4 x11_3).f0, wrap64 (((rd_T33 l0_4 x11_3).f1) + (wrap64 (a2)))⟩ : S33) [.int .i64 ((rd_T33 l0_4 x11_3).f0), .int .i64 (wrap64 (((rd_T33 l0_4 x11_3).f1) + (wrap64 (a2))))] (fun _ => True) (fun _ => False) rfl rfl ?aP (fun _ hk => hk.elim) ?aF ?aO ?aB ?aS ?aL ?_
             (case aP => exact k33_mkM _ _ _ (⟨(rd_T33 l0_4 x11_3).f0, wrap64 (((rd_T33 l0_4 x11_3).f1) + (wrap64 (a2)))⟩ : S33))
             (case aB => exact (by repeat (first | (with_reducible first | exact HB.out | apply below_alloc | apply pw_below_drewN | apply below_drew1 | refine below_set ?_ GE213.out | refine below_set ?_ GE214.out | refine below_set ?_ GE218.out | refine below_set ?_ GE219.out) | exact HB.out)))
             (case aF => exact (fun _ _ => trivial))
             (case aO => exact (by (with_reducible repeat (first | apply Kd.R_alloc | apply Kd.R_drewN | apply Kd.R_drew)); exact HO_219004.out))
             (case aS => exact (below_size (by repeat (first | (with_reducible first | exact HB.out | apply below_alloc | apply pw_below_drewN | apply below_drew1 | refine below_set ?_ GE213.out | refine below_set ?_ GE214.out | refine below_set ?_ GE218.out | refine below_set ?_ GE219.out) | exact HB.out))))
             (case aL => have := LMc73.out; omega)
             intro v229 w79 ho hb hg hat
             rw [← Ny228.out] at ho
             have n0_ := Aside0.mk (blk_grown (g := gb213) (o := .cells #[.int .i64 a0_0, .int .i64 a0_1, .int .i64 a0_2, .int .i64 a0_3, .slice (some ad225) l0_4.length c0_4] 24 (0, 0)) (by (with_reducible repeat (first | refine blk_drewN ?_ _ | refine blk_drew ?_ | refine blk_alloc ?_ _)); exact BK213.out) hg (Kd.R_ne HO_219004.out BK213.out (by decide)))
             have n1_ := Aside0.mk (blk_grown (g := gb214) (o := .cells #[.int .i64 a1_0, .int .i64 a1_1, .int .i64 a1_2, .int .i64 a1_3, .slice A1_4 l1_4.length c1_4] 24 (0, 0)) (by (with_reducible repeat (first | refine blk_drewN ?_ _ | refine blk_drew ?_ | refine blk_alloc ?_ _)); exact BK214.out) hg (Kd.R_ne HO_219004.out BK214.out (by decide)))
             have n2_ := Aside0.mk (blk_grown (g := gb218) (o := .cells #[.int .i64 0, .int .i64 0, .int .i64 (wrap64 (a0_2 + (wrap64 (a2)))), .int .i64 0, u219004] 24 (0, 0)) (by (with_reducible repeat (first | refine blk_drewN ?_ _ | refine blk_drew ?_ | refine blk_alloc ?_ _)); exact BK218.out) hg (Kd.R_ne HO_219004.out BK218.out (by decide)))
             have n3_ := Aside0.mk (blk_grown (g := gb219) (o := .cells #[.int .i64 0, .int .i64 0, .int .i64 (wrap64 (a1_2 + (wrap64 (a2)))), .int .i64 0, .slice none 0 0] 24 (0, 0)) (by (with_reducible repeat (first | refine blk_drewN ?_ _ | refine blk_drew ?_ | refine blk_alloc ?_ _)); exact BK219.out) hg (Kd.R_ne HO_219004.out BK219.out (by decide)))
             have n4_ := Aside0.mk (hb)
             have n5_ := Aside0.mk (ho)
             clear BK213
             clear BK214
             clear BK218
             clear BK219
             clear HB
             clear HO_219004
             have BK213 := n0_
             have BK214 := n1_
             have BK218 := n2_
             have BK219 := n3_
             have HB := n4_
             have HO230 := n5_
             clear n0_ n1_ n2_ n3_ n4_ n5_
             clear ho hb hg hat
             obtain ⟨Ao80, co80, eo80⟩ := Kd.R_slice HO230.out
             (first | subst eo80 | (injection eo80 with f1_ f2_ f3_; have f4_ := f1_.symm; have f5_ := f3_.symm; clear f1_ f2_ f3_; subst f4_; subst f5_))
             refine hK.out _ _ ⟨(blk_cell BK218.out 0).trans rfl, (blk_cell BK218.out 1).trans rfl, (blk_cell BK218.out 2).trans rfl, (blk_cell BK218.out 3).trans rfl, (blk_cell BK218.out 4).trans rfl, (blk_cell BK213.out 0).trans rfl, (blk_cell BK213.out 1).trans rfl, (blk_cell BK213.out 2).trans rfl, (blk_cell BK213.out 3).trans rfl, (blk_cell BK213.out 4).trans rfl, ((HB.out.cell (World.block_lt_of_cell? w _ hw226_0)).trans hw226_0), ((HB.out.cell (World.block_lt_of_cell? w _ hw226_1)).trans hw226_1), ((HB.out.cell (World.block_lt_of_cell? w _ hw227_0)).trans hw227_0), ((HB.out.cell (World.block_lt_of_cell? w _ hw227_1)).trans hw227_1)⟩ (fun hHeld => ?_)
             clear hK K
             refine norm_ (a' := ?_) ?_ ?_
             rotate_left
             ·show Act.put _ (some 101) _ = _
              simp only [Act.put, List.setIfInBounds_toArray, List.set_cons_zero, List.set_cons_succ, i64_w, i32_w]
              rfl
             refine pure_ (i := 20) (N := some 102) (v := ?_) (a' := ?_) (bA 22 2097151) rfl rfl (any_of HT_.out (by kernel_rfl)) (fun _ _ _ h => h) (Or.inl ⟨by rfl, ?_⟩) ?_ ?_; rotate_left; intro w'; go_simp; with_reducible rfl; rotate_left; simp only [Act.put, List.setIfInBounds_toArray, List.set_cons_zero, List.set_cons_succ, i64_w, i32_w]; rfl
             refine last_ (i := 21) (N := none) (bA 22 4194303) rfl rfl (one_of HT_.out (by kernel_rfl)) (by decide) (fun K hK => ?_)
             have hs81 : w79.cell? ⟨gb218, 4, none⟩ = some (u219004) := (blk_cell BK218.out 4).trans rfl
             have hfs81 := blk_frozen BK218.out 4
             have hns81_0 := NB213_218.out
             have hns81_1 := NB214_218.out
             have hns81_3 := NB219_218.out
             have hms81_0 := NB218_213.out
             have hms81_1 := NB218_214.out
             have hms81_3 := NB218_219.out
             refine skip_ (w1 := ?_) (by rfl) rfl ?_ ?_
             rotate_left
             ·go_simp
              rfl
             refine hK.out _ _ ?_
             clear hK K
             refine done_ (done_of HT_.out (by kernel_rfl)) ?_
             try go_wp2
             go_roundg k3
             case measure => have := HJ4.out; have := HJ20.out; have := HK3.out; omega
             case rel => exact ⟨(true), (wrap64 (x11_3 + 1)), (y228), (.slice Ao80 y228.length co80), (by first | rfl | (simp; done) | (simp [*]; done)), (by first | rfl | (simp; done) | (simp [*]; done)), H', ⟨by have := HJ4.out; have := HJ20.out; have := HK3.out; omega⟩, ⟨by (with_reducible repeat (first | apply Kd.R_alloc | apply Kd.R_drewN | apply Kd.R_drew)); exact Kd.R_mono (Kd.R_far (p := ⟨gb218, 4, none⟩) (Kd.R_types HO230.out BK218.out (by decide)) (fun _ hk => hk.2) (.slice Ao80 y228.length co80)) (fun _ hk => trivial)⟩, ⟨by (with_reducible repeat (first | refine blk_drewN ?_ _ | refine blk_drew ?_ | refine blk_alloc ?_ _)); refine blk_far ?_ NB213_218.out _; (with_reducible repeat (first | refine blk_drewN ?_ _ | refine blk_drew ?_ | refine blk_alloc ?_ _)); exact BK213.out⟩, ⟨by (with_reducible repeat (first | refine blk_drewN ?_ _ | refine blk_drew ?_ | refine blk_alloc ?_ _)); refine blk_far ?_ NB214_218.out _; (with_reducible repeat (first | refine blk_drewN ?_ _ | refine blk_drew ?_ | refine blk_alloc ?_ _)); exact BK214.out⟩, ⟨by (with_reducible repeat (first | refine blk_drewN ?_ _ | refine blk_drew ?_ | refine blk_alloc ?_ _)); refine blk_put (cs := #[.int .i64 0, .int .i64 0, .int .i64 (wrap64 (a0_2 + (wrap64 (a2)))), .int .i64 0, u219004]) ?_ 4 _ rfl; (with_reducible repeat (first | refine blk_drewN ?_ _ | refine blk_drew ?_ | refine blk_alloc ?_ _)); exact BK218.out⟩, ⟨by (with_reducible repeat (first | refine blk_drewN ?_ _ | refine blk_drew ?_ | refine blk_alloc ?_ _)); refine blk_far ?_ NB219_218.out _; (with_reducible repeat (first | refine blk_drewN ?_ _ | refine blk_drew ?_ | refine blk_alloc ?_ _)); exact BK219.out⟩, ⟨by repeat (first | (with_reducible first | exact HB.out | apply below_alloc | apply pw_below_drewN | apply below_drew1 | refine below_set ?_ GE213.out | refine below_set ?_ GE214.out | refine below_set ?_ GE218.out | refine below_set ?_ GE219.out) | exact HB.out)⟩⟩
            ·rw [if_neg c73] at H
             exact absurd H (by simp)
           ·rw [if_neg c72] at H
            have c72b0 : decide (1099511627776 < ((rd_T33 l0_4 x11_3).f1)) = false := decide_eq_false c72
            clear c72
            by_cases c82 : x219004_3.length < 8796093022208
            ·rw [if_pos c82] at H
             have LMc82 := Aside0.mk c82
             clear c82
             obtain ⟨y234, hy234⟩ : ∃ y_ : List (S33), y_ = (x219004_3 ++ [(⟨(rd_T33 l0_4 x11_3).f0, wrap64 (((rd_T33 l0_4 x11_3).f1) + (wrap64 (a2)))⟩ : S33)]) := ⟨_, rfl⟩
             replace H : (compositorlaw20_RiverMoves.l0 k3 a2 t215 (decide (((rd_T33 l0_4 x11_3).f1) < (-1099511627776))) (wrap64 (x11_3 + 1)) a0_0 a0_1 a0_2 a0_3 l0_4 a1_0 a1_1 a1_2 a1_3 l1_4 0 0 (wrap64 (a0_2 + (wrap64 (a2)))) 0 y234 0 0 (wrap64 (a1_2 + (wrap64 (a2)))) 0) = some r := by first | (rw [hy234]; with_reducible exact H) | (have H2_ := (Option.bind_some _ _).symm.trans H; rw [hy234]; with_reducible exact H2_) | (have H2_ := (Option.bind_some _ _).symm.trans H; with_reducible exact H2_) | with_reducible exact H | (rw [hy234]; exact H) | exact H
             have Ny234 := Aside0.mk hy234
             clear hy234
             have H' := Aside0.mk H
             clear H
             have hnb83 := NB213_214.out
             have hnc83 := NB214_213.out
             have hnb84 := NB213_218.out
             have hnc84 := NB218_213.out
             have hnb85 := NB213_219.out
             have hnc85 := NB219_213.out
             have hcz86_0 : wr.cell? ⟨gb213, 0, none⟩ = some (.int .i64 a0_0) := (blk_cell BK213.out 0).trans rfl
             have hcz86_1 : wr.cell? ⟨gb213, 1, none⟩ = some (.int .i64 a0_1) := (blk_cell BK213.out 1).trans rfl
             have hcz86_2 : wr.cell? ⟨gb213, 2, none⟩ = some (.int .i64 a0_2) := (blk_cell BK213.out 2).trans rfl
             have hcz86_3 : wr.cell? ⟨gb213, 3, none⟩ = some (.int .i64 a0_3) := (blk_cell BK213.out 3).trans rfl
             have hcz86_4 : wr.cell? ⟨gb213, 4, none⟩ = some (.slice A0_4 l0_4.length c0_4) := (blk_cell BK213.out 4).trans rfl
             have hfz86_0 := blk_frozen BK213.out 0
             have hfz86_1 := blk_frozen BK213.out 1
             have hfz86_2 := blk_frozen BK213.out 2
             have hfz86_3 := blk_frozen BK213.out 3
             have hfz86_4 := blk_frozen BK213.out 4
             have p225 : 0 ≤ (x11_3 : Int) := odt
             have q225 : x11_3 < (l0_4.length : Int) := odt
             obtain ⟨ad225, e225, hx225_0, hx225_1⟩ := at_T33 HR0_4.out x11_3 p225 q225
             cases e225
             replace hx225_0 := (HB.out.cell (World.block_lt_of_cell? w _ hx225_0)).trans hx225_0
             replace hx225_1 := (HB.out.cell (World.block_lt_of_cell? w _ hx225_1)).trans hx225_1
             replace p225 := eq_true p225
             replace q225 := eq_true q225
             have p231 : 0 ≤ (x11_3 : Int) := odt
             have q231 : x11_3 < (l0_4.length : Int) := odt
             obtain ⟨ad231, e231, hx231_0, hx231_1⟩ := at_T33 HR0_4.out x11_3 p231 q231
             obtain rfl : ad225 = ad231 := (by injection e231)
             replace hx231_0 := (HB.out.cell (World.block_lt_of_cell? w _ hx231_0)).trans hx231_0
             replace hx231_1 := (HB.out.cell (World.block_lt_of_cell? w _ hx231_1)).trans hx231_1
             replace p231 := eq_true p231
             replace q231 := eq_true q231
             try go_wp2
             have n0_ := Aside0.mk (Kd.R_drew HO_219004.out)
             have n1_ := Aside0.mk (blk_drew BK213.out)
             have n2_ := Aside0.mk (blk_drew BK214.out)
             have n3_ := Aside0.mk (blk_drew BK218.out)
             have n4_ := Aside0.mk (blk_drew BK219.out)
             have n5_ := Aside0.mk (below_drew1 HB.out)
             clear HO_219004
             clear BK213
             clear BK214
             clear BK218
             clear BK219
             clear HB
             have HO_219004 := n0_
             have BK213 := n1_
             have BK214 := n2_
             have BK218 := n3_
             have BK219 := n4_
             have HB := n5_
             clear n0_ n1_ n2_ n3_ n4_ n5_
             have p232 : 0 ≤ (x11_3 : Int) := odt
             have q232 : x11_3 < (l0_4.length : Int) := odt
             obtain ⟨ad232, e232, hx232_0, hx232_1⟩ := at_T33 HR0_4.out x11_3 p232 q232
             have hw232_1 := hx232_1
             have hw232_0 := hx232_0
             obtain rfl : ad225 = ad232 := (by injection e232)
             replace hx232_0 := (HB.out.cell (World.block_lt_of_cell? w _ hx232_0)).trans hx232_0
             replace hx232_1 := (HB.out.cell (World.block_lt_of_cell? w _ hx232_1)).trans hx232_1
             replace p232 := eq_true p232
             replace q232 := eq_true q232
             have p233 : 0 ≤ (x11_3 : Int) := odt
             have q233 : x11_3 < (l0_4.length : Int) := odt
             obtain ⟨ad233, e233, hx233_0, hx233_1⟩ := at_T33 HR0_4.out x11_3 p233 q233
             have hw233_1 := hx233_1
             have hw233_0 := hx233_0
             obtain rfl : ad225 = ad233 := (by injection e233)
             replace hx233_0 := (HB.out.cell (World.block_lt_of_cell? w _ hx233_0)).trans hx233_0
             replace hx233_1 := (HB.out.cell (World.block_lt_of_cell? w _ hx233_1)).trans hx233_1
             replace p233 := eq_true p233
             replace q233 := eq_true q233
             refine start_ (n := 22) (S := fun w' => w'.cell? ⟨gb218, 0, none⟩ = some (.int .i64 0) ∧ w'.cell? ⟨gb218, 1, none⟩ = some (.int .i64 0) ∧ w'.cell? ⟨gb218, 2, none⟩ = some (.int .i64 (wrap64 (a0_2 + (wrap64 (a2))))) ∧ w'.cell? ⟨gb218, 3, none⟩ = some (.int .i64 0) ∧ w'.cell? ⟨gb218, 4, none⟩ = some (u219004) ∧ w'.cell? ⟨gb213, 0, none⟩ = some (.int .i64 a0_0) ∧ w'.cell? ⟨gb213, 1, none⟩ = some (.int .i64 a0_1) ∧ w'.cell? ⟨gb213, 2, none⟩ = some (.int .i64 a0_2) ∧ w'.cell? ⟨gb213, 3, none⟩ = some (.int .i64 a0_3) ∧ w'.cell? ⟨gb213, 4, none⟩ = some (.slice (some ad225) l0_4.length c0_4) ∧ w'.cell? (ad225.add ((x11_3).toNat * 2)) = some (.int .i64 ((rd_T33 l0_4 x11_3).f0)) ∧ w'.cell? ⟨(ad225.add ((x11_3).toNat * 2)).block, (ad225.add ((x11_3).toNat * 2)).off + 1, none⟩ = some (.int .i64 ((rd_T33 l0_4 x11_3).f1)) ∧ w'.cell? (ad225.add ((x11_3).toNat * 2)) = some (.int .i64 ((rd_T33 l0_4 x11_3).f0)) ∧ w'.cell? ⟨(ad225.add ((x11_3).toNat * 2)).block, (ad225.add ((x11_3).toNat * 2)).off + 1, none⟩ = some (.int .i64 ((rd_T33 l0_4 x11_3).f1))) (ds := [21]) (bA 22 0) (by kernel_rfl) rfl rfl ⟨(blk_cell BK218.out 0).trans rfl, (blk_cell BK218.out 1).trans rfl, (blk_cell BK218.out 2).trans rfl, (blk_cell BK218.out 3).trans rfl, (blk_cell BK218.out 4).trans rfl, (blk_cell BK213.out 0).trans rfl, (blk_cell BK213.out 1).trans rfl, (blk_cell BK213.out 2).trans rfl, (blk_cell BK213.out 3).trans rfl, (blk_cell BK213.out 4).trans rfl, ((HB.out.cell (World.block_lt_of_cell? w _ hw232_0)).trans hw232_0), ((HB.out.cell (World.block_lt_of_cell? w _ hw232_1)).trans hw232_1), ((HB.out.cell (World.block_lt_of_cell? w _ hw233_0)).trans hw233_0), ((HB.out.cell (World.block_lt_of_cell? w _ hw233_1)).trans hw233_1)⟩ (fun hHeld => ?_); refine with_tabW compositorlaw20_RiverMoves.tab11 compositorlaw20_RiverMoves.bits11 (fun HT_ HW_ => ?_)
             generalize wr.drew = w87 at HO_219004 BK213 BK214 BK218 BK219 HB hx232_0 hx232_1 hx233_0 hx233_1 hHeld ⊢
             refine pure_ (i := 0) (N := some 82) (v := ?_) (a' := ?_) (bA 22 1) rfl rfl (any_of HT_.out (by kernel_rfl)) (fun _ _ _ h => h) (Or.inl ⟨by rfl, ?_⟩) ?_ ?_; rotate_left; intro w'; go_simp; with_reducible rfl; rotate_left; simp only [Act.put, List.setIfInBounds_toArray, List.set_cons_zero, List.set_cons_succ, i64_w, i32_w]; rfl
             refine pure_ (i := 2) (N := some 84) (v := ?_) (a' := ?_) (bA 22 5) rfl rfl (any_of HT_.out (by kernel_rfl)) (fun _ _ _ h => h) (Or.inl ⟨by rfl, ?_⟩) ?_ ?_; rotate_left; intro w'; go_simp; with_reducible rfl; rotate_left; simp only [Act.put, List.setIfInBounds_toArray, List.set_cons_zero, List.set_cons_succ, i64_w, i32_w]; rfl
             refine pure_ (i := 4) (N := some 86) (v := ?_) (a' := ?_) (bA 22 21) rfl rfl (any_of HT_.out (by kernel_rfl)) (fun _ _ _ h => h) (Or.inl ⟨by rfl, ?_⟩) ?_ ?_; rotate_left; intro w'; go_simp; with_reducible rfl; rotate_left; simp only [Act.put, List.setIfInBounds_toArray, List.set_cons_zero, List.set_cons_succ, i64_w, i32_w]; rfl
             refine pure_ (i := 8) (N := some 90) (v := ?_) (a' := ?_) (bA 22 277) rfl rfl (any_of HT_.out (by kernel_rfl)) (fun _ _ _ h => h) (Or.inl ⟨by rfl, ?_⟩) ?_ ?_; rotate_left; intro w'; go_simp; with_reducible rfl; rotate_left; simp only [Act.put, List.setIfInBounds_toArray, List.set_cons_zero, List.set_cons_succ, i64_w, i32_w]; rfl
             refine pure_ (i := 10) (N := some 92) (v := ?_) (a' := ?_) (bA 22 1301) rfl rfl (any_of HT_.out (by kernel_rfl)) (fun _ _ _ h => h) (Or.inl ⟨by rfl, ?_⟩) ?_ ?_; rotate_left; intro w'; go_simp; with_reducible rfl; rotate_left; simp only [Act.put, List.setIfInBounds_toArray, List.set_cons_zero, List.set_cons_succ, i64_w, i32_w]; rfl
             refine pure_ (i := 14) (N := some 96) (v := ?_) (a' := ?_) (bA 22 17685) rfl rfl (any_of HT_.out (by kernel_rfl)) (fun _ _ _ h => h) (Or.inl ⟨by rfl, ?_⟩) ?_ ?_; rotate_left; intro w'; go_simp; with_reducible rfl; rotate_left; simp only [Act.put, List.setIfInBounds_toArray, List.set_cons_zero, List.set_cons_succ, i64_w, i32_w]; rfl
             refine pure_ (i := 15) (N := some 97) (v := ?_) (a' := ?_) (bA 22 50453) rfl rfl (any_of HT_.out (by kernel_rfl)) (fun _ _ _ h => h) (Or.inl ⟨by rfl, ?_⟩) ?_ ?_; rotate_left; intro w'; go_simp; with_reducible rfl; rotate_left; simp only [Act.put, List.setIfInBounds_toArray, List.set_cons_zero, List.set_cons_succ, i64_w, i32_w]; rfl
             refine take_ (i := 1) (N := some 83) (v := ?_) (a' := ?_) (bA 22 50455) rfl rfl (take_ofW HT_.out HW_.out (by kernel_rfl)) (fun _ _ _ h => h) (Or.inl ⟨by rfl, ?_⟩) hHeld ?_ ?_; rotate_left; rintro w' ⟨s0, s1, s2, s3, s4, s5, s6, s7, s8, s9, s10, s11, s12, s13⟩; go_simp; with_reducible rfl; rotate_left; simp only [Act.put, List.setIfInBounds_toArray, List.set_cons_zero, List.set_cons_succ, i64_w, i32_w]; rfl
             refine take_ (i := 3) (N := some 85) (v := ?_) (a' := ?_) (bA 22 50463) rfl rfl (take_ofW HT_.out HW_.out (by kernel_rfl)) (fun _ _ _ h => h) (Or.inl ⟨by rfl, ?_⟩) hHeld ?_ ?_; rotate_left; rintro w' ⟨s0, s1, s2, s3, s4, s5, s6, s7, s8, s9, s10, s11, s12, s13⟩; go_simp; with_reducible rfl; rotate_left; simp only [Act.put, List.setIfInBounds_toArray, List.set_cons_zero, List.set_cons_succ, i64_w, i32_w]; rfl
             refine pure_ (i := 5) (N := some 87) (v := ?_) (a' := ?_) (bA 22 50495) rfl rfl (any_of HT_.out (by kernel_rfl)) (fun _ _ _ h => h) (Or.inl ⟨by rfl, ?_⟩) ?_ ?_; rotate_left; intro w'; go_simp; with_reducible rfl; rotate_left; simp only [Act.put, List.setIfInBounds_toArray, List.set_cons_zero, List.set_cons_succ, i64_w, i32_w]; rfl
             refine pure_ (i := 6) (N := some 88) (v := ?_) (a' := ?_) (bA 22 50559) rfl rfl (any_of HT_.out (by kernel_rfl)) (fun _ _ _ h => h) (Or.inl ⟨by rfl, ?_⟩) ?_ ?_; rotate_left; intro w'; go_simp; with_reducible rfl; rotate_left; simp only [Act.put, List.setIfInBounds_toArray, List.set_cons_zero, List.set_cons_succ, i64_w, i32_w]; rfl
             refine take_ (i := 7) (N := some 89) (v := ?_) (a' := ?_) (bA 22 50687) rfl rfl (take_ofW HT_.out HW_.out (by kernel_rfl)) (fun _ _ _ h => h) (Or.inl ⟨by rfl, ?_⟩) hHeld ?_ ?_; rotate_left; rintro w' ⟨s0, s1, s2, s3, s4, s5, s6, s7, s8, s9, s10, s11, s12, s13⟩; go_simp; with_reducible rfl; rotate_left; simp only [Act.put, List.setIfInBounds_toArray, List.set_cons_zero, List.set_cons_succ, i64_w, i32_w]; rfl
             refine take_ (i := 9) (N := some 91) (v := ?_) (a' := ?_) (bA 22 51199) rfl rfl (take_ofW HT_.out HW_.out (by kernel_rfl)) (fun _ _ _ h => h) (Or.inl ⟨by rfl, ?_⟩) hHeld ?_ ?_; rotate_left; rintro w' ⟨s0, s1, s2, s3, s4, s5, s6, s7, s8, s9, s10, s11, s12, s13⟩; go_simp; with_reducible rfl; rotate_left; simp only [Act.put, List.setIfInBounds_toArray, List.set_cons_zero, List.set_cons_succ, i64_w, i32_w]; rfl
             refine pure_ (i := 11) (N := some 93) (v := ?_) (a' := ?_) (bA 22 53247) rfl rfl (any_of HT_.out (by kernel_rfl)) (fun _ _ _ h => h) (Or.inl ⟨by rfl, ?_⟩) ?_ ?_; rotate_left; intro w'; go_simp; with_reducible rfl; rotate_left; simp only [Act.put, List.setIfInBounds_toArray, List.set_cons_zero, List.set_cons_succ, i64_w, i32_w]; rfl
             refine pure_ (i := 12) (N := some 94) (v := ?_) (a' := ?_) (bA 22 57343) rfl rfl (any_of HT_.out (by kernel_rfl)) (fun _ _ _ h => h) (Or.inl ⟨by rfl, ?_⟩) ?_ ?_; rotate_left; intro w'; go_simp; with_reducible rfl; rotate_left; simp only [Act.put, List.setIfInBounds_toArray, List.set_cons_zero, List.set_cons_succ, i64_w, i32_w]; rfl
             refine take_ (i := 13) (N := some 95) (v := ?_) (a' := ?_) (bA 22 65535) rfl rfl (take_ofW HT_.out HW_.out (by kernel_rfl)) (fun _ _ _ h => h) (Or.inl ⟨by rfl, ?_⟩) hHeld ?_ ?_; rotate_left; rintro w' ⟨s0, s1, s2, s3, s4, s5, s6, s7, s8, s9, s10, s11, s12, s13⟩; go_simp; with_reducible rfl; rotate_left; simp only [Act.put, List.setIfInBounds_toArray, List.set_cons_zero, List.set_cons_succ, i64_w, i32_w]; rfl
             refine pure_ (i := 16) (N := some 98) (v := ?_) (a' := ?_) (bA 22 131071) rfl rfl (any_of HT_.out (by kernel_rfl)) (fun _ _ _ h => h) (Or.inl ⟨by rfl, ?_⟩) ?_ ?_; rotate_left; intro w'; go_simp; with_reducible rfl; rotate_left; simp only [Act.put, List.setIfInBounds_toArray, List.set_cons_zero, List.set_cons_succ, i64_w, i32_w]; rfl
             refine pure_ (i := 17) (N := some 99) (v := ?_) (a' := ?_) (bA 22 262143) rfl rfl (any_of HT_.out (by kernel_rfl)) (fun _ _ _ h => h) (Or.inl ⟨by rfl, ?_⟩) ?_ ?_; rotate_left; intro w'; go_simp; with_reducible rfl; rotate_left; simp only [Act.put, List.setIfInBounds_toArray, List.set_cons_zero, List.set_cons_succ, i64_w, i32_w]; rfl
             refine one_ (i := 18) (N := some 100) (bA 22 524287) rfl rfl (one_of HT_.out (by kernel_rfl)) (by decide) (fun K hK => ?_)
             refine value_ (w1 := ?_) (v := ?_) (by rfl) rfl ?_ ?_
             rotate_left 2
             ·go_simp
              constructor
              ·rfl
              ·rfl
             refine hK.out _ _ ⟨(blk_cell (blk_alloc BK218.out _) 0).trans rfl, (blk_cell (blk_alloc BK218.out _) 1).trans rfl, (blk_cell (blk_alloc BK218.out _) 2).trans rfl, (blk_cell (blk_alloc BK218.out _) 3).trans rfl, (blk_cell (blk_alloc BK218.out _) 4).trans rfl, (blk_cell (blk_alloc BK213.out _) 0).trans rfl, (blk_cell (blk_alloc BK213.out _) 1).trans rfl, (blk_cell (blk_alloc BK213.out _) 2).trans rfl, (blk_cell (blk_alloc BK213.out _) 3).trans rfl, (blk_cell (blk_alloc BK213.out _) 4).trans rfl, (World.cell?_alloc_lt _ _ _ (World.block_lt_of_cell? _ _ (((HB.out.cell (World.block_lt_of_cell? w _ hw232_0)).trans hw232_0)))).trans (((HB.out.cell (World.block_lt_of_cell? w _ hw232_0)).trans hw232_0)), (World.cell?_alloc_lt _ _ _ (World.block_lt_of_cell? _ _ (((HB.out.cell (World.block_lt_of_cell? w _ hw232_1)).trans hw232_1)))).trans (((HB.out.cell (World.block_lt_of_cell? w _ hw232_1)).trans hw232_1)), (World.cell?_alloc_lt _ _ _ (World.block_lt_of_cell? _ _ (((HB.out.cell (World.block_lt_of_cell? w _ hw233_0)).trans hw233_0)))).trans (((HB.out.cell (World.block_lt_of_cell? w _ hw233_0)).trans hw233_0)), (World.cell?_alloc_lt _ _ _ (World.block_lt_of_cell? _ _ (((HB.out.cell (World.block_lt_of_cell? w _ hw233_1)).trans hw233_1)))).trans (((HB.out.cell (World.block_lt_of_cell? w _ hw233_1)).trans hw233_1))⟩ (fun hHeld => ?_)
             clear hK K
             refine norm_ (a' := ?_) ?_ ?_
             rotate_left
             ·show Act.put _ (some 100) _ = _
              simp only [Act.put, List.setIfInBounds_toArray, List.set_cons_zero, List.set_cons_succ, i64_w, i32_w]
              rfl
             refine one_ (i := 19) (N := some 101) (bA 22 1048575) rfl rfl (one_of HT_.out (by kernel_rfl)) (by decide) (fun K hK => ?_)
             refine Kd.R_append_step k33 (w0 := w) w.heap.size (by rfl) (.tmp 83) (.tmp 100) 22 33 (.agg #[(.int .i64 0), (.int .i64 0)]) 16 rfl Try.underlying22 info33 rfl (by decide) (by omega) u219004 x219004_3 (⟨(rd_T33 l0_4 x11_3).f0, wrap64 (((rd_T33 l0_4 x11_3).f1) + (wrap64 (a2)))⟩ : S33) [.int .i64 ((rd_T33 l0_4 x11_3).f0), .int .i64 (wrap64 (((rd_T33 l0_4 x11_3).f1) + (wrap64 (a2))))] (fun _ => True) (fun _ => False) rfl rfl ?aP (fun _ hk => hk.elim) ?aF ?aO ?aB ?aS ?aL ?_
             (case aP => exact k33_mkM _ _ _ (⟨(rd_T33 l0_4 x11_3).f0, wrap64 (((rd_T33 l0_4 x11_3).f1) + (wrap64 (a2)))⟩ : S33))
             (case aB => exact (by repeat (first | (with_reducible first | exact HB.out | apply below_alloc | apply pw_below_drewN | apply below_drew1 | refine below_set ?_ GE213.out | refine below_set ?_ GE214.out | refine below_set ?_ GE218.out | refine below_set ?_ GE219.out) | exact HB.out)))
             (case aF => exact (fun _ _ => trivial))
             (case aO => exact (by (with_reducible repeat (first | apply Kd.R_alloc | apply Kd.R_drewN | apply Kd.R_drew)); exact HO_219004.out))
             (case aS => exact (below_size (by repeat (first | (with_reducible first | exact HB.out | apply below_alloc | apply pw_below_drewN | apply below_drew1 | refine below_set ?_ GE213.out | refine below_set ?_ GE214.out | refine below_set ?_ GE218.out | refine below_set ?_ GE219.out) | exact HB.out))))
             (case aL => have := LMc82.out; omega)
             intro v235 w88 ho hb hg hat
             rw [← Ny234.out] at ho
             have n0_ := Aside0.mk (blk_grown (g := gb213) (o := .cells #[.int .i64 a0_0, .int .i64 a0_1, .int .i64 a0_2, .int .i64 a0_3, .slice (some ad225) l0_4.length c0_4] 24 (0, 0)) (by (with_reducible repeat (first | refine blk_drewN ?_ _ | refine blk_drew ?_ | refine blk_alloc ?_ _)); exact BK213.out) hg (Kd.R_ne HO_219004.out BK213.out (by decide)))
             have n1_ := Aside0.mk (blk_grown (g := gb214) (o := .cells #[.int .i64 a1_0, .int .i64 a1_1, .int .i64 a1_2, .int .i64 a1_3, .slice A1_4 l1_4.length c1_4] 24 (0, 0)) (by (with_reducible repeat (first | refine blk_drewN ?_ _ | refine blk_drew ?_ | refine blk_alloc ?_ _)); exact BK214.out) hg (Kd.R_ne HO_219004.out BK214.out (by decide)))
             have n2_ := Aside0.mk (blk_grown (g := gb218) (o := .cells #[.int .i64 0, .int .i64 0, .int .i64 (wrap64 (a0_2 + (wrap64 (a2)))), .int .i64 0, u219004] 24 (0, 0)) (by (with_reducible repeat (first | refine blk_drewN ?_ _ | refine blk_drew ?_ | refine blk_alloc ?_ _)); exact BK218.out) hg (Kd.R_ne HO_219004.out BK218.out (by decide)))
             have n3_ := Aside0.mk (blk_grown (g := gb219) (o := .cells #[.int .i64 0, .int .i64 0, .int .i64 (wrap64 (a1_2 + (wrap64 (a2)))), .int .i64 0, .slice none 0 0] 24 (0, 0)) (by (with_reducible repeat (first | refine blk_drewN ?_ _ | refine blk_drew ?_ | refine blk_alloc ?_ _)); exact BK219.out) hg (Kd.R_ne HO_219004.out BK219.out (by decide)))
             have n4_ := Aside0.mk (hb)
             have n5_ := Aside0.mk (ho)
             clear BK213
             clear BK214
             clear BK218
             clear BK219
             clear HB
             clear HO_219004
             have BK213 := n0_
             have BK214 := n1_
             have BK218 := n2_
             have BK219 := n3_
             have HB := n4_
             have HO236 := n5_
             clear n0_ n1_ n2_ n3_ n4_ n5_
             clear ho hb hg hat
             obtain ⟨Ao89, co89, eo89⟩ := Kd.R_slice HO236.out
             (first | subst eo89 | (injection eo89 with f1_ f2_ f3_; have f4_ := f1_.symm; have f5_ := f3_.symm; clear f1_ f2_ f3_; subst f4_; subst f5_))
             refine hK.out _ _ ⟨(blk_cell BK218.out 0).trans rfl, (blk_cell BK218.out 1).trans rfl, (blk_cell BK218.out 2).trans rfl, (blk_cell BK218.out 3).trans rfl, (blk_cell BK218.out 4).trans rfl, (blk_cell BK213.out 0).trans rfl, (blk_cell BK213.out 1).trans rfl, (blk_cell BK213.out 2).trans rfl, (blk_cell BK213.out 3).trans rfl, (blk_cell BK213.out 4).trans rfl, ((HB.out.cell (World.block_lt_of_cell? w _ hw232_0)).trans hw232_0), ((HB.out.cell (World.block_lt_of_cell? w _ hw232_1)).trans hw232_1), ((HB.out.cell (World.block_lt_of_cell? w _ hw233_0)).trans hw233_0), ((HB.out.cell (World.block_lt_of_cell? w _ hw233_1)).trans hw233_1)⟩ (fun hHeld => ?_)
             clear hK K
             refine norm_ (a' := ?_) ?_ ?_
             rotate_left
             ·show Act.put _ (some 101) _ = _
              simp only [Act.put, List.setIfInBounds_toArray, List.set_cons_zero, List.set_cons_succ, i64_w, i32_w]
              rfl
             refine pure_ (i := 20) (N := some 102) (v := ?_) (a' := ?_) (bA 22 2097151) rfl rfl (any_of HT_.out (by kernel_rfl)) (fun _ _ _ h => h) (Or.inl ⟨by rfl, ?_⟩) ?_ ?_; rotate_left; intro w'; go_simp; with_reducible rfl; rotate_left; simp only [Act.put, List.setIfInBounds_toArray, List.set_cons_zero, List.set_cons_succ, i64_w, i32_w]; rfl
             refine last_ (i := 21) (N := none) (bA 22 4194303) rfl rfl (one_of HT_.out (by kernel_rfl)) (by decide) (fun K hK => ?_)
             have hs90 : w88.cell? ⟨gb218, 4, none⟩ = some (u219004) := (blk_cell BK218.out 4).trans rfl
             have hfs90 := blk_frozen BK218.out 4
             have hns90_0 := NB213_218.out
             have hns90_1 := NB214_218.out
             have hns90_3 := NB219_218.out
             have hms90_0 := NB218_213.out
             have hms90_1 := NB218_214.out
             have hms90_3 := NB218_219.out
             refine skip_ (w1 := ?_) (by rfl) rfl ?_ ?_
             rotate_left
             ·go_simp
              rfl
             refine hK.out _ _ ?_
             clear hK K
             refine done_ (done_of HT_.out (by kernel_rfl)) ?_
             try go_wp2
             go_roundg k3
             case measure => have := HJ4.out; have := HJ20.out; have := HK3.out; omega
             case rel => exact ⟨(decide (((rd_T33 l0_4 x11_3).f1) < (-1099511627776))), (wrap64 (x11_3 + 1)), (y234), (.slice Ao89 y234.length co89), (by first | rfl | (simp; done) | (simp [*]; done)), (by first | rfl | (simp; done) | (simp [*]; done)), H', ⟨by have := HJ4.out; have := HJ20.out; have := HK3.out; omega⟩, ⟨by (with_reducible repeat (first | apply Kd.R_alloc | apply Kd.R_drewN | apply Kd.R_drew)); exact Kd.R_mono (Kd.R_far (p := ⟨gb218, 4, none⟩) (Kd.R_types HO236.out BK218.out (by decide)) (fun _ hk => hk.2) (.slice Ao89 y234.length co89)) (fun _ hk => trivial)⟩, ⟨by (with_reducible repeat (first | refine blk_drewN ?_ _ | refine blk_drew ?_ | refine blk_alloc ?_ _)); refine blk_far ?_ NB213_218.out _; (with_reducible repeat (first | refine blk_drewN ?_ _ | refine blk_drew ?_ | refine blk_alloc ?_ _)); exact BK213.out⟩, ⟨by (with_reducible repeat (first | refine blk_drewN ?_ _ | refine blk_drew ?_ | refine blk_alloc ?_ _)); refine blk_far ?_ NB214_218.out _; (with_reducible repeat (first | refine blk_drewN ?_ _ | refine blk_drew ?_ | refine blk_alloc ?_ _)); exact BK214.out⟩, ⟨by (with_reducible repeat (first | refine blk_drewN ?_ _ | refine blk_drew ?_ | refine blk_alloc ?_ _)); refine blk_put (cs := #[.int .i64 0, .int .i64 0, .int .i64 (wrap64 (a0_2 + (wrap64 (a2)))), .int .i64 0, u219004]) ?_ 4 _ rfl; (with_reducible repeat (first | refine blk_drewN ?_ _ | refine blk_drew ?_ | refine blk_alloc ?_ _)); exact BK218.out⟩, ⟨by (with_reducible repeat (first | refine blk_drewN ?_ _ | refine blk_drew ?_ | refine blk_alloc ?_ _)); refine blk_far ?_ NB219_218.out _; (with_reducible repeat (first | refine blk_drewN ?_ _ | refine blk_drew ?_ | refine blk_alloc ?_ _)); exact BK219.out⟩, ⟨by repeat (first | (with_reducible first | exact HB.out | apply below_alloc | apply pw_below_drewN | apply below_drew1 | refine below_set ?_ GE213.out | refine below_set ?_ GE214.out | refine below_set ?_ GE218.out | refine below_set ?_ GE219.out) | exact HB.out)⟩⟩
            ·rw [if_neg c82] at H
             exact absurd H (by simp)
          ·rw [if_neg c71] at H
           exact absurd H (by simp)
        ·rw [if_neg c59] at H
         have c59b0 : decide (x11_3 < (l0_4.length : Int)) = false := decide_eq_false c59
         clear c59
         have H' := Aside0.mk H
         clear H
         have hnb91 := NB213_214.out
         have hnc91 := NB214_213.out
         have hnb92 := NB213_218.out
         have hnc92 := NB218_213.out
         have hnb93 := NB213_219.out
         have hnc93 := NB219_213.out
         have hcz94_0 : wr.cell? ⟨gb213, 0, none⟩ = some (.int .i64 a0_0) := (blk_cell BK213.out 0).trans rfl
         have hcz94_1 : wr.cell? ⟨gb213, 1, none⟩ = some (.int .i64 a0_1) := (blk_cell BK213.out 1).trans rfl
         have hcz94_2 : wr.cell? ⟨gb213, 2, none⟩ = some (.int .i64 a0_2) := (blk_cell BK213.out 2).trans rfl
         have hcz94_3 : wr.cell? ⟨gb213, 3, none⟩ = some (.int .i64 a0_3) := (blk_cell BK213.out 3).trans rfl
         have hcz94_4 : wr.cell? ⟨gb213, 4, none⟩ = some (.slice A0_4 l0_4.length c0_4) := (blk_cell BK213.out 4).trans rfl
         have hfz94_0 := blk_frozen BK213.out 0
         have hfz94_1 := blk_frozen BK213.out 1
         have hfz94_2 := blk_frozen BK213.out 2
         have hfz94_3 := blk_frozen BK213.out 3
         have hfz94_4 := blk_frozen BK213.out 4
         go_wp2
         go_loopg [10, 12] k3 (fun kq v10 v12 w' => ∃ (x10_4 : Bool) (x12_4 : Int) (x220004_4 : List (S33)) (u220004 : Value), v10 = .bool x10_4 ∧ v12 = .int .i64 x12_4 ∧ Aside0 (compositorlaw20_RiverMoves.l1 kq a2 t215 x10_4 x12_4 a0_0 a0_1 a0_2 a0_3 l0_4 a1_0 a1_1 a1_2 a1_3 l1_4 0 0 (wrap64 (a0_2 + (wrap64 (a2)))) 0 x219004_3 0 0 (wrap64 (a1_2 + (wrap64 (a2)))) 0 x220004_4 = some r) ∧ Aside0 (kq ≤ k3) ∧ Aside0 (Kd.R k33 33 w' w.heap.size (fun k_ => some k_ ≠ (u220004 : Value).ownBlock) u219004 x219004_3) ∧ Aside0 (Kd.R k33 33 w' w.heap.size (fun k_ => some k_ ≠ (u219004 : Value).ownBlock) u220004 x220004_4) ∧ Aside0 (w'.heap[gb213]? = some (.cells #[.int .i64 a0_0, .int .i64 a0_1, .int .i64 a0_2, .int .i64 a0_3, (.slice A0_4 l0_4.length c0_4)] 24 (0, 0))) ∧ Aside0 (w'.heap[gb214]? = some (.cells #[.int .i64 a1_0, .int .i64 a1_1, .int .i64 a1_2, .int .i64 a1_3, (.slice A1_4 l1_4.length c1_4)] 24 (0, 0))) ∧ Aside0 (w'.heap[gb218]? = some (.cells #[.int .i64 0, .int .i64 0, .int .i64 (wrap64 (a0_2 + (wrap64 (a2)))), .int .i64 0, u219004] 24 (0, 0))) ∧ Aside0 (w'.heap[gb219]? = some (.cells #[.int .i64 0, .int .i64 0, .int .i64 (wrap64 (a1_2 + (wrap64 (a2)))), .int .i64 0, u220004] 24 (0, 0))) ∧ Aside0 (Below w.heap.size w w'))
         case atStart => exact ⟨(x10_3), (0), (([] : List (S33))), (.slice none 0 0), (by first | rfl | (simp; done) | (simp [*]; done)), (by first | rfl | (simp; done) | (simp [*]; done)), H', ⟨Nat.le_refl _⟩, ⟨by (with_reducible repeat (first | apply Kd.R_alloc | apply Kd.R_drewN | apply Kd.R_drew)); exact Kd.R_mono HO_219004.out (fun _ hk => (by simp [Value.ownBlock]))⟩, ⟨by first | exact Kd.R_nil _ _ _ _ _ | exact Kd.N_nil _ _ _ _ _ | exact Kd.V_nil _ _ _ _ _ | exact Kd.Q_nil _ _ _ _ _ | exact Kd.S_nil _ _ _ _ _⟩, ⟨by (with_reducible repeat (first | refine blk_drewN ?_ _ | refine blk_drew ?_ | refine blk_alloc ?_ _)); exact BK213.out⟩, ⟨by (with_reducible repeat (first | refine blk_drewN ?_ _ | refine blk_drew ?_ | refine blk_alloc ?_ _)); exact BK214.out⟩, ⟨by (with_reducible repeat (first | refine blk_drewN ?_ _ | refine blk_drew ?_ | refine blk_alloc ?_ _)); exact BK218.out⟩, ⟨by (with_reducible repeat (first | refine blk_drewN ?_ _ | refine blk_drew ?_ | refine blk_alloc ?_ _)); exact BK219.out⟩, ⟨by repeat (first | (with_reducible first | exact HB.out | apply below_alloc | apply pw_below_drewN | apply below_drew1 | refine below_set ?_ GE213.out | refine below_set ?_ GE214.out | refine below_set ?_ GE218.out | refine below_set ?_ GE219.out) | exact HB.out)⟩⟩
         case round =>
          clear H'
          (try clear c1); (try clear p2)
          (try clear q2); (try clear hx2)
          (try clear c5); (try clear p6)
          (try clear c7); (try clear c8)
          (try clear c9); (try clear p22)
          (try clear q22); (try clear hx22)
          (try clear p23); (try clear q23)
          (try clear hx23); (try clear c59)
          (try clear c59b0); (try clear p64)
          (try clear c71); (try clear c72)
          (try clear c72b0); (try clear c73)
          (try clear c82); (try clear c83)
          (try clear c84); (try clear c85)
          (try clear c91); (try clear c92)
          (try clear c93); (try clear hcz86_0)
          (try clear hcz86_1); (try clear hcz86_2)
          (try clear hcz86_3); (try clear hcz86_4)
          (try clear hcz94_0); (try clear hcz94_1)
          (try clear hcz94_2); (try clear hcz94_3)
          (try clear hcz94_4); (try clear hfz86_0)
          (try clear hfz86_1); (try clear hfz86_2)
          (try clear hfz86_3); (try clear hfz86_4)
          (try clear hfz94_0); (try clear hfz94_1)
          (try clear hfz94_2); (try clear hfz94_3)
          (try clear hfz94_4); (try clear hx225_0)
          (try clear hx225_1); (try clear hx226_0)
          (try clear hx226_1); (try clear hx227_0)
          (try clear hx227_1); (try clear hx231_0)
          (try clear hx231_1); (try clear hx232_0)
          (try clear hx232_1); (try clear hx233_0)
          (try clear hx233_1); (try clear p225)
          (try clear p226); (try clear p227)
          (try clear p231); (try clear p232)
          (try clear p233); (try clear q225)
          (try clear q226); (try clear q227)
          (try clear q231); (try clear q232); (try clear q233)
          obtain ⟨x10_4, x12_4, x220004_4, u220004, rfl, rfl, HA, HK4, HO_219004, HO_220004, BK213, BK214, BK218, BK219, HB⟩ := hrel
          cases gk with
          | zero => exact absurd HA.out (by simp [compositorlaw20_RiverMoves.l1])
          | succ k4 =>
           have H := HA.out
           clear HA
           simp only [compositorlaw20_RiverMoves.l1] at H
           by_cases c95 : x12_4 < (l1_4.length : Int)
           ·rw [if_pos c95] at H
            have c95b0 : decide (x12_4 < (l1_4.length : Int)) = true := decide_eq_true c95
            clear c95
            by_cases c96 : x10_4 = true
            ·subst c96
             have H1 : (if 0 ≤ x12_4 then (if x220004_4.length < 8796093022208 then (compositorlaw20_RiverMoves.l1 k4 a2 t215 true (wrap64 (x12_4 + 1)) a0_0 a0_1 a0_2 a0_3 l0_4 a1_0 a1_1 a1_2 a1_3 l1_4 0 0 (wrap64 (a0_2 + (wrap64 (a2)))) 0 x219004_3 0 0 (wrap64 (a1_2 + (wrap64 (a2)))) 0 (x220004_4 ++ [(⟨(rd_T33 l1_4 x12_4).f0, wrap64 (((rd_T33 l1_4 x12_4).f1) + (wrap64 (a2)))⟩ : S33)])) else (none)) else (none)) = some r := by rw [if_pos rfl] at H; exact H
             clear H
             have H := H1
             clear H1
             by_cases c97 : 0 ≤ x12_4
             ·rw [if_pos c97] at H
              have c97b0 : decide (0 ≤ x12_4) = true := decide_eq_true c97
              clear c97
              by_cases c98 : x220004_4.length < 8796093022208
              ·rw [if_pos c98] at H
               have LMc98 := Aside0.mk c98
               clear c98
               obtain ⟨y239, hy239⟩ : ∃ y_ : List (S33), y_ = (x220004_4 ++ [(⟨(rd_T33 l1_4 x12_4).f0, wrap64 (((rd_T33 l1_4 x12_4).f1) + (wrap64 (a2)))⟩ : S33)]) := ⟨_, rfl⟩
               replace H : (compositorlaw20_RiverMoves.l1 k4 a2 t215 true (wrap64 (x12_4 + 1)) a0_0 a0_1 a0_2 a0_3 l0_4 a1_0 a1_1 a1_2 a1_3 l1_4 0 0 (wrap64 (a0_2 + (wrap64 (a2)))) 0 x219004_3 0 0 (wrap64 (a1_2 + (wrap64 (a2)))) 0 y239) = some r := by first | (rw [hy239]; with_reducible exact H) | (have H2_ := (Option.bind_some _ _).symm.trans H; rw [hy239]; with_reducible exact H2_) | (have H2_ := (Option.bind_some _ _).symm.trans H; with_reducible exact H2_) | with_reducible exact H | (rw [hy239]; exact H) | exact H
               have Ny239 := Aside0.mk hy239
               clear hy239
               have H' := Aside0.mk H
               clear H
               have hnb99 := NB214_213.out
               have hnc99 := NB213_214.out
               have hnb100 := NB214_218.out
               have hnc100 := NB218_214.out
               have hnb101 := NB214_219.out
               have hnc101 := NB219_214.out
               have hcz102_0 : wr.cell? ⟨gb214, 0, none⟩ = some (.int .i64 a1_0) := (blk_cell BK214.out 0).trans rfl
               have hcz102_1 : wr.cell? ⟨gb214, 1, none⟩ = some (.int .i64 a1_1) := (blk_cell BK214.out 1).trans rfl
               have hcz102_2 : wr.cell? ⟨gb214, 2, none⟩ = some (.int .i64 a1_2) := (blk_cell BK214.out 2).trans rfl
               have hcz102_3 : wr.cell? ⟨gb214, 3, none⟩ = some (.int .i64 a1_3) := (blk_cell BK214.out 3).trans rfl
               have hcz102_4 : wr.cell? ⟨gb214, 4, none⟩ = some (.slice A1_4 l1_4.length c1_4) := (blk_cell BK214.out 4).trans rfl
               have hfz102_0 := blk_frozen BK214.out 0
               have hfz102_1 := blk_frozen BK214.out 1
               have hfz102_2 := blk_frozen BK214.out 2
               have hfz102_3 := blk_frozen BK214.out 3
               have hfz102_4 := blk_frozen BK214.out 4
               try go_wp2
               have n0_ := Aside0.mk (Kd.R_drew HO_219004.out)
               have n1_ := Aside0.mk (Kd.R_drew HO_220004.out)
               have n2_ := Aside0.mk (blk_drew BK213.out)
               have n3_ := Aside0.mk (blk_drew BK214.out)
               have n4_ := Aside0.mk (blk_drew BK218.out)
               have n5_ := Aside0.mk (blk_drew BK219.out)
               have n6_ := Aside0.mk (below_drew1 HB.out)
               clear HO_219004
               clear HO_220004
               clear BK213
               clear BK214
               clear BK218
               clear BK219
               clear HB
               have HO_219004 := n0_
               have HO_220004 := n1_
               have BK213 := n2_
               have BK214 := n3_
               have BK218 := n4_
               have BK219 := n5_
               have HB := n6_
               clear n0_ n1_ n2_ n3_ n4_ n5_ n6_
               have p237 : 0 ≤ (x12_4 : Int) := odt
               have q237 : x12_4 < (l1_4.length : Int) := odt
               obtain ⟨ad237, e237, hx237_0, hx237_1⟩ := at_T33 HR1_4.out x12_4 p237 q237
               have hw237_1 := hx237_1
               have hw237_0 := hx237_0
               cases e237
               replace hx237_0 := (HB.out.cell (World.block_lt_of_cell? w _ hx237_0)).trans hx237_0
               replace hx237_1 := (HB.out.cell (World.block_lt_of_cell? w _ hx237_1)).trans hx237_1
               replace p237 := eq_true p237
               replace q237 := eq_true q237
               have p238 : 0 ≤ (x12_4 : Int) := odt
               have q238 : x12_4 < (l1_4.length : Int) := odt
               obtain ⟨ad238, e238, hx238_0, hx238_1⟩ := at_T33 HR1_4.out x12_4 p238 q238
               have hw238_1 := hx238_1
               have hw238_0 := hx238_0
               obtain rfl : ad237 = ad238 := (by injection e238)
               replace hx238_0 := (HB.out.cell (World.block_lt_of_cell? w _ hx238_0)).trans hx238_0
               replace hx238_1 := (HB.out.cell (World.block_lt_of_cell? w _ hx238_1)).trans hx238_1
               replace p238 := eq_true p238
               replace q238 := eq_true q238
               refine start_ (n := 22) (S := fun w' => w'.cell? ⟨gb219, 0, none⟩ = some (.int .i64 0) ∧ w'.cell? ⟨gb219, 1, none⟩ = some (.int .i64 0) ∧ w'.cell? ⟨gb219, 2, none⟩ = some (.int .i64 (wrap64 (a1_2 + (wrap64 (a2))))) ∧ w'.cell? ⟨gb219, 3, none⟩ = some (.int .i64 0) ∧ w'.cell? ⟨gb219, 4, none⟩ = some (u220004) ∧ w'.cell? ⟨gb214, 0, none⟩ = some (.int .i64 a1_0) ∧ w'.cell? ⟨gb214, 1, none⟩ = some (.int .i64 a1_1) ∧ w'.cell? ⟨gb214, 2, none⟩ = some (.int .i64 a1_2) ∧ w'.cell? ⟨gb214, 3, none⟩ = some (.int .i64 a1_3) ∧ w'.cell? ⟨gb214, 4, none⟩ = some (.slice (some ad237) l1_4.length c1_4) ∧ w'.cell? (ad237.add ((x12_4).toNat * 2)) = some (.int .i64 ((rd_T33 l1_4 x12_4).f0)) ∧ w'.cell? ⟨(ad237.add ((x12_4).toNat * 2)).block, (ad237.add ((x12_4).toNat * 2)).off + 1, none⟩ = some (.int .i64 ((rd_T33 l1_4 x12_4).f1)) ∧ w'.cell? (ad237.add ((x12_4).toNat * 2)) = some (.int .i64 ((rd_T33 l1_4 x12_4).f0)) ∧ w'.cell? ⟨(ad237.add ((x12_4).toNat * 2)).block, (ad237.add ((x12_4).toNat * 2)).off + 1, none⟩ = some (.int .i64 ((rd_T33 l1_4 x12_4).f1))) (ds := [21]) (bA 22 0) (by kernel_rfl) rfl rfl ⟨(blk_cell BK219.out 0).trans rfl, (blk_cell BK219.out 1).trans rfl, (blk_cell BK219.out 2).trans rfl, (blk_cell BK219.out 3).trans rfl, (blk_cell BK219.out 4).trans rfl, (blk_cell BK214.out 0).trans rfl, (blk_cell BK214.out 1).trans rfl, (blk_cell BK214.out 2).trans rfl, (blk_cell BK214.out 3).trans rfl, (blk_cell BK214.out 4).trans rfl, ((HB.out.cell (World.block_lt_of_cell? w _ hw237_0)).trans hw237_0), ((HB.out.cell (World.block_lt_of_cell? w _ hw237_1)).trans hw237_1), ((HB.out.cell (World.block_lt_of_cell? w _ hw238_0)).trans hw238_0), ((HB.out.cell (World.block_lt_of_cell? w _ hw238_1)).trans hw238_1)⟩ (fun hHeld => ?_); refine with_tabW compositorlaw20_RiverMoves.tab16 compositorlaw20_RiverMoves.bits16 (fun HT_ HW_ => ?_)
               generalize wr.drew = w103 at HO_219004 HO_220004 BK213 BK214 BK218 BK219 HB hx237_0 hx237_1 hx238_0 hx238_1 hHeld ⊢
               refine pure_ (i := 0) (N := some 129) (v := ?_) (a' := ?_) (bA 22 1) rfl rfl (any_of HT_.out (by kernel_rfl)) (fun _ _ _ h => h) (Or.inl ⟨by rfl, ?_⟩) ?_ ?_; rotate_left; intro w'; go_simp; with_reducible rfl; rotate_left; simp only [Act.put, List.setIfInBounds_toArray, List.set_cons_zero, List.set_cons_succ, i64_w, i32_w]; rfl
               refine pure_ (i := 2) (N := some 131) (v := ?_) (a' := ?_) (bA 22 5) rfl rfl (any_of HT_.out (by kernel_rfl)) (fun _ _ _ h => h) (Or.inl ⟨by rfl, ?_⟩) ?_ ?_; rotate_left; intro w'; go_simp; with_reducible rfl; rotate_left; simp only [Act.put, List.setIfInBounds_toArray, List.set_cons_zero, List.set_cons_succ, i64_w, i32_w]; rfl
               refine pure_ (i := 4) (N := some 133) (v := ?_) (a' := ?_) (bA 22 21) rfl rfl (any_of HT_.out (by kernel_rfl)) (fun _ _ _ h => h) (Or.inl ⟨by rfl, ?_⟩) ?_ ?_; rotate_left; intro w'; go_simp; with_reducible rfl; rotate_left; simp only [Act.put, List.setIfInBounds_toArray, List.set_cons_zero, List.set_cons_succ, i64_w, i32_w]; rfl
               refine pure_ (i := 8) (N := some 137) (v := ?_) (a' := ?_) (bA 22 277) rfl rfl (any_of HT_.out (by kernel_rfl)) (fun _ _ _ h => h) (Or.inl ⟨by rfl, ?_⟩) ?_ ?_; rotate_left; intro w'; go_simp; with_reducible rfl; rotate_left; simp only [Act.put, List.setIfInBounds_toArray, List.set_cons_zero, List.set_cons_succ, i64_w, i32_w]; rfl
               refine pure_ (i := 10) (N := some 139) (v := ?_) (a' := ?_) (bA 22 1301) rfl rfl (any_of HT_.out (by kernel_rfl)) (fun _ _ _ h => h) (Or.inl ⟨by rfl, ?_⟩) ?_ ?_; rotate_left; intro w'; go_simp; with_reducible rfl; rotate_left; simp only [Act.put, List.setIfInBounds_toArray, List.set_cons_zero, List.set_cons_succ, i64_w, i32_w]; rfl
               refine pure_ (i := 14) (N := some 143) (v := ?_) (a' := ?_) (bA 22 17685) rfl rfl (any_of HT_.out (by kernel_rfl)) (fun _ _ _ h => h) (Or.inl ⟨by rfl, ?_⟩) ?_ ?_; rotate_left; intro w'; go_simp; with_reducible rfl; rotate_left; simp only [Act.put, List.setIfInBounds_toArray, List.set_cons_zero, List.set_cons_succ, i64_w, i32_w]; rfl
               refine pure_ (i := 15) (N := some 144) (v := ?_) (a' := ?_) (bA 22 50453) rfl rfl (any_of HT_.out (by kernel_rfl)) (fun _ _ _ h => h) (Or.inl ⟨by rfl, ?_⟩) ?_ ?_; rotate_left; intro w'; go_simp; with_reducible rfl; rotate_left; simp only [Act.put, List.setIfInBounds_toArray, List.set_cons_zero, List.set_cons_succ, i64_w, i32_w]; rfl
               refine take_ (i := 1) (N := some 130) (v := ?_) (a' := ?_) (bA 22 50455) rfl rfl (take_ofW HT_.out HW_.out (by kernel_rfl)) (fun _ _ _ h => h) (Or.inl ⟨by rfl, ?_⟩) hHeld ?_ ?_; rotate_left; rintro w' ⟨s0, s1, s2, s3, s4, s5, s6, s7, s8, s9, s10, s11, s12, s13⟩; go_simp; with_reducible rfl; rotate_left; simp only [Act.put, List.setIfInBounds_toArray, List.set_cons_zero, List.set_cons_succ, i64_w, i32_w]; rfl
               refine take_ (i := 3) (N := some 132) (v := ?_) (a' := ?_) (bA 22 50463) rfl rfl (take_ofW HT_.out HW_.out (by kernel_rfl)) (fun _ _ _ h => h) (Or.inl ⟨by rfl, ?_⟩) hHeld ?_ ?_; rotate_left; rintro w' ⟨s0, s1, s2, s3, s4, s5, s6, s7, s8, s9, s10, s11, s12, s13⟩; go_simp; with_reducible rfl; rotate_left; simp only [Act.put, List.setIfInBounds_toArray, List.set_cons_zero, List.set_cons_succ, i64_w, i32_w]; rfl
               refine pure_ (i := 5) (N := some 134) (v := ?_) (a' := ?_) (bA 22 50495) rfl rfl (any_of HT_.out (by kernel_rfl)) (fun _ _ _ h => h) (Or.inl ⟨by rfl, ?_⟩) ?_ ?_; rotate_left; intro w'; go_simp; with_reducible rfl; rotate_left; simp only [Act.put, List.setIfInBounds_toArray, List.set_cons_zero, List.set_cons_succ, i64_w, i32_w]; rfl
               refine pure_ (i := 6) (N := some 135) (v := ?_) (a' := ?_) (bA 22 50559) rfl rfl (any_of HT_.out (by kernel_rfl)) (fun _ _ _ h => h) (Or.inl ⟨by rfl, ?_⟩) ?_ ?_; rotate_left; intro w'; go_simp; with_reducible rfl; rotate_left; simp only [Act.put, List.setIfInBounds_toArray, List.set_cons_zero, List.set_cons_succ, i64_w, i32_w]; rfl
               refine take_ (i := 7) (N := some 136) (v := ?_) (a' := ?_) (bA 22 50687) rfl rfl (take_ofW HT_.out HW_.out (by kernel_rfl)) (fun _ _ _ h => h) (Or.inl ⟨by rfl, ?_⟩) hHeld ?_ ?_; rotate_left; rintro w' ⟨s0, s1, s2, s3, s4, s5, s6, s7, s8, s9, s10, s11, s12, s13⟩; go_simp; with_reducible rfl; rotate_left; simp only [Act.put, List.setIfInBounds_toArray, List.set_cons_zero, List.set_cons_succ, i64_w, i32_w]; rfl
               refine take_ (i := 9) (N := some 138) (v := ?_) (a' := ?_) (bA 22 51199) rfl rfl (take_ofW HT_.out HW_.out (by kernel_rfl)) (fun _ _ _ h => h) (Or.inl ⟨by rfl, ?_⟩) hHeld ?_ ?_; rotate_left; rintro w' ⟨s0, s1, s2, s3, s4, s5, s6, s7, s8, s9, s10, s11, s12, s13⟩; go_simp; with_reducible rfl; rotate_left; simp only [Act.put, List.setIfInBounds_toArray, List.set_cons_zero, List.set_cons_succ, i64_w, i32_w]; rfl
               refine pure_ (i := 11) (N := some 140) (v := ?_) (a' := ?_) (bA 22 53247) rfl rfl (any_of HT_.out (by kernel_rfl)) (fun _ _ _ h => h) (Or.inl ⟨by rfl, ?_⟩) ?_ ?_; rotate_left; intro w'; go_simp; with_reducible rfl; rotate_left; simp only [Act.put, List.setIfInBounds_toArray, List.set_cons_zero, List.set_cons_succ, i64_w, i32_w]; rfl
               refine pure_ (i := 12) (N := some 141) (v := ?_) (a' := ?_) (bA 22 57343) rfl rfl (any_of HT_.out (by kernel_rfl)) (fun _ _ _ h => h) (Or.inl ⟨by rfl, ?_⟩) ?_ ?_; rotate_left; intro w'; go_simp; with_reducible rfl; rotate_left; simp only [Act.put, List.setIfInBounds_toArray, List.set_cons_zero, List.set_cons_succ, i64_w, i32_w]; rfl
               refine take_ (i := 13) (N := some 142) (v := ?_) (a' := ?_) (bA 22 65535) rfl rfl (take_ofW HT_.out HW_.out (by kernel_rfl)) (fun _ _ _ h => h) (Or.inl ⟨by rfl, ?_⟩) hHeld ?_ ?_; rotate_left; rintro w' ⟨s0, s1, s2, s3, s4, s5, s6, s7, s8, s9, s10, s11, s12, s13⟩; go_simp; with_reducible rfl; rotate_left; simp only [Act.put, List.setIfInBounds_toArray, List.set_cons_zero, List.set_cons_succ, i64_w, i32_w]; rfl
               refine pure_ (i := 16) (N := some 145) (v := ?_) (a' := ?_) (bA 22 131071) rfl rfl (any_of HT_.out (by kernel_rfl)) (fun _ _ _ h => h) (Or.inl ⟨by rfl, ?_⟩) ?_ ?_; rotate_left; intro w'; go_simp; with_reducible rfl; rotate_left; simp only [Act.put, List.setIfInBounds_toArray, List.set_cons_zero, List.set_cons_succ, i64_w, i32_w]; rfl
               refine pure_ (i := 17) (N := some 146) (v := ?_) (a' := ?_) (bA 22 262143) rfl rfl (any_of HT_.out (by kernel_rfl)) (fun _ _ _ h => h) (Or.inl ⟨by rfl, ?_⟩) ?_ ?_; rotate_left; intro w'; go_simp; with_reducible rfl; rotate_left; simp only [Act.put, List.setIfInBounds_toArray, List.set_cons_zero, List.set_cons_succ, i64_w, i32_w]; rfl
               refine one_ (i := 18) (N := some 147) (bA 22 524287) rfl rfl (one_of HT_.out (by kernel_rfl)) (by decide) (fun K hK => ?_)
               refine value_ (w1 := ?_) (v := ?_) (by rfl) rfl ?_ ?_
               rotate_left 2
               ·go_simp
                constructor
                ·rfl
                ·rfl
               refine hK.out _ _ ⟨(blk_cell (blk_alloc BK219.out _) 0).trans rfl, (blk_cell (blk_alloc BK219.out _) 1).trans rfl, (blk_cell (blk_alloc BK219.out _) 2).trans rfl, (blk_cell (blk_alloc BK219.out _) 3).trans rfl, (blk_cell (blk_alloc BK219.out _) 4).trans rfl, (blk_cell (blk_alloc BK214.out _) 0).trans rfl, (blk_cell (blk_alloc BK214.out _) 1).trans rfl, (blk_cell (blk_alloc BK214.out _) 2).trans rfl, (blk_cell (blk_alloc BK214.out _) 3).trans rfl, (blk_cell (blk_alloc BK214.out _) 4).trans rfl, (World.cell?_alloc_lt _ _ _ (World.block_lt_of_cell? _ _ (((HB.out.cell (World.block_lt_of_cell? w _ hw237_0)).trans hw237_0)))).trans (((HB.out.cell (World.block_lt_of_cell? w _ hw237_0)).trans hw237_0)), (World.cell?_alloc_lt _ _ _ (World.block_lt_of_cell? _ _ (((HB.out.cell (World.block_lt_of_cell? w _ hw237_1)).trans hw237_1)))).trans (((HB.out.cell (World.block_lt_of_cell? w _ hw237_1)).trans hw237_1)), (World.cell?_alloc_lt _ _ _ (World.block_lt_of_cell? _ _ (((HB.out.cell (World.block_lt_of_cell? w _ hw238_0)).trans hw238_0)))).trans (((HB.out.cell (World.block_lt_of_cell? w _ hw238_0)).trans hw238_0)), (World.cell?_alloc_lt _ _ _ (World.block_lt_of_cell? _ _ (((HB.out.cell (World.block_lt_of_cell? w _ hw238_1)).trans hw238_1)))).trans (((HB.out.cell (World.block_lt_of_cell? w _ hw238_1)).trans hw238_1))⟩ (fun hHeld => ?_)
               clear hK K
               refine norm_ (a' := ?_) ?_ ?_
               rotate_left
               ·show Act.put _ (some 147) _ = _
                simp only [Act.put, List.setIfInBounds_toArray, List.set_cons_zero, List.set_cons_succ, i64_w, i32_w]
                rfl
               refine one_ (i := 19) (N := some 148) (bA 22 1048575) rfl rfl (one_of HT_.out (by kernel_rfl)) (by decide) (fun K hK => ?_)
               refine Kd.R_append_step k33 (w0 := w) w.heap.size (by rfl) (.tmp 130) (.tmp 147) 22 33 (.agg #[(.int .i64 0), (.int .i64 0)]) 16 rfl Try.underlying22 info33 rfl (by decide) (by omega) u220004 x220004_4 (⟨(rd_T33 l1_4 x12_4).f0, wrap64 (((rd_T33 l1_4 x12_4).f1) + (wrap64 (a2)))⟩ : S33) [.int .i64 ((rd_T33 l1_4 x12_4).f0), .int .i64 (wrap64 (((rd_T33 l1_4 x12_4).f1) + (wrap64 (a2))))] (fun k_ => some k_ ≠ (u219004 : Value).ownBlock) (fun _ => False) rfl rfl ?aP (fun _ hk => hk.elim) ?aF ?aO ?aB ?aS ?aL ?_
               (case aP => exact k33_mkM _ _ _ (⟨(rd_T33 l1_4 x12_4).f0, wrap64 (((rd_T33 l1_4 x12_4).f1) + (wrap64 (a2)))⟩ : S33))
               (case aB => exact (by repeat (first | (with_reducible first | exact HB.out | apply below_alloc | apply pw_below_drewN | apply below_drew1 | refine below_set ?_ GE213.out | refine below_set ?_ GE214.out | refine below_set ?_ GE218.out | refine below_set ?_ GE219.out) | exact HB.out)))
               (case aF => exact (fun k_ hk => Kd.fresh' (Kd.R_lt (by (with_reducible repeat (first | apply Kd.R_alloc | apply Kd.R_drewN | apply Kd.R_drew)); exact HO_219004.out)) k_ hk))
               (case aO => exact (by (with_reducible repeat (first | apply Kd.R_alloc | apply Kd.R_drewN | apply Kd.R_drew)); exact HO_220004.out))
               (case aS => exact (below_size (by repeat (first | (with_reducible first | exact HB.out | apply below_alloc | apply pw_below_drewN | apply below_drew1 | refine below_set ?_ GE213.out | refine below_set ?_ GE214.out | refine below_set ?_ GE218.out | refine below_set ?_ GE219.out) | exact HB.out))))
               (case aL => have := LMc98.out; omega)
               intro v240 w104 ho hb hg hat
               rw [← Ny239.out] at ho
               have n0_ := Aside0.mk (Kd.R_after (ok := (fun _ => True)) (by (with_reducible repeat (first | apply Kd.R_alloc | apply Kd.R_drewN | apply Kd.R_drew)); exact Kd.R_mono HO_219004.out (fun _ hk => ⟨trivial, hk⟩)) hg hat)
               have n1_ := Aside0.mk (blk_grown (g := gb213) (o := .cells #[.int .i64 a0_0, .int .i64 a0_1, .int .i64 a0_2, .int .i64 a0_3, .slice A0_4 l0_4.length c0_4] 24 (0, 0)) (by (with_reducible repeat (first | refine blk_drewN ?_ _ | refine blk_drew ?_ | refine blk_alloc ?_ _)); exact BK213.out) hg (Kd.R_ne HO_220004.out BK213.out (by decide)))
               have n2_ := Aside0.mk (blk_grown (g := gb214) (o := .cells #[.int .i64 a1_0, .int .i64 a1_1, .int .i64 a1_2, .int .i64 a1_3, .slice (some ad237) l1_4.length c1_4] 24 (0, 0)) (by (with_reducible repeat (first | refine blk_drewN ?_ _ | refine blk_drew ?_ | refine blk_alloc ?_ _)); exact BK214.out) hg (Kd.R_ne HO_220004.out BK214.out (by decide)))
               have n3_ := Aside0.mk (blk_grown (g := gb218) (o := .cells #[.int .i64 0, .int .i64 0, .int .i64 (wrap64 (a0_2 + (wrap64 (a2)))), .int .i64 0, u219004] 24 (0, 0)) (by (with_reducible repeat (first | refine blk_drewN ?_ _ | refine blk_drew ?_ | refine blk_alloc ?_ _)); exact BK218.out) hg (Kd.R_ne HO_220004.out BK218.out (by decide)))
               have n4_ := Aside0.mk (blk_grown (g := gb219) (o := .cells #[.int .i64 0, .int .i64 0, .int .i64 (wrap64 (a1_2 + (wrap64 (a2)))), .int .i64 0, u220004] 24 (0, 0)) (by (with_reducible repeat (first | refine blk_drewN ?_ _ | refine blk_drew ?_ | refine blk_alloc ?_ _)); exact BK219.out) hg (Kd.R_ne HO_220004.out BK219.out (by decide)))
               have n5_ := Aside0.mk (hb)
               have n6_ := Aside0.mk (ho)
               clear HO_219004
               clear BK213
               clear BK214
               clear BK218
               clear BK219
               clear HB
               clear HO_220004
               have HO_219004 := n0_
               have BK213 := n1_
               have BK214 := n2_
               have BK218 := n3_
               have BK219 := n4_
               have HB := n5_
               have HO241 := n6_
               clear n0_ n1_ n2_ n3_ n4_ n5_ n6_
               clear ho hb hg hat
               obtain ⟨Ao105, co105, eo105⟩ := Kd.R_slice HO241.out
               (first | subst eo105 | (injection eo105 with f1_ f2_ f3_; have f4_ := f1_.symm; have f5_ := f3_.symm; clear f1_ f2_ f3_; subst f4_; subst f5_))
               refine hK.out _ _ ⟨(blk_cell BK219.out 0).trans rfl, (blk_cell BK219.out 1).trans rfl, (blk_cell BK219.out 2).trans rfl, (blk_cell BK219.out 3).trans rfl, (blk_cell BK219.out 4).trans rfl, (blk_cell BK214.out 0).trans rfl, (blk_cell BK214.out 1).trans rfl, (blk_cell BK214.out 2).trans rfl, (blk_cell BK214.out 3).trans rfl, (blk_cell BK214.out 4).trans rfl, ((HB.out.cell (World.block_lt_of_cell? w _ hw237_0)).trans hw237_0), ((HB.out.cell (World.block_lt_of_cell? w _ hw237_1)).trans hw237_1), ((HB.out.cell (World.block_lt_of_cell? w _ hw238_0)).trans hw238_0), ((HB.out.cell (World.block_lt_of_cell? w _ hw238_1)).trans hw238_1)⟩ (fun hHeld => ?_)
               clear hK K
               refine norm_ (a' := ?_) ?_ ?_
               rotate_left
               ·show Act.put _ (some 148) _ = _
                simp only [Act.put, List.setIfInBounds_toArray, List.set_cons_zero, List.set_cons_succ, i64_w, i32_w]
                rfl
               refine pure_ (i := 20) (N := some 149) (v := ?_) (a' := ?_) (bA 22 2097151) rfl rfl (any_of HT_.out (by kernel_rfl)) (fun _ _ _ h => h) (Or.inl ⟨by rfl, ?_⟩) ?_ ?_; rotate_left; intro w'; go_simp; with_reducible rfl; rotate_left; simp only [Act.put, List.setIfInBounds_toArray, List.set_cons_zero, List.set_cons_succ, i64_w, i32_w]; rfl
               refine last_ (i := 21) (N := none) (bA 22 4194303) rfl rfl (one_of HT_.out (by kernel_rfl)) (by decide) (fun K hK => ?_)
               have hs106 : w104.cell? ⟨gb219, 4, none⟩ = some (u220004) := (blk_cell BK219.out 4).trans rfl
               have hfs106 := blk_frozen BK219.out 4
               have hns106_0 := NB213_219.out
               have hns106_1 := NB214_219.out
               have hns106_2 := NB218_219.out
               have hms106_0 := NB219_213.out
               have hms106_1 := NB219_214.out
               have hms106_2 := NB219_218.out
               refine skip_ (w1 := ?_) (by rfl) rfl ?_ ?_
               rotate_left
               ·go_simp
                rfl
               refine hK.out _ _ ?_
               clear hK K
               refine done_ (done_of HT_.out (by kernel_rfl)) ?_
               try go_wp2
               go_roundg k4
               case measure => have := HJ4.out; have := HJ20.out; have := HK3.out; have := HK4.out; omega
               case rel => exact ⟨(true), (wrap64 (x12_4 + 1)), (y239), (.slice Ao105 y239.length co105), (by first | rfl | (simp; done) | (simp [*]; done)), (by first | rfl | (simp; done) | (simp [*]; done)), H', ⟨by have := HJ4.out; have := HJ20.out; have := HK3.out; have := HK4.out; omega⟩, ⟨by (with_reducible repeat (first | apply Kd.R_alloc | apply Kd.R_drewN | apply Kd.R_drew)); exact Kd.R_mono (Kd.R_far (p := ⟨gb219, 4, none⟩) (Kd.R_types HO_219004.out BK219.out (by decide)) (fun _ hk => hk.2) (.slice Ao105 y239.length co105)) (fun _ hk => hk.1.2)⟩, ⟨by (with_reducible repeat (first | apply Kd.R_alloc | apply Kd.R_drewN | apply Kd.R_drew)); exact Kd.R_mono (Kd.R_far (p := ⟨gb219, 4, none⟩) (Kd.R_types HO241.out BK219.out (by decide)) (fun _ hk => hk.2) (.slice Ao105 y239.length co105)) (fun _ hk => hk.1)⟩, ⟨by (with_reducible repeat (first | refine blk_drewN ?_ _ | refine blk_drew ?_ | refine blk_alloc ?_ _)); refine blk_far ?_ NB213_219.out _; (with_reducible repeat (first | refine blk_drewN ?_ _ | refine blk_drew ?_ | refine blk_alloc ?_ _)); exact BK213.out⟩, ⟨by (with_reducible repeat (first | refine blk_drewN ?_ _ | refine blk_drew ?_ | refine blk_alloc ?_ _)); refine blk_far ?_ NB214_219.out _; (with_reducible repeat (first | refine blk_drewN ?_ _ | refine blk_drew ?_ | refine blk_alloc ?_ _)); exact BK214.out⟩, ⟨by (with_reducible repeat (first | refine blk_drewN ?_ _ | refine blk_drew ?_ | refine blk_alloc ?_ _)); refine blk_far ?_ NB218_219.out _; (with_reducible repeat (first | refine blk_drewN ?_ _ | refine blk_drew ?_ | refine blk_alloc ?_ _)); exact BK218.out⟩, ⟨by (with_reducible repeat (first | refine blk_drewN ?_ _ | refine blk_drew ?_ | refine blk_alloc ?_ _)); refine blk_put (cs := #[.int .i64 0, .int .i64 0, .int .i64 (wrap64 (a1_2 + (wrap64 (a2)))), .int .i64 0, u220004]) ?_ 4 _ rfl; (with_reducible repeat (first | refine blk_drewN ?_ _ | refine blk_drew ?_ | refine blk_alloc ?_ _)); exact BK219.out⟩, ⟨by repeat (first | (with_reducible first | exact HB.out | apply below_alloc | apply pw_below_drewN | apply below_drew1 | refine below_set ?_ GE213.out | refine below_set ?_ GE214.out | refine below_set ?_ GE218.out | refine below_set ?_ GE219.out) | exact HB.out)⟩⟩
              ·rw [if_neg c98] at H
               exact absurd H (by simp)
             ·rw [if_neg c97] at H
              exact absurd H (by simp)
            ·replace c96 := Bool.eq_false_iff.mpr c96
             subst c96
             have H1 : (if 0 ≤ x12_4 then (if ((rd_T33 l1_4 x12_4).f1) > 1099511627776 then (if x220004_4.length < 8796093022208 then (compositorlaw20_RiverMoves.l1 k4 a2 t215 true (wrap64 (x12_4 + 1)) a0_0 a0_1 a0_2 a0_3 l0_4 a1_0 a1_1 a1_2 a1_3 l1_4 0 0 (wrap64 (a0_2 + (wrap64 (a2)))) 0 x219004_3 0 0 (wrap64 (a1_2 + (wrap64 (a2)))) 0 (x220004_4 ++ [(⟨(rd_T33 l1_4 x12_4).f0, wrap64 (((rd_T33 l1_4 x12_4).f1) + (wrap64 (a2)))⟩ : S33)])) else (none)) else (if x220004_4.length < 8796093022208 then (compositorlaw20_RiverMoves.l1 k4 a2 t215 (decide (((rd_T33 l1_4 x12_4).f1) < (-1099511627776))) (wrap64 (x12_4 + 1)) a0_0 a0_1 a0_2 a0_3 l0_4 a1_0 a1_1 a1_2 a1_3 l1_4 0 0 (wrap64 (a0_2 + (wrap64 (a2)))) 0 x219004_3 0 0 (wrap64 (a1_2 + (wrap64 (a2)))) 0 (x220004_4 ++ [(⟨(rd_T33 l1_4 x12_4).f0, wrap64 (((rd_T33 l1_4 x12_4).f1) + (wrap64 (a2)))⟩ : S33)])) else (none))) else (none)) = some r := by rw [if_neg (show ¬ (false = true) by decide)] at H; exact H
             clear H
             have H := H1
             clear H1
             by_cases c107 : 0 ≤ x12_4
             ·rw [if_pos c107] at H
              have c107b0 : decide (0 ≤ x12_4) = true := decide_eq_true c107
              clear c107
              by_cases c108 : ((rd_T33 l1_4 x12_4).f1) > 1099511627776
              ·rw [if_pos c108] at H
               have c108b0 : decide (1099511627776 < ((rd_T33 l1_4 x12_4).f1)) = true := decide_eq_true c108
               clear c108
               by_cases c109 : x220004_4.length < 8796093022208
               ·rw [if_pos c109] at H
                have LMc109 := Aside0.mk c109
                clear c109
                obtain ⟨y245, hy245⟩ : ∃ y_ : List (S33), y_ = (x220004_4 ++ [(⟨(rd_T33 l1_4 x12_4).f0, wrap64 (((rd_T33 l1_4 x12_4).f1) + (wrap64 (a2)))⟩ : S33)]) := ⟨_, rfl⟩
                replace H : (compositorlaw20_RiverMoves.l1 k4 a2 t215 true (wrap64 (x12_4 + 1)) a0_0 a0_1 a0_2 a0_3 l0_4 a1_0 a1_1 a1_2 a1_3 l1_4 0 0 (wrap64 (a0_2 + (wrap64 (a2)))) 0 x219004_3 0 0 (wrap64 (a1_2 + (wrap64 (a2)))) 0 y245) = some r := by first | (rw [hy245]; with_reducible exact H) | (have H2_ := (Option.bind_some _ _).symm.trans H; rw [hy245]; with_reducible exact H2_) | (have H2_ := (Option.bind_some _ _).symm.trans H; with_reducible exact H2_) | with_reducible exact H | (rw [hy245]; exact H) | exact H
                have Ny245 := Aside0.mk hy245
                clear hy245
                have H' := Aside0.mk H
                clear H
                have hnb110 := NB214_213.out
                have hnc110 := NB213_214.out
                have hnb111 := NB214_218.out
                have hnc111 := NB218_214.out
                have hnb112 := NB214_219.out
                have hnc112 := NB219_214.out
                have hcz113_0 : wr.cell? ⟨gb214, 0, none⟩ = some (.int .i64 a1_0) := (blk_cell BK214.out 0).trans rfl
                have hcz113_1 : wr.cell? ⟨gb214, 1, none⟩ = some (.int .i64 a1_1) := (blk_cell BK214.out 1).trans rfl
                have hcz113_2 : wr.cell? ⟨gb214, 2, none⟩ = some (.int .i64 a1_2) := (blk_cell BK214.out 2).trans rfl
                have hcz113_3 : wr.cell? ⟨gb214, 3, none⟩ = some (.int .i64 a1_3) := (blk_cell BK214.out 3).trans rfl
                have hcz113_4 : wr.cell? ⟨gb214, 4, none⟩ = some (.slice A1_4 l1_4.length c1_4) := (blk_cell BK214.out 4).trans rfl
                have hfz113_0 := blk_frozen BK214.out 0
                have hfz113_1 := blk_frozen BK214.out 1
                have hfz113_2 := blk_frozen BK214.out 2
                have hfz113_3 := blk_frozen BK214.out 3
                have hfz113_4 := blk_frozen BK214.out 4
                have p242 : 0 ≤ (x12_4 : Int) := odt
                have q242 : x12_4 < (l1_4.length : Int) := odt
                obtain ⟨ad242, e242, hx242_0, hx242_1⟩ := at_T33 HR1_4.out x12_4 p242 q242
                cases e242
                replace hx242_0 := (HB.out.cell (World.block_lt_of_cell? w _ hx242_0)).trans hx242_0
                replace hx242_1 := (HB.out.cell (World.block_lt_of_cell? w _ hx242_1)).trans hx242_1
                replace p242 := eq_true p242
                replace q242 := eq_true q242
                try go_wp2
                have n0_ := Aside0.mk (Kd.R_drew HO_219004.out)
                have n1_ := Aside0.mk (Kd.R_drew HO_220004.out)
                have n2_ := Aside0.mk (blk_drew BK213.out)
                have n3_ := Aside0.mk (blk_drew BK214.out)
                have n4_ := Aside0.mk (blk_drew BK218.out)
                have n5_ := Aside0.mk (blk_drew BK219.out)
                have n6_ := Aside0.mk (below_drew1 HB.out)
                clear HO_219004
                clear HO_220004
                clear BK213
                clear BK214
                clear BK218
                clear BK219
                clear HB
                have HO_219004 := n0_
                have HO_220004 := n1_
                have BK213 := n2_
                have BK214 := n3_
                have BK218 := n4_
                have BK219 := n5_
                have HB := n6_
                clear n0_ n1_ n2_ n3_ n4_ n5_ n6_
                have p243 : 0 ≤ (x12_4 : Int) := odt
                have q243 : x12_4 < (l1_4.length : Int) := odt
                obtain ⟨ad243, e243, hx243_0, hx243_1⟩ := at_T33 HR1_4.out x12_4 p243 q243
                have hw243_1 := hx243_1
                have hw243_0 := hx243_0
                obtain rfl : ad242 = ad243 := (by injection e243)
                replace hx243_0 := (HB.out.cell (World.block_lt_of_cell? w _ hx243_0)).trans hx243_0
                replace hx243_1 := (HB.out.cell (World.block_lt_of_cell? w _ hx243_1)).trans hx243_1
                replace p243 := eq_true p243
                replace q243 := eq_true q243
                have p244 : 0 ≤ (x12_4 : Int) := odt
                have q244 : x12_4 < (l1_4.length : Int) := odt
                obtain ⟨ad244, e244, hx244_0, hx244_1⟩ := at_T33 HR1_4.out x12_4 p244 q244
                have hw244_1 := hx244_1
                have hw244_0 := hx244_0
                obtain rfl : ad242 = ad244 := (by injection e244)
                replace hx244_0 := (HB.out.cell (World.block_lt_of_cell? w _ hx244_0)).trans hx244_0
                replace hx244_1 := (HB.out.cell (World.block_lt_of_cell? w _ hx244_1)).trans hx244_1
                replace p244 := eq_true p244
                replace q244 := eq_true q244
                refine start_ (n := 22) (S := fun w' => w'.cell? ⟨gb219, 0, none⟩ = some (.int .i64 0) ∧ w'.cell? ⟨gb219, 1, none⟩ = some (.int .i64 0) ∧ w'.cell? ⟨gb219, 2, none⟩ = some (.int .i64 (wrap64 (a1_2 + (wrap64 (a2))))) ∧ w'.cell? ⟨gb219, 3, none⟩ = some (.int .i64 0) ∧ w'.cell? ⟨gb219, 4, none⟩ = some (u220004) ∧ w'.cell? ⟨gb214, 0, none⟩ = some (.int .i64 a1_0) ∧ w'.cell? ⟨gb214, 1, none⟩ = some (.int .i64 a1_1) ∧ w'.cell? ⟨gb214, 2, none⟩ = some (.int .i64 a1_2) ∧ w'.cell? ⟨gb214, 3, none⟩ = some (.int .i64 a1_3) ∧ w'.cell? ⟨gb214, 4, none⟩ = some (.slice (some ad242) l1_4.length c1_4) ∧ w'.cell? (ad242.add ((x12_4).toNat * 2)) = some (.int .i64 ((rd_T33 l1_4 x12_4).f0)) ∧ w'.cell? ⟨(ad242.add ((x12_4).toNat * 2)).block, (ad242.add ((x12_4).toNat * 2)).off + 1, none⟩ = some (.int .i64 ((rd_T33 l1_4 x12_4).f1)) ∧ w'.cell? (ad242.add ((x12_4).toNat * 2)) = some (.int .i64 ((rd_T33 l1_4 x12_4).f0)) ∧ w'.cell? ⟨(ad242.add ((x12_4).toNat * 2)).block, (ad242.add ((x12_4).toNat * 2)).off + 1, none⟩ = some (.int .i64 ((rd_T33 l1_4 x12_4).f1))) (ds := [21]) (bA 22 0) (by kernel_rfl) rfl rfl ⟨(blk_cell BK219.out 0).trans rfl, (blk_cell BK219.out 1).trans rfl, (blk_cell BK219.out 2).trans rfl, (blk_cell BK219.out 3).trans rfl, (blk_cell BK219.out 4).trans rfl, (blk_cell BK214.out 0).trans rfl, (blk_cell BK214.out 1).trans rfl, (blk_cell BK214.out 2).trans rfl, (blk_cell BK214.out 3).trans rfl, (blk_cell BK214.out 4).trans rfl, ((HB.out.cell (World.block_lt_of_cell? w _ hw243_0)).trans hw243_0), ((HB.out.cell (World.block_lt_of_cell? w _ hw243_1)).trans hw243_1), ((HB.out.cell (World.block_lt_of_cell? w _ hw244_0)).trans hw244_0), ((HB.out.cell (World.block_lt_of_cell? w _ hw244_1)).trans hw244_1)⟩ (fun hHeld => ?_); refine with_tabW compositorlaw20_RiverMoves.tab16 compositorlaw20_RiverMoves.bits16 (fun HT_ HW_ => ?_)
                generalize wr.drew = w114 at HO_219004 HO_220004 BK213 BK214 BK218 BK219 HB hx243_0 hx243_1 hx244_0 hx244_1 hHeld ⊢
                refine pure_ (i := 0) (N := some 129) (v := ?_) (a' := ?_) (bA 22 1) rfl rfl (any_of HT_.out (by kernel_rfl)) (fun _ _ _ h => h) (Or.inl ⟨by rfl, ?_⟩) ?_ ?_; rotate_left; intro w'; go_simp; with_reducible rfl; rotate_left; simp only [Act.put, List.setIfInBounds_toArray, List.set_cons_zero, List.set_cons_succ, i64_w, i32_w]; rfl
                refine pure_ (i := 2) (N := some 131) (v := ?_) (a' := ?_) (bA 22 5) rfl rfl (any_of HT_.out (by kernel_rfl)) (fun _ _ _ h => h) (Or.inl ⟨by rfl, ?_⟩) ?_ ?_; rotate_left; intro w'; go_simp; with_reducible rfl; rotate_left; simp only [Act.put, List.setIfInBounds_toArray, List.set_cons_zero, List.set_cons_succ, i64_w, i32_w]; rfl
                refine pure_ (i := 4) (N := some 133) (v := ?_) (a' := ?_) (bA 22 21) rfl rfl (any_of HT_.out (by kernel_rfl)) (fun _ _ _ h => h) (Or.inl ⟨by rfl, ?_⟩) ?_ ?_; rotate_left; intro w'; go_simp; with_reducible rfl; rotate_left; simp only [Act.put, List.setIfInBounds_toArray, List.set_cons_zero, List.set_cons_succ, i64_w, i32_w]; rfl
                refine pure_ (i := 8) (N := some 137) (v := ?_) (a' := ?_) (bA 22 277) rfl rfl (any_of HT_.out (by kernel_rfl)) (fun _ _ _ h => h) (Or.inl ⟨by rfl, ?_⟩) ?_ ?_; rotate_left; intro w'; go_simp; with_reducible rfl; rotate_left; simp only [Act.put, List.setIfInBounds_toArray, List.set_cons_zero, List.set_cons_succ, i64_w, i32_w]; rfl
                refine pure_ (i := 10) (N := some 139) (v := ?_) (a' := ?_) (bA 22 1301) rfl rfl (any_of HT_.out (by kernel_rfl)) (fun _ _ _ h => h) (Or.inl ⟨by rfl, ?_⟩) ?_ ?_; rotate_left; intro w'; go_simp; with_reducible rfl; rotate_left; simp only [Act.put, List.setIfInBounds_toArray, List.set_cons_zero, List.set_cons_succ, i64_w, i32_w]; rfl
                refine pure_ (i := 14) (N := some 143) (v := ?_) (a' := ?_) (bA 22 17685) rfl rfl (any_of HT_.out (by kernel_rfl)) (fun _ _ _ h => h) (Or.inl ⟨by rfl, ?_⟩) ?_ ?_; rotate_left; intro w'; go_simp; with_reducible rfl; rotate_left; simp only [Act.put, List.setIfInBounds_toArray, List.set_cons_zero, List.set_cons_succ, i64_w, i32_w]; rfl
                refine pure_ (i := 15) (N := some 144) (v := ?_) (a' := ?_) (bA 22 50453) rfl rfl (any_of HT_.out (by kernel_rfl)) (fun _ _ _ h => h) (Or.inl ⟨by rfl, ?_⟩) ?_ ?_; rotate_left; intro w'; go_simp; with_reducible rfl; rotate_left; simp only [Act.put, List.setIfInBounds_toArray, List.set_cons_zero, List.set_cons_succ, i64_w, i32_w]; rfl
                refine take_ (i := 1) (N := some 130) (v := ?_) (a' := ?_) (bA 22 50455) rfl rfl (take_ofW HT_.out HW_.out (by kernel_rfl)) (fun _ _ _ h => h) (Or.inl ⟨by rfl, ?_⟩) hHeld ?_ ?_; rotate_left; rintro w' ⟨s0, s1, s2, s3, s4, s5, s6, s7, s8, s9, s10, s11, s12, s13⟩; go_simp; with_reducible rfl; rotate_left; simp only [Act.put, List.setIfInBounds_toArray, List.set_cons_zero, List.set_cons_succ, i64_w, i32_w]; rfl
                refine take_ (i := 3) (N := some 132) (v := ?_) (a' := ?_) (bA 22 50463) rfl rfl (take_ofW HT_.out HW_.out (by kernel_rfl)) (fun _ _ _ h => h) (Or.inl ⟨by rfl, ?_⟩) hHeld ?_ ?_; rotate_left; rintro w' ⟨s0, s1, s2, s3, s4, s5, s6, s7, s8, s9, s10, s11, s12, s13⟩; go_simp; with_reducible rfl; rotate_left; simp only [Act.put, List.setIfInBounds_toArray, List.set_cons_zero, List.set_cons_succ, i64_w, i32_w]; rfl
                refine pure_ (i := 5) (N := some 134) (v := ?_) (a' := ?_) (bA 22 50495) rfl rfl (any_of HT_.out (by kernel_rfl)) (fun _ _ _ h => h) (Or.inl ⟨by rfl, ?_⟩) ?_ ?_; rotate_left; intro w'; go_simp; with_reducible rfl; rotate_left; simp only [Act.put, List.setIfInBounds_toArray, List.set_cons_zero, List.set_cons_succ, i64_w, i32_w]; rfl
                refine pure_ (i := 6) (N := some 135) (v := ?_) (a' := ?_) (bA 22 50559) rfl rfl (any_of HT_.out (by kernel_rfl)) (fun _ _ _ h => h) (Or.inl ⟨by rfl, ?_⟩) ?_ ?_; rotate_left; intro w'; go_simp; with_reducible rfl; rotate_left; simp only [Act.put, List.setIfInBounds_toArray, List.set_cons_zero, List.set_cons_succ, i64_w, i32_w]; rfl
                refine take_ (i := 7) (N := some 136) (v := ?_) (a' := ?_) (bA 22 50687) rfl rfl (take_ofW HT_.out HW_.out (by kernel_rfl)) (fun _ _ _ h => h) (Or.inl ⟨by rfl, ?_⟩) hHeld ?_ ?_; rotate_left; rintro w' ⟨s0, s1, s2, s3, s4, s5, s6, s7, s8, s9, s10, s11, s12, s13⟩; go_simp; with_reducible rfl; rotate_left; simp only [Act.put, List.setIfInBounds_toArray, List.set_cons_zero, List.set_cons_succ, i64_w, i32_w]; rfl
                refine take_ (i := 9) (N := some 138) (v := ?_) (a' := ?_) (bA 22 51199) rfl rfl (take_ofW HT_.out HW_.out (by kernel_rfl)) (fun _ _ _ h => h) (Or.inl ⟨by rfl, ?_⟩) hHeld ?_ ?_; rotate_left; rintro w' ⟨s0, s1, s2, s3, s4, s5, s6, s7, s8, s9, s10, s11, s12, s13⟩; go_simp; with_reducible rfl; rotate_left; simp only [Act.put, List.setIfInBounds_toArray, List.set_cons_zero, List.set_cons_succ, i64_w, i32_w]; rfl
                refine pure_ (i := 11) (N := some 140) (v := ?_) (a' := ?_) (bA 22 53247) rfl rfl (any_of HT_.out (by kernel_rfl)) (fun _ _ _ h => h) (Or.inl ⟨by rfl, ?_⟩) ?_ ?_; rotate_left; intro w'; go_simp; with_reducible rfl; rotate_left; simp only [Act.put, List.setIfInBounds_toArray, List.set_cons_zero, List.set_cons_succ, i64_w, i32_w]; rfl
                refine pure_ (i := 12) (N := some 141) (v := ?_) (a' := ?_) (bA 22 57343) rfl rfl (any_of HT_.out (by kernel_rfl)) (fun _ _ _ h => h) (Or.inl ⟨by rfl, ?_⟩) ?_ ?_; rotate_left; intro w'; go_simp; with_reducible rfl; rotate_left; simp only [Act.put, List.setIfInBounds_toArray, List.set_cons_zero, List.set_cons_succ, i64_w, i32_w]; rfl
                refine take_ (i := 13) (N := some 142) (v := ?_) (a' := ?_) (bA 22 65535) rfl rfl (take_ofW HT_.out HW_.out (by kernel_rfl)) (fun _ _ _ h => h) (Or.inl ⟨by rfl, ?_⟩) hHeld ?_ ?_; rotate_left; rintro w' ⟨s0, s1, s2, s3, s4, s5, s6, s7, s8, s9, s10, s11, s12, s13⟩; go_simp; with_reducible rfl; rotate_left; simp only [Act.put, List.setIfInBounds_toArray, List.set_cons_zero, List.set_cons_succ, i64_w, i32_w]; rfl
                refine pure_ (i := 16) (N := some 145) (v := ?_) (a' := ?_) (bA 22 131071) rfl rfl (any_of HT_.out (by kernel_rfl)) (fun _ _ _ h => h) (Or.inl ⟨by rfl, ?_⟩) ?_ ?_; rotate_left; intro w'; go_simp; with_reducible rfl; rotate_left; simp only [Act.put, List.setIfInBounds_toArray, List.set_cons_zero, List.set_cons_succ, i64_w, i32_w]; rfl
                refine pure_ (i := 17) (N := some 146) (v := ?_) (a' := ?_) (bA 22 262143) rfl rfl (any_of HT_.out (by kernel_rfl)) (fun _ _ _ h => h) (Or.inl ⟨by rfl, ?_⟩) ?_ ?_; rotate_left; intro w'; go_simp; with_reducible rfl; rotate_left; simp only [Act.put, List.setIfInBounds_toArray, List.set_cons_zero, List.set_cons_succ, i64_w, i32_w]; rfl
                refine one_ (i := 18) (N := some 147) (bA 22 524287) rfl rfl (one_of HT_.out (by kernel_rfl)) (by decide) (fun K hK => ?_)
                refine value_ (w1 := ?_) (v := ?_) (by rfl) rfl ?_ ?_
                rotate_left 2
                ·go_simp
                 constructor
                 ·rfl
                 ·rfl
                refine hK.out _ _ ⟨(blk_cell (blk_alloc BK219.out _) 0).trans rfl, (blk_cell (blk_alloc BK219.out _) 1).trans rfl, (blk_cell (blk_alloc BK219.out _) 2).trans rfl, (blk_cell (blk_alloc BK219.out _) 3).trans rfl, (blk_cell (blk_alloc BK219.out _) 4).trans rfl, (blk_cell (blk_alloc BK214.out _) 0).trans rfl, (blk_cell (blk_alloc BK214.out _) 1).trans rfl, (blk_cell (blk_alloc BK214.out _) 2).trans rfl, (blk_cell (blk_alloc BK214.out _) 3).trans rfl, (blk_cell (blk_alloc BK214.out _) 4).trans rfl, (World.cell?_alloc_lt _ _ _ (World.block_lt_of_cell? _ _ (((HB.out.cell (World.block_lt_of_cell? w _ hw243_0)).trans hw243_0)))).trans (((HB.out.cell (World.block_lt_of_cell? w _ hw243_0)).trans hw243_0)), (World.cell?_alloc_lt _ _ _ (World.block_lt_of_cell? _ _ (((HB.out.cell (World.block_lt_of_cell? w _ hw243_1)).trans hw243_1)))).trans (((HB.out.cell (World.block_lt_of_cell? w _ hw243_1)).trans hw243_1)), (World.cell?_alloc_lt _ _ _ (World.block_lt_of_cell? _ _ (((HB.out.cell (World.block_lt_of_cell? w _ hw244_0)).trans hw244_0)))).trans (((HB.out.cell (World.block_lt_of_cell? w _ hw244_0)).trans hw244_0)), (World.cell?_alloc_lt _ _ _ (World.block_lt_of_cell? _ _ (((HB.out.cell (World.block_lt_of_cell? w _ hw244_1)).trans hw244_1)))).trans (((HB.out.cell (World.block_lt_of_cell? w _ hw244_1)).trans hw244_1))⟩ (fun hHeld => ?_)
                clear hK K
                refine norm_ (a' := ?_) ?_ ?_
                rotate_left
                ·show Act.put _ (some 147) _ = _
                 simp only [Act.put, List.setIfInBounds_toArray, List.set_cons_zero, List.set_cons_succ, i64_w, i32_w]
                 rfl
                refine one_ (i := 19) (N := some 148) (bA 22 1048575) rfl rfl (one_of HT_.out (by kernel_rfl)) (by decide) (fun K hK => ?_)
                refine Kd.R_append_step k33 (w0 := w) w.heap.size (by rfl) (.tmp 130) (.tmp 147) 22 33 (.agg #[(.int .i64 0), (.int .i64 0)]) 16 rfl Try.underlying22 info33 rfl (by decide) (by omega) u220004 x220004_4 (⟨(rd_T33 l1_4 x12_4).f0, wrap64 (((rd_T33 l1_4 x12_4).f1) + (wrap64 (a2)))⟩ : S33) [.int .i64 ((rd_T33 l1_4 x12_4).f0), .int .i64 (wrap64 (((rd_T33 l1_4 x12_4).f1) + (wrap64 (a2))))] (fun k_ => some k_ ≠ (u219004 : Value).ownBlock) (fun _ => False) rfl rfl ?aP (fun _ hk => hk.elim) ?aF ?aO ?aB ?aS ?aL ?_
                (case aP => exact k33_mkM _ _ _ (⟨(rd_T33 l1_4 x12_4).f0, wrap64 (((rd_T33 l1_4 x12_4).f1) + (wrap64 (a2)))⟩ : S33))
                (case aB => exact (by repeat (first | (with_reducible first | exact HB.out | apply below_alloc | apply pw_below_drewN | apply below_drew1 | refine below_set ?_ GE213.out | refine below_set ?_ GE214.out | refine below_set ?_ GE218.out | refine below_set ?_ GE219.out) | exact HB.out)))
                (case aF => exact (fun k_ hk => Kd.fresh' (Kd.R_lt (by (with_reducible repeat (first | apply Kd.R_alloc | apply Kd.R_drewN | apply Kd.R_drew)); exact HO_219004.out)) k_ hk))
                (case aO => exact (by (with_reducible repeat (first | apply Kd.R_alloc | apply Kd.R_drewN | apply Kd.R_drew)); exact HO_220004.out))
                (case aS => exact (below_size (by repeat (first | (with_reducible first | exact HB.out | apply below_alloc | apply pw_below_drewN | apply below_drew1 | refine below_set ?_ GE213.out | refine below_set ?_ GE214.out | refine below_set ?_ GE218.out | refine below_set ?_ GE219.out) | exact HB.out))))
                (case aL => have := LMc109.out; omega)
                intro v246 w115 ho hb hg hat
                rw [← Ny245.out] at ho
                have n0_ := Aside0.mk (Kd.R_after (ok := (fun _ => True)) (by (with_reducible repeat (first | apply Kd.R_alloc | apply Kd.R_drewN | apply Kd.R_drew)); exact Kd.R_mono HO_219004.out (fun _ hk => ⟨trivial, hk⟩)) hg hat)
                have n1_ := Aside0.mk (blk_grown (g := gb213) (o := .cells #[.int .i64 a0_0, .int .i64 a0_1, .int .i64 a0_2, .int .i64 a0_3, .slice A0_4 l0_4.length c0_4] 24 (0, 0)) (by (with_reducible repeat (first | refine blk_drewN ?_ _ | refine blk_drew ?_ | refine blk_alloc ?_ _)); exact BK213.out) hg (Kd.R_ne HO_220004.out BK213.out (by decide)))
                have n2_ := Aside0.mk (blk_grown (g := gb214) (o := .cells #[.int .i64 a1_0, .int .i64 a1_1, .int .i64 a1_2, .int .i64 a1_3, .slice (some ad242) l1_4.length c1_4] 24 (0, 0)) (by (with_reducible repeat (first | refine blk_drewN ?_ _ | refine blk_drew ?_ | refine blk_alloc ?_ _)); exact BK214.out) hg (Kd.R_ne HO_220004.out BK214.out (by decide)))
                have n3_ := Aside0.mk (blk_grown (g := gb218) (o := .cells #[.int .i64 0, .int .i64 0, .int .i64 (wrap64 (a0_2 + (wrap64 (a2)))), .int .i64 0, u219004] 24 (0, 0)) (by (with_reducible repeat (first | refine blk_drewN ?_ _ | refine blk_drew ?_ | refine blk_alloc ?_ _)); exact BK218.out) hg (Kd.R_ne HO_220004.out BK218.out (by decide)))
                have n4_ := Aside0.mk (blk_grown (g := gb219) (o := .cells #[.int .i64 0, .int .i64 0, .int .i64 (wrap64 (a1_2 + (wrap64 (a2)))), .int .i64 0, u220004] 24 (0, 0)) (by (with_reducible repeat (first | refine blk_drewN ?_ _ | refine blk_drew ?_ | refine blk_alloc ?_ _)); exact BK219.out) hg (Kd.R_ne HO_220004.out BK219.out (by decide)))
                have n5_ := Aside0.mk (hb)
                have n6_ := Aside0.mk (ho)
                clear HO_219004
                clear BK213
                clear BK214
                clear BK218
                clear BK219
                clear HB
                clear HO_220004
                have HO_219004 := n0_
                have BK213 := n1_
                have BK214 := n2_
                have BK218 := n3_
                have BK219 := n4_
                have HB := n5_
                have HO247 := n6_
                clear n0_ n1_ n2_ n3_ n4_ n5_ n6_
                clear ho hb hg hat
                obtain ⟨Ao116, co116, eo116⟩ := Kd.R_slice HO247.out
                (first | subst eo116 | (injection eo116 with f1_ f2_ f3_; have f4_ := f1_.symm; have f5_ := f3_.symm; clear f1_ f2_ f3_; subst f4_; subst f5_))
                refine hK.out _ _ ⟨(blk_cell BK219.out 0).trans rfl, (blk_cell BK219.out 1).trans rfl, (blk_cell BK219.out 2).trans rfl, (blk_cell BK219.out 3).trans rfl, (blk_cell BK219.out 4).trans rfl, (blk_cell BK214.out 0).trans rfl, (blk_cell BK214.out 1).trans rfl, (blk_cell BK214.out 2).trans rfl, (blk_cell BK214.out 3).trans rfl, (blk_cell BK214.out 4).trans rfl, ((HB.out.cell (World.block_lt_of_cell? w _ hw243_0)).trans hw243_0), ((HB.out.cell (World.block_lt_of_cell? w _ hw243_1)).trans hw243_1), ((HB.out.cell (World.block_lt_of_cell? w _ hw244_0)).trans hw244_0), ((HB.out.cell (World.block_lt_of_cell? w _ hw244_1)).trans hw244_1)⟩ (fun hHeld => ?_)
                clear hK K
                refine norm_ (a' := ?_) ?_ ?_
                rotate_left
                ·show Act.put _ (some 148) _ = _
                 simp only [Act.put, List.setIfInBounds_toArray, List.set_cons_zero, List.set_cons_succ, i64_w, i32_w]
                 rfl
                refine pure_ (i := 20) (N := some 149) (v := ?_) (a' := ?_) (bA 22 2097151) rfl rfl (any_of HT_.out (by kernel_rfl)) (fun _ _ _ h => h) (Or.inl ⟨by rfl, ?_⟩) ?_ ?_; rotate_left; intro w'; go_simp; with_reducible rfl; rotate_left; simp only [Act.put, List.setIfInBounds_toArray, List.set_cons_zero, List.set_cons_succ, i64_w, i32_w]; rfl
                refine last_ (i := 21) (N := none) (bA 22 4194303) rfl rfl (one_of HT_.out (by kernel_rfl)) (by decide) (fun K hK => ?_)
                have hs117 : w115.cell? ⟨gb219, 4, none⟩ = some (u220004) := (blk_cell BK219.out 4).trans rfl
                have hfs117 := blk_frozen BK219.out 4
                have hns117_0 := NB213_219.out
                have hns117_1 := NB214_219.out
                have hns117_2 := NB218_219.out
                have hms117_0 := NB219_213.out
                have hms117_1 := NB219_214.out
                have hms117_2 := NB219_218.out
                refine skip_ (w1 := ?_) (by rfl) rfl ?_ ?_
                rotate_left
                ·go_simp
                 rfl
                refine hK.out _ _ ?_
                clear hK K
                refine done_ (done_of HT_.out (by kernel_rfl)) ?_
                try go_wp2
                go_roundg k4
                case measure => have := HJ4.out; have := HJ20.out; have := HK3.out; have := HK4.out; omega
                case rel => exact ⟨(true), (wrap64 (x12_4 + 1)), (y245), (.slice Ao116 y245.length co116), (by first | rfl | (simp; done) | (simp [*]; done)), (by first | rfl | (simp; done) | (simp [*]; done)), H', ⟨by have := HJ4.out; have := HJ20.out; have := HK3.out; have := HK4.out; omega⟩, ⟨by (with_reducible repeat (first | apply Kd.R_alloc | apply Kd.R_drewN | apply Kd.R_drew)); exact Kd.R_mono (Kd.R_far (p := ⟨gb219, 4, none⟩) (Kd.R_types HO_219004.out BK219.out (by decide)) (fun _ hk => hk.2) (.slice Ao116 y245.length co116)) (fun _ hk => hk.1.2)⟩, ⟨by (with_reducible repeat (first | apply Kd.R_alloc | apply Kd.R_drewN | apply Kd.R_drew)); exact Kd.R_mono (Kd.R_far (p := ⟨gb219, 4, none⟩) (Kd.R_types HO247.out BK219.out (by decide)) (fun _ hk => hk.2) (.slice Ao116 y245.length co116)) (fun _ hk => hk.1)⟩, ⟨by (with_reducible repeat (first | refine blk_drewN ?_ _ | refine blk_drew ?_ | refine blk_alloc ?_ _)); refine blk_far ?_ NB213_219.out _; (with_reducible repeat (first | refine blk_drewN ?_ _ | refine blk_drew ?_ | refine blk_alloc ?_ _)); exact BK213.out⟩, ⟨by (with_reducible repeat (first | refine blk_drewN ?_ _ | refine blk_drew ?_ | refine blk_alloc ?_ _)); refine blk_far ?_ NB214_219.out _; (with_reducible repeat (first | refine blk_drewN ?_ _ | refine blk_drew ?_ | refine blk_alloc ?_ _)); exact BK214.out⟩, ⟨by (with_reducible repeat (first | refine blk_drewN ?_ _ | refine blk_drew ?_ | refine blk_alloc ?_ _)); refine blk_far ?_ NB218_219.out _; (with_reducible repeat (first | refine blk_drewN ?_ _ | refine blk_drew ?_ | refine blk_alloc ?_ _)); exact BK218.out⟩, ⟨by (with_reducible repeat (first | refine blk_drewN ?_ _ | refine blk_drew ?_ | refine blk_alloc ?_ _)); refine blk_put (cs := #[.int .i64 0, .int .i64 0, .int .i64 (wrap64 (a1_2 + (wrap64 (a2)))), .int .i64 0, u220004]) ?_ 4 _ rfl; (with_reducible repeat (first | refine blk_drewN ?_ _ | refine blk_drew ?_ | refine blk_alloc ?_ _)); exact BK219.out⟩, ⟨by repeat (first | (with_reducible first | exact HB.out | apply below_alloc | apply pw_below_drewN | apply below_drew1 | refine below_set ?_ GE213.out | refine below_set ?_ GE214.out | refine below_set ?_ GE218.out | refine below_set ?_ GE219.out) | exact HB.out)⟩⟩
               ·rw [if_neg c109] at H
                exact absurd H (by simp)
              ·rw [if_neg c108] at H
               have c108b0 : decide (1099511627776 < ((rd_T33 l1_4 x12_4).f1)) = false := decide_eq_false c108
               clear c108
               by_cases c118 : x220004_4.length < 8796093022208
               ·rw [if_pos c118] at H
                have LMc118 := Aside0.mk c118
                clear c118
                obtain ⟨y251, hy251⟩ : ∃ y_ : List (S33), y_ = (x220004_4 ++ [(⟨(rd_T33 l1_4 x12_4).f0, wrap64 (((rd_T33 l1_4 x12_4).f1) + (wrap64 (a2)))⟩ : S33)]) := ⟨_, rfl⟩
                replace H : (compositorlaw20_RiverMoves.l1 k4 a2 t215 (decide (((rd_T33 l1_4 x12_4).f1) < (-1099511627776))) (wrap64 (x12_4 + 1)) a0_0 a0_1 a0_2 a0_3 l0_4 a1_0 a1_1 a1_2 a1_3 l1_4 0 0 (wrap64 (a0_2 + (wrap64 (a2)))) 0 x219004_3 0 0 (wrap64 (a1_2 + (wrap64 (a2)))) 0 y251) = some r := by first | (rw [hy251]; with_reducible exact H) | (have H2_ := (Option.bind_some _ _).symm.trans H; rw [hy251]; with_reducible exact H2_) | (have H2_ := (Option.bind_some _ _).symm.trans H; with_reducible exact H2_) | with_reducible exact H | (rw [hy251]; exact H) | exact H
                have Ny251 := Aside0.mk hy251
                clear hy251
                have H' := Aside0.mk H
                clear H
                have hnb119 := NB214_213.out
                have hnc119 := NB213_214.out
                have hnb120 := NB214_218.out
                have hnc120 := NB218_214.out
                have hnb121 := NB214_219.out
                have hnc121 := NB219_214.out
                have hcz122_0 : wr.cell? ⟨gb214, 0, none⟩ = some (.int .i64 a1_0) := (blk_cell BK214.out 0).trans rfl
                have hcz122_1 : wr.cell? ⟨gb214, 1, none⟩ = some (.int .i64 a1_1) := (blk_cell BK214.out 1).trans rfl
                have hcz122_2 : wr.cell? ⟨gb214, 2, none⟩ = some (.int .i64 a1_2) := (blk_cell BK214.out 2).trans rfl
                have hcz122_3 : wr.cell? ⟨gb214, 3, none⟩ = some (.int .i64 a1_3) := (blk_cell BK214.out 3).trans rfl
                have hcz122_4 : wr.cell? ⟨gb214, 4, none⟩ = some (.slice A1_4 l1_4.length c1_4) := (blk_cell BK214.out 4).trans rfl
                have hfz122_0 := blk_frozen BK214.out 0
                have hfz122_1 := blk_frozen BK214.out 1
                have hfz122_2 := blk_frozen BK214.out 2
                have hfz122_3 := blk_frozen BK214.out 3
                have hfz122_4 := blk_frozen BK214.out 4
                have p242 : 0 ≤ (x12_4 : Int) := odt
                have q242 : x12_4 < (l1_4.length : Int) := odt
                obtain ⟨ad242, e242, hx242_0, hx242_1⟩ := at_T33 HR1_4.out x12_4 p242 q242
                cases e242
                replace hx242_0 := (HB.out.cell (World.block_lt_of_cell? w _ hx242_0)).trans hx242_0
                replace hx242_1 := (HB.out.cell (World.block_lt_of_cell? w _ hx242_1)).trans hx242_1
                replace p242 := eq_true p242
                replace q242 := eq_true q242
                have p248 : 0 ≤ (x12_4 : Int) := odt
                have q248 : x12_4 < (l1_4.length : Int) := odt
                obtain ⟨ad248, e248, hx248_0, hx248_1⟩ := at_T33 HR1_4.out x12_4 p248 q248
                obtain rfl : ad242 = ad248 := (by injection e248)
                replace hx248_0 := (HB.out.cell (World.block_lt_of_cell? w _ hx248_0)).trans hx248_0
                replace hx248_1 := (HB.out.cell (World.block_lt_of_cell? w _ hx248_1)).trans hx248_1
                replace p248 := eq_true p248
                replace q248 := eq_true q248
                try go_wp2
                have n0_ := Aside0.mk (Kd.R_drew HO_219004.out)
                have n1_ := Aside0.mk (Kd.R_drew HO_220004.out)
                have n2_ := Aside0.mk (blk_drew BK213.out)
                have n3_ := Aside0.mk (blk_drew BK214.out)
                have n4_ := Aside0.mk (blk_drew BK218.out)
                have n5_ := Aside0.mk (blk_drew BK219.out)
                have n6_ := Aside0.mk (below_drew1 HB.out)
                clear HO_219004
                clear HO_220004
                clear BK213
                clear BK214
                clear BK218
                clear BK219
                clear HB
                have HO_219004 := n0_
                have HO_220004 := n1_
                have BK213 := n2_
                have BK214 := n3_
                have BK218 := n4_
                have BK219 := n5_
                have HB := n6_
                clear n0_ n1_ n2_ n3_ n4_ n5_ n6_
                have p249 : 0 ≤ (x12_4 : Int) := odt
                have q249 : x12_4 < (l1_4.length : Int) := odt
                obtain ⟨ad249, e249, hx249_0, hx249_1⟩ := at_T33 HR1_4.out x12_4 p249 q249
                have hw249_1 := hx249_1
                have hw249_0 := hx249_0
                obtain rfl : ad242 = ad249 := (by injection e249)
                replace hx249_0 := (HB.out.cell (World.block_lt_of_cell? w _ hx249_0)).trans hx249_0
                replace hx249_1 := (HB.out.cell (World.block_lt_of_cell? w _ hx249_1)).trans hx249_1
                replace p249 := eq_true p249
                replace q249 := eq_true q249
                have p250 : 0 ≤ (x12_4 : Int) := odt
                have q250 : x12_4 < (l1_4.length : Int) := odt
                obtain ⟨ad250, e250, hx250_0, hx250_1⟩ := at_T33 HR1_4.out x12_4 p250 q250
                have hw250_1 := hx250_1
                have hw250_0 := hx250_0
                obtain rfl : ad242 = ad250 := (by injection e250)
                replace hx250_0 := (HB.out.cell (World.block_lt_of_cell? w _ hx250_0)).trans hx250_0
                replace hx250_1 := (HB.out.cell (World.block_lt_of_cell? w _ hx250_1)).trans hx250_1
                replace p250 := eq_true p250
                replace q250 := eq_true q250
                refine start_ (n := 22) (S := fun w' => w'.cell? ⟨gb219, 0, none⟩ = some (.int .i64 0) ∧ w'.cell? ⟨gb219, 1, none⟩ = some (.int .i64 0) ∧ w'.cell? ⟨gb219, 2, none⟩ = some (.int .i64 (wrap64 (a1_2 + (wrap64 (a2))))) ∧ w'.cell? ⟨gb219, 3, none⟩ = some (.int .i64 0) ∧ w'.cell? ⟨gb219, 4, none⟩ = some (u220004) ∧ w'.cell? ⟨gb214, 0, none⟩ = some (.int .i64 a1_0) ∧ w'.cell? ⟨gb214, 1, none⟩ = some (.int .i64 a1_1) ∧ w'.cell? ⟨gb214, 2, none⟩ = some (.int .i64 a1_2) ∧ w'.cell? ⟨gb214, 3, none⟩ = some (.int .i64 a1_3) ∧ w'.cell? ⟨gb214, 4, none⟩ = some (.slice (some ad242) l1_4.length c1_4) ∧ w'.cell? (ad242.add ((x12_4).toNat * 2)) = some (.int .i64 ((rd_T33 l1_4 x12_4).f0)) ∧ w'.cell? ⟨(ad242.add ((x12_4).toNat * 2)).block, (ad242.add ((x12_4).toNat * 2)).off + 1, none⟩ = some (.int .i64 ((rd_T33 l1_4 x12_4).f1)) ∧ w'.cell? (ad242.add ((x12_4).toNat * 2)) = some (.int .i64 ((rd_T33 l1_4 x12_4).f0)) ∧ w'.cell? ⟨(ad242.add ((x12_4).toNat * 2)).block, (ad242.add ((x12_4).toNat * 2)).off + 1, none⟩ = some (.int .i64 ((rd_T33 l1_4 x12_4).f1))) (ds := [21]) (bA 22 0) (by kernel_rfl) rfl rfl ⟨(blk_cell BK219.out 0).trans rfl, (blk_cell BK219.out 1).trans rfl, (blk_cell BK219.out 2).trans rfl, (blk_cell BK219.out 3).trans rfl, (blk_cell BK219.out 4).trans rfl, (blk_cell BK214.out 0).trans rfl, (blk_cell BK214.out 1).trans rfl, (blk_cell BK214.out 2).trans rfl, (blk_cell BK214.out 3).trans rfl, (blk_cell BK214.out 4).trans rfl, ((HB.out.cell (World.block_lt_of_cell? w _ hw249_0)).trans hw249_0), ((HB.out.cell (World.block_lt_of_cell? w _ hw249_1)).trans hw249_1), ((HB.out.cell (World.block_lt_of_cell? w _ hw250_0)).trans hw250_0), ((HB.out.cell (World.block_lt_of_cell? w _ hw250_1)).trans hw250_1)⟩ (fun hHeld => ?_); refine with_tabW compositorlaw20_RiverMoves.tab16 compositorlaw20_RiverMoves.bits16 (fun HT_ HW_ => ?_)
                generalize wr.drew = w123 at HO_219004 HO_220004 BK213 BK214 BK218 BK219 HB hx249_0 hx249_1 hx250_0 hx250_1 hHeld ⊢
                refine pure_ (i := 0) (N := some 129) (v := ?_) (a' := ?_) (bA 22 1) rfl rfl (any_of HT_.out (by kernel_rfl)) (fun _ _ _ h => h) (Or.inl ⟨by rfl, ?_⟩) ?_ ?_; rotate_left; intro w'; go_simp; with_reducible rfl; rotate_left; simp only [Act.put, List.setIfInBounds_toArray, List.set_cons_zero, List.set_cons_succ, i64_w, i32_w]; rfl
                refine pure_ (i := 2) (N := some 131) (v := ?_) (a' := ?_) (bA 22 5) rfl rfl (any_of HT_.out (by kernel_rfl)) (fun _ _ _ h => h) (Or.inl ⟨by rfl, ?_⟩) ?_ ?_; rotate_left; intro w'; go_simp; with_reducible rfl; rotate_left; simp only [Act.put, List.setIfInBounds_toArray, List.set_cons_zero, List.set_cons_succ, i64_w, i32_w]; rfl
                refine pure_ (i := 4) (N := some 133) (v := ?_) (a' := ?_) (bA 22 21) rfl rfl (any_of HT_.out (by kernel_rfl)) (fun _ _ _ h => h) (Or.inl ⟨by rfl, ?_⟩) ?_ ?_; rotate_left; intro w'; go_simp; with_reducible rfl; rotate_left; simp only [Act.put, List.setIfInBounds_toArray, List.set_cons_zero, List.set_cons_succ, i64_w, i32_w]; rfl
                refine pure_ (i := 8) (N := some 137) (v := ?_) (a' := ?_) (bA 22 277) rfl rfl (any_of HT_.out (by kernel_rfl)) (fun _ _ _ h => h) (Or.inl ⟨by rfl, ?_⟩) ?_ ?_; rotate_left; intro w'; go_simp; with_reducible rfl; rotate_left; simp only [Act.put, List.setIfInBounds_toArray, List.set_cons_zero, List.set_cons_succ, i64_w, i32_w]; rfl
                refine pure_ (i := 10) (N := some 139) (v := ?_) (a' := ?_) (bA 22 1301) rfl rfl (any_of HT_.out (by kernel_rfl)) (fun _ _ _ h => h) (Or.inl ⟨by rfl, ?_⟩) ?_ ?_; rotate_left; intro w'; go_simp; with_reducible rfl; rotate_left; simp only [Act.put, List.setIfInBounds_toArray, List.set_cons_zero, List.set_cons_succ, i64_w, i32_w]; rfl
                refine pure_ (i := 14) (N := some 143) (v := ?_) (a' := ?_) (bA 22 17685) rfl rfl (any_of HT_.out (by kernel_rfl)) (fun _ _ _ h => h) (Or.inl ⟨by rfl, ?_⟩) ?_ ?_; rotate_left; intro w'; go_simp; with_reducible rfl; rotate_left; simp only [Act.put, List.setIfInBounds_toArray, List.set_cons_zero, List.set_cons_succ, i64_w, i32_w]; rfl
                refine pure_ (i := 15) (N := some 144) (v := ?_) (a' := ?_) (bA 22 50453) rfl rfl (any_of HT_.out (by kernel_rfl)) (fun _ _ _ h => h) (Or.inl ⟨by rfl, ?_⟩) ?_ ?_; rotate_left; intro w'; go_simp; with_reducible rfl; rotate_left; simp only [Act.put, List.setIfInBounds_toArray, List.set_cons_zero, List.set_cons_succ, i64_w, i32_w]; rfl
                refine take_ (i := 1) (N := some 130) (v := ?_) (a' := ?_) (bA 22 50455) rfl rfl (take_ofW HT_.out HW_.out (by kernel_rfl)) (fun _ _ _ h => h) (Or.inl ⟨by rfl, ?_⟩) hHeld ?_ ?_; rotate_left; rintro w' ⟨s0, s1, s2, s3, s4, s5, s6, s7, s8, s9, s10, s11, s12, s13⟩; go_simp; with_reducible rfl; rotate_left; simp only [Act.put, List.setIfInBounds_toArray, List.set_cons_zero, List.set_cons_succ, i64_w, i32_w]; rfl
                refine take_ (i := 3) (N := some 132) (v := ?_) (a' := ?_) (bA 22 50463) rfl rfl (take_ofW HT_.out HW_.out (by kernel_rfl)) (fun _ _ _ h => h) (Or.inl ⟨by rfl, ?_⟩) hHeld ?_ ?_; rotate_left; rintro w' ⟨s0, s1, s2, s3, s4, s5, s6, s7, s8, s9, s10, s11, s12, s13⟩; go_simp; with_reducible rfl; rotate_left; simp only [Act.put, List.setIfInBounds_toArray, List.set_cons_zero, List.set_cons_succ, i64_w, i32_w]; rfl
                refine pure_ (i := 5) (N := some 134) (v := ?_) (a' := ?_) (bA 22 50495) rfl rfl (any_of HT_.out (by kernel_rfl)) (fun _ _ _ h => h) (Or.inl ⟨by rfl, ?_⟩) ?_ ?_; rotate_left; intro w'; go_simp; with_reducible rfl; rotate_left; simp only [Act.put, List.setIfInBounds_toArray, List.set_cons_zero, List.set_cons_succ, i64_w, i32_w]; rfl
                refine pure_ (i := 6) (N := some 135) (v := ?_) (a' := ?_) (bA 22 50559) rfl rfl (any_of HT_.out (by kernel_rfl)) (fun _ _ _ h => h) (Or.inl ⟨by rfl, ?_⟩) ?_ ?_; rotate_left; intro w'; go_simp; with_reducible rfl; rotate_left; simp only [Act.put, List.setIfInBounds_toArray, List.set_cons_zero, List.set_cons_succ, i64_w, i32_w]; rfl
                refine take_ (i := 7) (N := some 136) (v := ?_) (a' := ?_) (bA 22 50687) rfl rfl (take_ofW HT_.out HW_.out (by kernel_rfl)) (fun _ _ _ h => h) (Or.inl ⟨by rfl, ?_⟩) hHeld ?_ ?_; rotate_left; rintro w' ⟨s0, s1, s2, s3, s4, s5, s6, s7, s8, s9, s10, s11, s12, s13⟩; go_simp; with_reducible rfl; rotate_left; simp only [Act.put, List.setIfInBounds_toArray, List.set_cons_zero, List.set_cons_succ, i64_w, i32_w]; rfl
                refine take_ (i := 9) (N := some 138) (v := ?_) (a' := ?_) (bA 22 51199) rfl rfl (take_ofW HT_.out HW_.out (by kernel_rfl)) (fun _ _ _ h => h) (Or.inl ⟨by rfl, ?_⟩) hHeld ?_ ?_; rotate_left; rintro w' ⟨s0, s1, s2, s3, s4, s5, s6, s7, s8, s9, s10, s11, s12, s13⟩; go_simp; with_reducible rfl; rotate_left; simp only [Act.put, List.setIfInBounds_toArray, List.set_cons_zero, List.set_cons_succ, i64_w, i32_w]; rfl
                refine pure_ (i := 11) (N := some 140) (v := ?_) (a' := ?_) (bA 22 53247) rfl rfl (any_of HT_.out (by kernel_rfl)) (fun _ _ _ h => h) (Or.inl ⟨by rfl, ?_⟩) ?_ ?_; rotate_left; intro w'; go_simp; with_reducible rfl; rotate_left; simp only [Act.put, List.setIfInBounds_toArray, List.set_cons_zero, List.set_cons_succ, i64_w, i32_w]; rfl
                refine pure_ (i := 12) (N := some 141) (v := ?_) (a' := ?_) (bA 22 57343) rfl rfl (any_of HT_.out (by kernel_rfl)) (fun _ _ _ h => h) (Or.inl ⟨by rfl, ?_⟩) ?_ ?_; rotate_left; intro w'; go_simp; with_reducible rfl; rotate_left; simp only [Act.put, List.setIfInBounds_toArray, List.set_cons_zero, List.set_cons_succ, i64_w, i32_w]; rfl
                refine take_ (i := 13) (N := some 142) (v := ?_) (a' := ?_) (bA 22 65535) rfl rfl (take_ofW HT_.out HW_.out (by kernel_rfl)) (fun _ _ _ h => h) (Or.inl ⟨by rfl, ?_⟩) hHeld ?_ ?_; rotate_left; rintro w' ⟨s0, s1, s2, s3, s4, s5, s6, s7, s8, s9, s10, s11, s12, s13⟩; go_simp; with_reducible rfl; rotate_left; simp only [Act.put, List.setIfInBounds_toArray, List.set_cons_zero, List.set_cons_succ, i64_w, i32_w]; rfl
                refine pure_ (i := 16) (N := some 145) (v := ?_) (a' := ?_) (bA 22 131071) rfl rfl (any_of HT_.out (by kernel_rfl)) (fun _ _ _ h => h) (Or.inl ⟨by rfl, ?_⟩) ?_ ?_; rotate_left; intro w'; go_simp; with_reducible rfl; rotate_left; simp only [Act.put, List.setIfInBounds_toArray, List.set_cons_zero, List.set_cons_succ, i64_w, i32_w]; rfl
                refine pure_ (i := 17) (N := some 146) (v := ?_) (a' := ?_) (bA 22 262143) rfl rfl (any_of HT_.out (by kernel_rfl)) (fun _ _ _ h => h) (Or.inl ⟨by rfl, ?_⟩) ?_ ?_; rotate_left; intro w'; go_simp; with_reducible rfl; rotate_left; simp only [Act.put, List.setIfInBounds_toArray, List.set_cons_zero, List.set_cons_succ, i64_w, i32_w]; rfl
                refine one_ (i := 18) (N := some 147) (bA 22 524287) rfl rfl (one_of HT_.out (by kernel_rfl)) (by decide) (fun K hK => ?_)
                refine value_ (w1 := ?_) (v := ?_) (by rfl) rfl ?_ ?_
                rotate_left 2
                ·go_simp
                 constructor
                 ·rfl
                 ·rfl
                refine hK.out _ _ ⟨(blk_cell (blk_alloc BK219.out _) 0).trans rfl, (blk_cell (blk_alloc BK219.out _) 1).trans rfl, (blk_cell (blk_alloc BK219.out _) 2).trans rfl, (blk_cell (blk_alloc BK219.out _) 3).trans rfl, (blk_cell (blk_alloc BK219.out _) 4).trans rfl, (blk_cell (blk_alloc BK214.out _) 0).trans rfl, (blk_cell (blk_alloc BK214.out _) 1).trans rfl, (blk_cell (blk_alloc BK214.out _) 2).trans rfl, (blk_cell (blk_alloc BK214.out _) 3).trans rfl, (blk_cell (blk_alloc BK214.out _) 4).trans rfl, (World.cell?_alloc_lt _ _ _ (World.block_lt_of_cell? _ _ (((HB.out.cell (World.block_lt_of_cell? w _ hw249_0)).trans hw249_0)))).trans (((HB.out.cell (World.block_lt_of_cell? w _ hw249_0)).trans hw249_0)), (World.cell?_alloc_lt _ _ _ (World.block_lt_of_cell? _ _ (((HB.out.cell (World.block_lt_of_cell? w _ hw249_1)).trans hw249_1)))).trans (((HB.out.cell (World.block_lt_of_cell? w _ hw249_1)).trans hw249_1)), (World.cell?_alloc_lt _ _ _ (World.block_lt_of_cell? _ _ (((HB.out.cell (World.block_lt_of_cell? w _ hw250_0)).trans hw250_0)))).trans (((HB.out.cell (World.block_lt_of_cell? w _ hw250_0)).trans hw250_0)), (World.cell?_alloc_lt _ _ _ (World.block_lt_of_cell? _ _ (((HB.out.cell (World.block_lt_of_cell? w _ hw250_1)).trans hw250_1)))).trans (((HB.out.cell (World.block_lt_of_cell? w _ hw250_1)).trans hw250_1))⟩ (fun hHeld => ?_)
                clear hK K
                refine norm_ (a' := ?_) ?_ ?_
                rotate_left
                ·show Act.put _ (some 147) _ = _
                 simp only [Act.put, List.setIfInBounds_toArray, List.set_cons_zero, List.set_cons_succ, i64_w, i32_w]
                 rfl
                refine one_ (i := 19) (N := some 148) (bA 22 1048575) rfl rfl (one_of HT_.out (by kernel_rfl)) (by decide) (fun K hK => ?_)
                refine Kd.R_append_step k33 (w0 := w) w.heap.size (by rfl) (.tmp 130) (.tmp 147) 22 33 (.agg #[(.int .i64 0), (.int .i64 0)]) 16 rfl Try.underlying22 info33 rfl (by decide) (by omega) u220004 x220004_4 (⟨(rd_T33 l1_4 x12_4).f0, wrap64 (((rd_T33 l1_4 x12_4).f1) + (wrap64 (a2)))⟩ : S33) [.int .i64 ((rd_T33 l1_4 x12_4).f0), .int .i64 (wrap64 (((rd_T33 l1_4 x12_4).f1) + (wrap64 (a2))))] (fun k_ => some k_ ≠ (u219004 : Value).ownBlock) (fun _ => False) rfl rfl ?aP (fun _ hk => hk.elim) ?aF ?aO ?aB ?aS ?aL ?_
                (case aP => exact k33_mkM _ _ _ (⟨(rd_T33 l1_4 x12_4).f0, wrap64 (((rd_T33 l1_4 x12_4).f1) + (wrap64 (a2)))⟩ : S33))
                (case aB => exact (by repeat (first | (with_reducible first | exact HB.out | apply below_alloc | apply pw_below_drewN | apply below_drew1 | refine below_set ?_ GE213.out | refine below_set ?_ GE214.out | refine below_set ?_ GE218.out | refine below_set ?_ GE219.out) | exact HB.out)))
                (case aF => exact (fun k_ hk => Kd.fresh' (Kd.R_lt (by (with_reducible repeat (first | apply Kd.R_alloc | apply Kd.R_drewN | apply Kd.R_drew)); exact HO_219004.out)) k_ hk))
                (case aO => exact (by (with_reducible repeat (first | apply Kd.R_alloc | apply Kd.R_drewN | apply Kd.R_drew)); exact HO_220004.out))
                (case aS => exact (below_size (by repeat (first | (with_reducible first | exact HB.out | apply below_alloc | apply pw_below_drewN | apply below_drew1 | refine below_set ?_ GE213.out | refine below_set ?_ GE214.out | refine below_set ?_ GE218.out | refine below_set ?_ GE219.out) | exact HB.out))))
                (case aL => have := LMc118.out; omega)
                intro v252 w124 ho hb hg hat
                rw [← Ny251.out] at ho
                have n0_ := Aside0.mk (Kd.R_after (ok := (fun _ => True)) (by (with_reducible repeat (first | apply Kd.R_alloc | apply Kd.R_drewN | apply Kd.R_drew)); exact Kd.R_mono HO_219004.out (fun _ hk => ⟨trivial, hk⟩)) hg hat)
                have n1_ := Aside0.mk (blk_grown (g := gb213) (o := .cells #[.int .i64 a0_0, .int .i64 a0_1, .int .i64 a0_2, .int .i64 a0_3, .slice A0_4 l0_4.length c0_4] 24 (0, 0)) (by (with_reducible repeat (first | refine blk_drewN ?_ _ | refine blk_drew ?_ | refine blk_alloc ?_ _)); exact BK213.out) hg (Kd.R_ne HO_220004.out BK213.out (by decide)))
                have n2_ := Aside0.mk (blk_grown (g := gb214) (o := .cells #[.int .i64 a1_0, .int .i64 a1_1, .int .i64 a1_2, .int .i64 a1_3, .slice (some ad242) l1_4.length c1_4] 24 (0, 0)) (by (with_reducible repeat (first | refine blk_drewN ?_ _ | refine blk_drew ?_ | refine blk_alloc ?_ _)); exact BK214.out) hg (Kd.R_ne HO_220004.out BK214.out (by decide)))
                have n3_ := Aside0.mk (blk_grown (g := gb218) (o := .cells #[.int .i64 0, .int .i64 0, .int .i64 (wrap64 (a0_2 + (wrap64 (a2)))), .int .i64 0, u219004] 24 (0, 0)) (by (with_reducible repeat (first | refine blk_drewN ?_ _ | refine blk_drew ?_ | refine blk_alloc ?_ _)); exact BK218.out) hg (Kd.R_ne HO_220004.out BK218.out (by decide)))
                have n4_ := Aside0.mk (blk_grown (g := gb219) (o := .cells #[.int .i64 0, .int .i64 0, .int .i64 (wrap64 (a1_2 + (wrap64 (a2)))), .int .i64 0, u220004] 24 (0, 0)) (by (with_reducible repeat (first | refine blk_drewN ?_ _ | refine blk_drew ?_ | refine blk_alloc ?_ _)); exact BK219.out) hg (Kd.R_ne HO_220004.out BK219.out (by decide)))
                have n5_ := Aside0.mk (hb)
                have n6_ := Aside0.mk (ho)
                clear HO_219004
                clear BK213
                clear BK214
                clear BK218
                clear BK219
                clear HB
                clear HO_220004
                have HO_219004 := n0_
                have BK213 := n1_
                have BK214 := n2_
                have BK218 := n3_
                have BK219 := n4_
                have HB := n5_
                have HO253 := n6_
                clear n0_ n1_ n2_ n3_ n4_ n5_ n6_
                clear ho hb hg hat
                obtain ⟨Ao125, co125, eo125⟩ := Kd.R_slice HO253.out
                (first | subst eo125 | (injection eo125 with f1_ f2_ f3_; have f4_ := f1_.symm; have f5_ := f3_.symm; clear f1_ f2_ f3_; subst f4_; subst f5_))
                refine hK.out _ _ ⟨(blk_cell BK219.out 0).trans rfl, (blk_cell BK219.out 1).trans rfl, (blk_cell BK219.out 2).trans rfl, (blk_cell BK219.out 3).trans rfl, (blk_cell BK219.out 4).trans rfl, (blk_cell BK214.out 0).trans rfl, (blk_cell BK214.out 1).trans rfl, (blk_cell BK214.out 2).trans rfl, (blk_cell BK214.out 3).trans rfl, (blk_cell BK214.out 4).trans rfl, ((HB.out.cell (World.block_lt_of_cell? w _ hw249_0)).trans hw249_0), ((HB.out.cell (World.block_lt_of_cell? w _ hw249_1)).trans hw249_1), ((HB.out.cell (World.block_lt_of_cell? w _ hw250_0)).trans hw250_0), ((HB.out.cell (World.block_lt_of_cell? w _ hw250_1)).trans hw250_1)⟩ (fun hHeld => ?_)
                clear hK K
                refine norm_ (a' := ?_) ?_ ?_
                rotate_left
                ·show Act.put _ (some 148) _ = _
                 simp only [Act.put, List.setIfInBounds_toArray, List.set_cons_zero, List.set_cons_succ, i64_w, i32_w]
                 rfl
                refine pure_ (i := 20) (N := some 149) (v := ?_) (a' := ?_) (bA 22 2097151) rfl rfl (any_of HT_.out (by kernel_rfl)) (fun _ _ _ h => h) (Or.inl ⟨by rfl, ?_⟩) ?_ ?_; rotate_left; intro w'; go_simp; with_reducible rfl; rotate_left; simp only [Act.put, List.setIfInBounds_toArray, List.set_cons_zero, List.set_cons_succ, i64_w, i32_w]; rfl
                refine last_ (i := 21) (N := none) (bA 22 4194303) rfl rfl (one_of HT_.out (by kernel_rfl)) (by decide) (fun K hK => ?_)
                have hs126 : w124.cell? ⟨gb219, 4, none⟩ = some (u220004) := (blk_cell BK219.out 4).trans rfl
                have hfs126 := blk_frozen BK219.out 4
                have hns126_0 := NB213_219.out
                have hns126_1 := NB214_219.out
                have hns126_2 := NB218_219.out
                have hms126_0 := NB219_213.out
                have hms126_1 := NB219_214.out
                have hms126_2 := NB219_218.out
                refine skip_ (w1 := ?_) (by rfl) rfl ?_ ?_
                rotate_left
                ·go_simp
                 rfl
                refine hK.out _ _ ?_
                clear hK K
                refine done_ (done_of HT_.out (by kernel_rfl)) ?_
                try go_wp2
                go_roundg k4
                case measure => have := HJ4.out; have := HJ20.out; have := HK3.out; have := HK4.out; omega
                case rel => exact ⟨(decide (((rd_T33 l1_4 x12_4).f1) < (-1099511627776))), (wrap64 (x12_4 + 1)), (y251), (.slice Ao125 y251.length co125), (by first | rfl | (simp; done) | (simp [*]; done)), (by first | rfl | (simp; done) | (simp [*]; done)), H', ⟨by have := HJ4.out; have := HJ20.out; have := HK3.out; have := HK4.out; omega⟩, ⟨by (with_reducible repeat (first | apply Kd.R_alloc | apply Kd.R_drewN | apply Kd.R_drew)); exact Kd.R_mono (Kd.R_far (p := ⟨gb219, 4, none⟩) (Kd.R_types HO_219004.out BK219.out (by decide)) (fun _ hk => hk.2) (.slice Ao125 y251.length co125)) (fun _ hk => hk.1.2)⟩, ⟨by (with_reducible repeat (first | apply Kd.R_alloc | apply Kd.R_drewN | apply Kd.R_drew)); exact Kd.R_mono (Kd.R_far (p := ⟨gb219, 4, none⟩) (Kd.R_types HO253.out BK219.out (by decide)) (fun _ hk => hk.2) (.slice Ao125 y251.length co125)) (fun _ hk => hk.1)⟩, ⟨by (with_reducible repeat (first | refine blk_drewN ?_ _ | refine blk_drew ?_ | refine blk_alloc ?_ _)); refine blk_far ?_ NB213_219.out _; (with_reducible repeat (first | refine blk_drewN ?_ _ | refine blk_drew ?_ | refine blk_alloc ?_ _)); exact BK213.out⟩, ⟨by (with_reducible repeat (first | refine blk_drewN ?_ _ | refine blk_drew ?_ | refine blk_alloc ?_ _)); refine blk_far ?_ NB214_219.out _; (with_reducible repeat (first | refine blk_drewN ?_ _ | refine blk_drew ?_ | refine blk_alloc ?_ _)); exact BK214.out⟩, ⟨by (with_reducible repeat (first | refine blk_drewN ?_ _ | refine blk_drew ?_ | refine blk_alloc ?_ _)); refine blk_far ?_ NB218_219.out _; (with_reducible repeat (first | refine blk_drewN ?_ _ | refine blk_drew ?_ | refine blk_alloc ?_ _)); exact BK218.out⟩, ⟨by (with_reducible repeat (first | refine blk_drewN ?_ _ | refine blk_drew ?_ | refine blk_alloc ?_ _)); refine blk_put (cs := #[.int .i64 0, .int .i64 0, .int .i64 (wrap64 (a1_2 + (wrap64 (a2)))), .int .i64 0, u220004]) ?_ 4 _ rfl; (with_reducible repeat (first | refine blk_drewN ?_ _ | refine blk_drew ?_ | refine blk_alloc ?_ _)); exact BK219.out⟩, ⟨by repeat (first | (with_reducible first | exact HB.out | apply below_alloc | apply pw_below_drewN | apply below_drew1 | refine below_set ?_ GE213.out | refine below_set ?_ GE214.out | refine below_set ?_ GE218.out | refine below_set ?_ GE219.out) | exact HB.out)⟩⟩
               ·rw [if_neg c118] at H
                exact absurd H (by simp)
             ·rw [if_neg c107] at H
              exact absurd H (by simp)
           ·rw [if_neg c95] at H
            have c95b0 : decide (x12_4 < (l1_4.length : Int)) = false := decide_eq_false c95
            clear c95
            by_cases c127 : x10_4 = true
            ·subst c127
             have H1 : (some t215) = some r := by rw [if_pos rfl] at H; exact H
             clear H
             have H := H1
             clear H1
             obtain rfl := Option.some.inj H
             have hnb128 := NB214_213.out
             have hnc128 := NB213_214.out
             have hnb129 := NB214_218.out
             have hnc129 := NB218_214.out
             have hnb130 := NB214_219.out
             have hnc130 := NB219_214.out
             have hcz131_0 : wr.cell? ⟨gb214, 0, none⟩ = some (.int .i64 a1_0) := (blk_cell BK214.out 0).trans rfl
             have hcz131_1 : wr.cell? ⟨gb214, 1, none⟩ = some (.int .i64 a1_1) := (blk_cell BK214.out 1).trans rfl
             have hcz131_2 : wr.cell? ⟨gb214, 2, none⟩ = some (.int .i64 a1_2) := (blk_cell BK214.out 2).trans rfl
             have hcz131_3 : wr.cell? ⟨gb214, 3, none⟩ = some (.int .i64 a1_3) := (blk_cell BK214.out 3).trans rfl
             have hcz131_4 : wr.cell? ⟨gb214, 4, none⟩ = some (.slice A1_4 l1_4.length c1_4) := (blk_cell BK214.out 4).trans rfl
             have hfz131_0 := blk_frozen BK214.out 0
             have hfz131_1 := blk_frozen BK214.out 1
             have hfz131_2 := blk_frozen BK214.out 2
             have hfz131_3 := blk_frozen BK214.out 3
             have hfz131_4 := blk_frozen BK214.out 4
             go_wp2
             go_ret
             exact ⟨by first | rfl | (simp [errW_none, errW_some] <;> rfl) | (simp [*, errW_none, errW_some] <;> rfl), by repeat (first | (with_reducible first | exact HB.out | apply below_alloc | apply pw_below_drewN | apply below_drew1 | refine below_set ?_ GE213.out | refine below_set ?_ GE214.out | refine below_set ?_ GE218.out | refine below_set ?_ GE219.out) | exact HB.out)⟩
            ·replace c127 := Bool.eq_false_iff.mpr c127
             subst c127
             have H1 : ((river_Gaps.f k4 a0_0 a0_1 a0_2 a0_3 l0_4).bind fun t254 => ((river_Gaps.f k4 0 0 (wrap64 (a0_2 + (wrap64 (a2)))) 0 x219004_3).bind fun t257 => (if (t254.length : Int) = (t257.length : Int) then (compositorlaw20_RiverMoves.l2 k4 a2 t215 t254 t257 0 a0_0 a0_1 a0_2 a0_3 l0_4 a1_0 a1_1 a1_2 a1_3 l1_4 0 0 (wrap64 (a0_2 + (wrap64 (a2)))) 0 x219004_3 0 0 (wrap64 (a1_2 + (wrap64 (a2)))) 0 x220004_4) else (none)))) = some r := by rw [if_neg (show ¬ (false = true) by decide)] at H; exact H
             clear H
             have H := H1
             clear H1
             replace H := Option.bind_eq_some_iff.mp H
             obtain ⟨t254, A1320, H⟩ := H
             replace H : ((river_Gaps.f k4 0 0 (wrap64 (a0_2 + (wrap64 (a2)))) 0 x219004_3).bind fun t257 => (if (t254.length : Int) = (t257.length : Int) then (compositorlaw20_RiverMoves.l2 k4 a2 t215 t254 t257 0 a0_0 a0_1 a0_2 a0_3 l0_4 a1_0 a1_1 a1_2 a1_3 l1_4 0 0 (wrap64 (a0_2 + (wrap64 (a2)))) 0 x219004_3 0 0 (wrap64 (a1_2 + (wrap64 (a2)))) 0 x220004_4) else (none))) = some r := H
             have A132 := Aside0.mk A1320
             clear A1320
             replace H := Option.bind_eq_some_iff.mp H
             obtain ⟨t257, A1330, H⟩ := H
             replace H : (if (t254.length : Int) = (t257.length : Int) then (compositorlaw20_RiverMoves.l2 k4 a2 t215 t254 t257 0 a0_0 a0_1 a0_2 a0_3 l0_4 a1_0 a1_1 a1_2 a1_3 l1_4 0 0 (wrap64 (a0_2 + (wrap64 (a2)))) 0 x219004_3 0 0 (wrap64 (a1_2 + (wrap64 (a2)))) 0 x220004_4) else (none)) = some r := H
             have A133 := Aside0.mk A1330
             clear A1330
             by_cases c134 : (t254.length : Int) = (t257.length : Int)
             ·rw [if_pos c134] at H
              have c134b0 : ((t254.length : Int) == (t257.length : Int)) = true := beq_iff_eq.mpr c134
              have c134b1 : ((t254.length : Int) != (t257.length : Int)) = false := bne_eq_false_iff_eq.mpr c134
              have c134b2 : (t254.length == t257.length) = true := by first | simpa using c134 | (simp at c134 ⊢; omega)
              clear c134
              have H' := Aside0.mk H
              clear H
              have hnb135 := NB214_213.out
              have hnc135 := NB213_214.out
              have hnb136 := NB214_218.out
              have hnc136 := NB218_214.out
              have hnb137 := NB214_219.out
              have hnc137 := NB219_214.out
              have hcz138_0 : wr.cell? ⟨gb214, 0, none⟩ = some (.int .i64 a1_0) := (blk_cell BK214.out 0).trans rfl
              have hcz138_1 : wr.cell? ⟨gb214, 1, none⟩ = some (.int .i64 a1_1) := (blk_cell BK214.out 1).trans rfl
              have hcz138_2 : wr.cell? ⟨gb214, 2, none⟩ = some (.int .i64 a1_2) := (blk_cell BK214.out 2).trans rfl
              have hcz138_3 : wr.cell? ⟨gb214, 3, none⟩ = some (.int .i64 a1_3) := (blk_cell BK214.out 3).trans rfl
              have hcz138_4 : wr.cell? ⟨gb214, 4, none⟩ = some (.slice A1_4 l1_4.length c1_4) := (blk_cell BK214.out 4).trans rfl
              have hfz138_0 := blk_frozen BK214.out 0
              have hfz138_1 := blk_frozen BK214.out 1
              have hfz138_2 := blk_frozen BK214.out 2
              have hfz138_3 := blk_frozen BK214.out 3
              have hfz138_4 := blk_frozen BK214.out 4
              have hnb139 := NB213_218.out
              have hnc139 := NB218_213.out
              have hnb140 := NB213_219.out
              have hnc140 := NB219_213.out
              have hcz141_0 : wr.cell? ⟨gb213, 0, none⟩ = some (.int .i64 a0_0) := (blk_cell BK213.out 0).trans rfl
              have hcz141_1 : wr.cell? ⟨gb213, 1, none⟩ = some (.int .i64 a0_1) := (blk_cell BK213.out 1).trans rfl
              have hcz141_2 : wr.cell? ⟨gb213, 2, none⟩ = some (.int .i64 a0_2) := (blk_cell BK213.out 2).trans rfl
              have hcz141_3 : wr.cell? ⟨gb213, 3, none⟩ = some (.int .i64 a0_3) := (blk_cell BK213.out 3).trans rfl
              have hcz141_4 : wr.cell? ⟨gb213, 4, none⟩ = some (.slice A0_4 l0_4.length c0_4) := (blk_cell BK213.out 4).trans rfl
              have hfz141_0 := blk_frozen BK213.out 0
              have hfz141_1 := blk_frozen BK213.out 1
              have hfz141_2 := blk_frozen BK213.out 2
              have hfz141_3 := blk_frozen BK213.out 3
              have hfz141_4 := blk_frozen BK213.out 4
              have tk_ : True := trivial
              go_wp2_with (first | (go_at_call 10; clear tk_; (with_reducible refine (river_Gaps.calls k4 a0_0 a0_1 a0_2 a0_3 _ _ l0_4 t254 _ ?side1 ?side2 A132.out).mono ?_); (case side1 => repeat (first | exact (Kd.C_below HR0_4.out HB.out) | (with_reducible apply Kd.C_alloc) | (with_reducible apply Kd.C_drewN) | (with_reducible apply Kd.C_drew))); (case side2 => exact HC0_4.out); rintro e w142 ⟨v255, rfl, ho0, hb⟩; have n0_ := Aside0.mk (Kd.R_below (by (with_reducible repeat (first | apply Kd.R_alloc | apply Kd.R_drewN | apply Kd.R_drew)); exact HO_219004.out) hb); have n1_ := Aside0.mk (Kd.R_below (by (with_reducible repeat (first | apply Kd.R_alloc | apply Kd.R_drewN | apply Kd.R_drew)); exact HO_220004.out) hb); have n2_ := Aside0.mk (Kd.R_lower ho0 (below_size (by repeat (first | (with_reducible first | exact HB.out | apply below_alloc | apply pw_below_drewN | apply below_drew1 | refine below_set ?_ GE213.out | refine below_set ?_ GE214.out | refine below_set ?_ GE218.out | refine below_set ?_ GE219.out) | exact HB.out)))); have n3_ := Aside0.mk (blk_below (g := gb213) (o := .cells #[.int .i64 a0_0, .int .i64 a0_1, .int .i64 a0_2, .int .i64 a0_3, .slice A0_4 l0_4.length c0_4] 24 (0, 0)) (by (with_reducible repeat (first | refine blk_drewN ?_ _ | refine blk_drew ?_ | refine blk_alloc ?_ _)); exact BK213.out) hb); have n4_ := Aside0.mk (blk_below (g := gb214) (o := .cells #[.int .i64 a1_0, .int .i64 a1_1, .int .i64 a1_2, .int .i64 a1_3, .slice A1_4 l1_4.length c1_4] 24 (0, 0)) (by (with_reducible repeat (first | refine blk_drewN ?_ _ | refine blk_drew ?_ | refine blk_alloc ?_ _)); exact BK214.out) hb); have n5_ := Aside0.mk (blk_below (g := gb218) (o := .cells #[.int .i64 0, .int .i64 0, .int .i64 (wrap64 (a0_2 + (wrap64 (a2)))), .int .i64 0, u219004] 24 (0, 0)) (by (with_reducible repeat (first | refine blk_drewN ?_ _ | refine blk_drew ?_ | refine blk_alloc ?_ _)); exact BK218.out) hb); have n6_ := Aside0.mk (blk_below (g := gb219) (o := .cells #[.int .i64 0, .int .i64 0, .int .i64 (wrap64 (a1_2 + (wrap64 (a2)))), .int .i64 0, u220004] 24 (0, 0)) (by (with_reducible repeat (first | refine blk_drewN ?_ _ | refine blk_drew ?_ | refine blk_alloc ?_ _)); exact BK219.out) hb); have n7_ := Aside0.mk (below_step (by repeat (first | (with_reducible first | exact HB.out | apply below_alloc | apply pw_below_drewN | apply below_drew1 | refine below_set ?_ GE213.out | refine below_set ?_ GE214.out | refine below_set ?_ GE218.out | refine below_set ?_ GE219.out) | exact HB.out)) hb); clear HO_219004; clear HO_220004; clear BK213; clear BK214; clear BK218; clear BK219; clear HB; have HO_219004 := n0_; have HO_220004 := n1_; have HO256 := n2_; have BK213 := n3_; have BK214 := n4_; have BK218 := n5_; have BK219 := n6_; have HB := n7_; clear n0_ n1_ n2_ n3_ n4_ n5_ n6_ n7_; (try clear hb); (try clear hb2); (try clear hk); (try clear hi); (try clear ho0); have hnb143 := NB218_219.out; have hnc143 := NB219_218.out; have hcz144_0 : w142.cell? ⟨gb218, 0, none⟩ = some (.int .i64 0) := (blk_cell BK218.out 0).trans rfl; have hcz144_1 : w142.cell? ⟨gb218, 1, none⟩ = some (.int .i64 0) := (blk_cell BK218.out 1).trans rfl; have hcz144_2 : w142.cell? ⟨gb218, 2, none⟩ = some (.int .i64 (wrap64 (a0_2 + (wrap64 (a2))))) := (blk_cell BK218.out 2).trans rfl; have hcz144_3 : w142.cell? ⟨gb218, 3, none⟩ = some (.int .i64 0) := (blk_cell BK218.out 3).trans rfl; have hcz144_4 : w142.cell? ⟨gb218, 4, none⟩ = some (u219004) := (blk_cell BK218.out 4).trans rfl; have hfz144_0 := blk_frozen BK218.out 0; have hfz144_1 := blk_frozen BK218.out 1; have hfz144_2 := blk_frozen BK218.out 2; have hfz144_3 := blk_frozen BK218.out 3; have hfz144_4 := blk_frozen BK218.out 4; obtain ⟨Ao145, co145, eo145⟩ := Kd.R_slice HO_219004.out; subst eo145))
              as_aux_lemma =>
              have tk_ : True := trivial
              go_wp2_with (first | (go_at_call 10; clear tk_; (with_reducible refine (river_Gaps.calls k4 0 0 (wrap64 (a0_2 + (wrap64 (a2)))) 0 _ _ x219004_3 t257 _ ?side1 ?side2 A133.out).mono ?_); (case side1 => repeat (first | exact (Kd.R_reads' HO_219004.out).2.2 | (with_reducible apply Kd.C_alloc) | (with_reducible apply Kd.C_drewN) | (with_reducible apply Kd.C_drew))); (case side2 => exact (Kd.R_reads' HO_219004.out).2.1); rintro e w146 ⟨v258, rfl, ho0, hb⟩; have n0_ := Aside0.mk (Kd.R_below (by (with_reducible repeat (first | apply Kd.R_alloc | apply Kd.R_drewN | apply Kd.R_drew)); exact HO_219004.out) hb); have n1_ := Aside0.mk (Kd.R_below (by (with_reducible repeat (first | apply Kd.R_alloc | apply Kd.R_drewN | apply Kd.R_drew)); exact HO_220004.out) hb); have n2_ := Aside0.mk (Kd.R_elder' (by (with_reducible repeat (first | apply Kd.R_alloc | apply Kd.R_drewN | apply Kd.R_drew)); exact HO256.out) (Kd.R_base ho0) hb); have n3_ := Aside0.mk (Kd.R_lower (Kd.R_new' ho0 (Kd.R_lt (by (with_reducible repeat (first | apply Kd.R_alloc | apply Kd.R_drewN | apply Kd.R_drew)); exact HO256.out))) (below_size (by repeat (first | (with_reducible first | exact HB.out | apply below_alloc | apply pw_below_drewN | apply below_drew1 | refine below_set ?_ GE213.out | refine below_set ?_ GE214.out | refine below_set ?_ GE218.out | refine below_set ?_ GE219.out) | exact HB.out)))); have n4_ := Aside0.mk (blk_below (g := gb213) (o := .cells #[.int .i64 a0_0, .int .i64 a0_1, .int .i64 a0_2, .int .i64 a0_3, .slice A0_4 l0_4.length c0_4] 24 (0, 0)) (by (with_reducible repeat (first | refine blk_drewN ?_ _ | refine blk_drew ?_ | refine blk_alloc ?_ _)); exact BK213.out) hb); have n5_ := Aside0.mk (blk_below (g := gb214) (o := .cells #[.int .i64 a1_0, .int .i64 a1_1, .int .i64 a1_2, .int .i64 a1_3, .slice A1_4 l1_4.length c1_4] 24 (0, 0)) (by (with_reducible repeat (first | refine blk_drewN ?_ _ | refine blk_drew ?_ | refine blk_alloc ?_ _)); exact BK214.out) hb); have n6_ := Aside0.mk (blk_below (g := gb218) (o := .cells #[.int .i64 0, .int .i64 0, .int .i64 (wrap64 (a0_2 + (wrap64 (a2)))), .int .i64 0, .slice Ao145 x219004_3.length co145] 24 (0, 0)) (by (with_reducible repeat (first | refine blk_drewN ?_ _ | refine blk_drew ?_ | refine blk_alloc ?_ _)); exact BK218.out) hb); have n7_ := Aside0.mk (blk_below (g := gb219) (o := .cells #[.int .i64 0, .int .i64 0, .int .i64 (wrap64 (a1_2 + (wrap64 (a2)))), .int .i64 0, u220004] 24 (0, 0)) (by (with_reducible repeat (first | refine blk_drewN ?_ _ | refine blk_drew ?_ | refine blk_alloc ?_ _)); exact BK219.out) hb); have n8_ := Aside0.mk (below_step (by repeat (first | (with_reducible first | exact HB.out | apply below_alloc | apply pw_below_drewN | apply below_drew1 | refine below_set ?_ GE213.out | refine below_set ?_ GE214.out | refine below_set ?_ GE218.out | refine below_set ?_ GE219.out) | exact HB.out)) hb); clear HO_219004; clear HO_220004; clear HO256; clear BK213; clear BK214; clear BK218; clear BK219; clear HB; have HO_219004 := n0_; have HO_220004 := n1_; have HO256 := n2_; have HO259 := n3_; have BK213 := n4_; have BK214 := n5_; have BK218 := n6_; have BK219 := n7_; have HB := n8_; clear n0_ n1_ n2_ n3_ n4_ n5_ n6_ n7_ n8_; (try clear hb); (try clear hb2); (try clear hk); (try clear hi); (try clear ho0); obtain ⟨Ao147, co147, eo147⟩ := Kd.R_slice HO256.out; subst eo147; obtain ⟨Ao148, co148, eo148⟩ := Kd.R_slice HO259.out; subst eo148))
              go_loopg [15] k4 (fun kq v15 w' => ∃ (x15_5 : Int), v15 = .int .i64 x15_5 ∧ Aside0 (compositorlaw20_RiverMoves.l2 kq a2 t215 t254 t257 x15_5 a0_0 a0_1 a0_2 a0_3 l0_4 a1_0 a1_1 a1_2 a1_3 l1_4 0 0 (wrap64 (a0_2 + (wrap64 (a2)))) 0 x219004_3 0 0 (wrap64 (a1_2 + (wrap64 (a2)))) 0 x220004_4 = some r) ∧ Aside0 (kq ≤ k4) ∧ Aside0 (Kd.R k36 36 w' w.heap.size (fun k_ => some k_ ≠ ((.slice Ao148 t257.length co148) : Value).ownBlock) (.slice Ao147 t254.length co147) t254) ∧ Aside0 (Kd.R k36 36 w' w.heap.size (fun k_ => some k_ ≠ ((.slice Ao147 t254.length co147) : Value).ownBlock) (.slice Ao148 t257.length co148) t257) ∧ Aside0 (Kd.R k33 33 w' w.heap.size (fun k_ => some k_ ≠ (u220004 : Value).ownBlock) (.slice Ao145 x219004_3.length co145) x219004_3) ∧ Aside0 (Kd.R k33 33 w' w.heap.size (fun k_ => some k_ ≠ ((.slice Ao145 x219004_3.length co145) : Value).ownBlock) u220004 x220004_4) ∧ Aside0 (w'.heap[gb213]? = some (.cells #[.int .i64 a0_0, .int .i64 a0_1, .int .i64 a0_2, .int .i64 a0_3, (.slice A0_4 l0_4.length c0_4)] 24 (0, 0))) ∧ Aside0 (w'.heap[gb214]? = some (.cells #[.int .i64 a1_0, .int .i64 a1_1, .int .i64 a1_2, .int .i64 a1_3, (.slice A1_4 l1_4.length c1_4)] 24 (0, 0))) ∧ Aside0 (w'.heap[gb218]? = some (.cells #[.int .i64 0, .int .i64 0, .int .i64 (wrap64 (a0_2 + (wrap64 (a2)))), .int .i64 0, (.slice Ao145 x219004_3.length co145)] 24 (0, 0))) ∧ Aside0 (w'.heap[gb219]? = some (.cells #[.int .i64 0, .int .i64 0, .int .i64 (wrap64 (a1_2 + (wrap64 (a2)))), .int .i64 0, u220004] 24 (0, 0))) ∧ Aside0 (Below w.heap.size w w'))
              case atStart => exact ⟨(0), (by first | rfl | (simp; done) | (simp [*]; done)), H', ⟨Nat.le_refl _⟩, ⟨by (with_reducible repeat (first | apply Kd.R_alloc | apply Kd.R_drewN | apply Kd.R_drew)); exact Kd.R_mono HO256.out (fun _ hk => hk.2)⟩, ⟨by (with_reducible repeat (first | apply Kd.R_alloc | apply Kd.R_drewN | apply Kd.R_drew)); exact Kd.R_mono HO259.out (fun _ hk => hk.2)⟩, ⟨by (with_reducible repeat (first | apply Kd.R_alloc | apply Kd.R_drewN | apply Kd.R_drew)); exact HO_219004.out⟩, ⟨by (with_reducible repeat (first | apply Kd.R_alloc | apply Kd.R_drewN | apply Kd.R_drew)); exact HO_220004.out⟩, ⟨by (with_reducible repeat (first | refine blk_drewN ?_ _ | refine blk_drew ?_ | refine blk_alloc ?_ _)); exact BK213.out⟩, ⟨by (with_reducible repeat (first | refine blk_drewN ?_ _ | refine blk_drew ?_ | refine blk_alloc ?_ _)); exact BK214.out⟩, ⟨by (with_reducible repeat (first | refine blk_drewN ?_ _ | refine blk_drew ?_ | refine blk_alloc ?_ _)); exact BK218.out⟩, ⟨by (with_reducible repeat (first | refine blk_drewN ?_ _ | refine blk_drew ?_ | refine blk_alloc ?_ _)); exact BK219.out⟩, ⟨by repeat (first | (with_reducible first | exact HB.out | apply below_alloc | apply pw_below_drewN | apply below_drew1 | refine below_set ?_ GE213.out | refine below_set ?_ GE214.out | refine below_set ?_ GE218.out | refine below_set ?_ GE219.out) | exact HB.out)⟩⟩
              case round =>
               clear H'
               (try clear c1); (try clear p2)
               (try clear q2); (try clear hx2)
               (try clear p6); (try clear c9)
               (try clear c10); (try clear c11)
               (try clear c12); (try clear c13)
               (try clear c14); (try clear p24)
               (try clear q24); (try clear hx24)
               (try clear p25); (try clear q25)
               (try clear hx25); (try clear p64)
               (try clear c95); (try clear c95b0)
               (try clear c107); (try clear c108)
               (try clear c108b0); (try clear c109)
               (try clear c118); (try clear c119)
               (try clear c120); (try clear c121)
               (try clear c127); (try clear c128)
               (try clear c129); (try clear c130)
               (try clear c134); (try clear c134b0)
               (try clear c134b1); (try clear c134b2)
               (try clear c135); (try clear c136)
               (try clear c137); (try clear c139)
               (try clear c140); (try clear c143)
               (try clear hcz122_0); (try clear hcz122_1)
               (try clear hcz122_2); (try clear hcz122_3)
               (try clear hcz122_4); (try clear hcz131_0)
               (try clear hcz131_1); (try clear hcz131_2)
               (try clear hcz131_3); (try clear hcz131_4)
               (try clear hcz138_0); (try clear hcz138_1)
               (try clear hcz138_2); (try clear hcz138_3)
               (try clear hcz138_4); (try clear hcz141_0)
               (try clear hcz141_1); (try clear hcz141_2)
               (try clear hcz141_3); (try clear hcz141_4)
               (try clear hcz144_0); (try clear hcz144_1)
               (try clear hcz144_2); (try clear hcz144_3)
               (try clear hcz144_4); (try clear hfz122_0)
               (try clear hfz122_1); (try clear hfz122_2)
               (try clear hfz122_3); (try clear hfz122_4)
               (try clear hfz131_0); (try clear hfz131_1)
               (try clear hfz131_2); (try clear hfz131_3)
               (try clear hfz131_4); (try clear hfz138_0)
               (try clear hfz138_1); (try clear hfz138_2)
               (try clear hfz138_3); (try clear hfz138_4)
               (try clear hfz141_0); (try clear hfz141_1)
               (try clear hfz141_2); (try clear hfz141_3)
               (try clear hfz141_4); (try clear hfz144_0)
               (try clear hfz144_1); (try clear hfz144_2)
               (try clear hfz144_3); (try clear hfz144_4)
               (try clear hx242_0); (try clear hx242_1)
               (try clear hx248_0); (try clear hx248_1)
               (try clear hx249_0); (try clear hx249_1)
               (try clear hx250_0); (try clear hx250_1)
               (try clear p242); (try clear p248)
               (try clear p249); (try clear p250)
               (try clear q242); (try clear q248)
               (try clear q249); (try clear q250)
               obtain ⟨x15_5, rfl, HA, HK5, HO_13, HO_14, HO_219004, HO_220004, BK213, BK214, BK218, BK219, HB⟩ := hrel
               cases gk with
               | zero => exact absurd HA.out (by simp [compositorlaw20_RiverMoves.l2])
               | succ k5 =>
                have H := HA.out
                clear HA
                simp only [compositorlaw20_RiverMoves.l2] at H
                by_cases c149 : x15_5 < (t254.length : Int)
                ·rw [if_pos c149] at H
                 have c149b0 : decide (x15_5 < (t254.length : Int)) = true := decide_eq_true c149
                 clear c149
                 by_cases c150 : 0 ≤ x15_5
                 ·rw [if_pos c150] at H
                  have c150b0 : decide (0 ≤ x15_5) = true := decide_eq_true c150
                  clear c150
                  by_cases c151 : x15_5 < (t257.length : Int)
                  ·rw [if_pos c151] at H
                   have c151b0 : decide (x15_5 < (t257.length : Int)) = true := decide_eq_true c151
                   clear c151
                   by_cases c152 : (wrap64 (((rd_T36 t254 x15_5).f0) + (wrap64 (a2)))) = ((rd_T36 t257 x15_5).f0)
                   ·rw [if_pos c152] at H
                    have c152b0 : ((wrap64 (((rd_T36 t254 x15_5).f0) + (wrap64 (a2)))) == ((rd_T36 t257 x15_5).f0)) = true := beq_iff_eq.mpr c152
                    have c152b1 : ((wrap64 (((rd_T36 t254 x15_5).f0) + (wrap64 (a2)))) != ((rd_T36 t257 x15_5).f0)) = false := bne_eq_false_iff_eq.mpr c152
                    (try (have c152b2 : ((IntKind.i64.wrap (((rd_T36 t254 x15_5).f0) + (IntKind.i64.wrap (a2)))) == ((rd_T36 t257 x15_5).f0)) = true := by simp only [i64_w]; exact (beq_iff_eq.mpr c152)))
                    (try (have c152b3 : ((IntKind.i64.wrap (((rd_T36 t254 x15_5).f0) + (IntKind.i64.wrap (a2)))) != ((rd_T36 t257 x15_5).f0)) = false := by simp only [i64_w]; exact (bne_eq_false_iff_eq.mpr c152)))
                    clear c152
                    by_cases c153 : (wrap64 (((rd_T36 t254 x15_5).f1) + (wrap64 (a2)))) = ((rd_T36 t257 x15_5).f1)
                    ·rw [if_pos c153] at H
                     have c153b0 : ((wrap64 (((rd_T36 t254 x15_5).f1) + (wrap64 (a2)))) == ((rd_T36 t257 x15_5).f1)) = true := beq_iff_eq.mpr c153
                     have c153b1 : ((wrap64 (((rd_T36 t254 x15_5).f1) + (wrap64 (a2)))) != ((rd_T36 t257 x15_5).f1)) = false := bne_eq_false_iff_eq.mpr c153
                     (try (have c153b2 : ((IntKind.i64.wrap (((rd_T36 t254 x15_5).f1) + (IntKind.i64.wrap (a2)))) == ((rd_T36 t257 x15_5).f1)) = true := by simp only [i64_w]; exact (beq_iff_eq.mpr c153)))
                     (try (have c153b3 : ((IntKind.i64.wrap (((rd_T36 t254 x15_5).f1) + (IntKind.i64.wrap (a2)))) != ((rd_T36 t257 x15_5).f1)) = false := by simp only [i64_w]; exact (bne_eq_false_iff_eq.mpr c153)))
                     clear c153
                     have H' := Aside0.mk H
                     clear H
                     try go_wp2
                     have n0_ := Aside0.mk (Kd.R_drew HO_13.out)
                     have n1_ := Aside0.mk (Kd.R_drew HO_14.out)
                     have n2_ := Aside0.mk (Kd.R_drew HO_219004.out)
                     have n3_ := Aside0.mk (Kd.R_drew HO_220004.out)
                     have n4_ := Aside0.mk (blk_drew BK213.out)
                     have n5_ := Aside0.mk (blk_drew BK214.out)
                     have n6_ := Aside0.mk (blk_drew BK218.out)
                     have n7_ := Aside0.mk (blk_drew BK219.out)
                     have n8_ := Aside0.mk (below_drew1 HB.out)
                     clear HO_13
                     clear HO_14
                     clear HO_219004
                     clear HO_220004
                     clear BK213
                     clear BK214
                     clear BK218
                     clear BK219
                     clear HB
                     have HO_13 := n0_
                     have HO_14 := n1_
                     have HO_219004 := n2_
                     have HO_220004 := n3_
                     have BK213 := n4_
                     have BK214 := n5_
                     have BK218 := n6_
                     have BK219 := n7_
                     have HB := n8_
                     clear n0_ n1_ n2_ n3_ n4_ n5_ n6_ n7_ n8_
                     have p260 : 0 ≤ (x15_5 : Int) := odt
                     have q260 : x15_5 < (t254.length : Int) := odt
                     obtain ⟨ad260, e260, hx260_0, hx260_1⟩ := at_T36 (Kd.R_reads' HO_13.out).2.2 x15_5 p260 q260
                     cases e260
                     replace p260 := eq_true p260
                     replace q260 := eq_true q260
                     have p261 : 0 ≤ (x15_5 : Int) := odt
                     have q261 : x15_5 < (t257.length : Int) := odt
                     obtain ⟨ad261, e261, hx261_0, hx261_1⟩ := at_T36 (Kd.R_reads' HO_14.out).2.2 x15_5 p261 q261
                     cases e261
                     replace p261 := eq_true p261
                     replace q261 := eq_true q261
                     have p262 : 0 ≤ (x15_5 : Int) := odt
                     have q262 : x15_5 < (t254.length : Int) := odt
                     obtain ⟨ad262, e262, hx262_0, hx262_1⟩ := at_T36 (Kd.R_reads' HO_13.out).2.2 x15_5 p262 q262
                     obtain rfl : ad260 = ad262 := (by injection e262)
                     replace p262 := eq_true p262
                     replace q262 := eq_true q262
                     have p263 : 0 ≤ (x15_5 : Int) := odt
                     have q263 : x15_5 < (t257.length : Int) := odt
                     obtain ⟨ad263, e263, hx263_0, hx263_1⟩ := at_T36 (Kd.R_reads' HO_14.out).2.2 x15_5 p263 q263
                     obtain rfl : ad261 = ad263 := (by injection e263)
                     replace p263 := eq_true p263
                     replace q263 := eq_true q263
                     refine start_ (n := 30) (S := fun w' => w'.cell? (ad260.add ((x15_5).toNat * 2)) = some (.int .i64 ((rd_T36 t254 x15_5).f0)) ∧ w'.cell? ⟨(ad260.add ((x15_5).toNat * 2)).block, (ad260.add ((x15_5).toNat * 2)).off + 1, none⟩ = some (.int .i64 ((rd_T36 t254 x15_5).f1)) ∧ w'.cell? (ad261.add ((x15_5).toNat * 2)) = some (.int .i64 ((rd_T36 t257 x15_5).f0)) ∧ w'.cell? ⟨(ad261.add ((x15_5).toNat * 2)).block, (ad261.add ((x15_5).toNat * 2)).off + 1, none⟩ = some (.int .i64 ((rd_T36 t257 x15_5).f1)) ∧ w'.cell? (ad260.add ((x15_5).toNat * 2)) = some (.int .i64 ((rd_T36 t254 x15_5).f0)) ∧ w'.cell? ⟨(ad260.add ((x15_5).toNat * 2)).block, (ad260.add ((x15_5).toNat * 2)).off + 1, none⟩ = some (.int .i64 ((rd_T36 t254 x15_5).f1)) ∧ w'.cell? (ad261.add ((x15_5).toNat * 2)) = some (.int .i64 ((rd_T36 t257 x15_5).f0)) ∧ w'.cell? ⟨(ad261.add ((x15_5).toNat * 2)).block, (ad261.add ((x15_5).toNat * 2)).off + 1, none⟩ = some (.int .i64 ((rd_T36 t257 x15_5).f1))) (ds := []) (bA 30 0) (by kernel_rfl) rfl rfl ⟨hx260_0, hx260_1, hx261_0, hx261_1, hx262_0, hx262_1, hx263_0, hx263_1⟩ (fun hHeld => ?_); refine with_tabW compositorlaw20_RiverMoves.tab26 compositorlaw20_RiverMoves.bits26 (fun HT_ HW_ => ?_)
                     generalize wr.drew = w154 at HO_13 HO_14 HO_219004 HO_220004 BK213 BK214 BK218 BK219 HB hx260_0 hx260_1 hx261_0 hx261_1 hx262_0 hx262_1 hx263_0 hx263_1 hHeld ⊢
                     refine pure_ (i := 0) (N := some 167) (v := ?_) (a' := ?_) (bA 30 1) rfl rfl (any_of HT_.out (by kernel_rfl)) (fun _ _ _ h => h) (Or.inl ⟨by rfl, ?_⟩) ?_ ?_; rotate_left; intro w'; go_simp; with_reducible rfl; rotate_left; simp only [Act.put, List.setIfInBounds_toArray, List.set_cons_zero, List.set_cons_succ, i64_w, i32_w]; rfl
                     refine pure_ (i := 1) (N := some 168) (v := ?_) (a' := ?_) (bA 30 3) rfl rfl (any_of HT_.out (by kernel_rfl)) (fun _ _ _ h => h) (Or.inl ⟨by rfl, ?_⟩) ?_ ?_; rotate_left; intro w'; go_simp; with_reducible rfl; rotate_left; simp only [Act.put, List.setIfInBounds_toArray, List.set_cons_zero, List.set_cons_succ, i64_w, i32_w]; rfl
                     refine pure_ (i := 2) (N := some 169) (v := ?_) (a' := ?_) (bA 30 7) rfl rfl (any_of HT_.out (by kernel_rfl)) (fun _ _ _ h => h) (Or.inl ⟨by rfl, ?_⟩) ?_ ?_; rotate_left; intro w'; go_simp; with_reducible rfl; rotate_left; simp only [Act.put, List.setIfInBounds_toArray, List.set_cons_zero, List.set_cons_succ, i64_w, i32_w]; rfl
                     refine pure_ (i := 3) (N := some 170) (v := ?_) (a' := ?_) (bA 30 15) rfl rfl (any_of HT_.out (by kernel_rfl)) (fun _ _ _ h => h) (Or.inl ⟨by rfl, ?_⟩) ?_ ?_; rotate_left; intro w'; go_simp; with_reducible rfl; rotate_left; simp only [Act.put, List.setIfInBounds_toArray, List.set_cons_zero, List.set_cons_succ, i64_w, i32_w]; rfl
                     refine pure_ (i := 5) (N := some 172) (v := ?_) (a' := ?_) (bA 30 47) rfl rfl (any_of HT_.out (by kernel_rfl)) (fun _ _ _ h => h) (Or.inl ⟨by rfl, ?_⟩) ?_ ?_; rotate_left; intro w'; go_simp; with_reducible rfl; rotate_left; simp only [Act.put, List.setIfInBounds_toArray, List.set_cons_zero, List.set_cons_succ, i64_w, i32_w]; rfl
                     refine pure_ (i := 6) (N := some 173) (v := ?_) (a' := ?_) (bA 30 111) rfl rfl (any_of HT_.out (by kernel_rfl)) (fun _ _ _ h => h) (Or.inl ⟨by rfl, ?_⟩) ?_ ?_; rotate_left; intro w'; go_simp; with_reducible rfl; rotate_left; simp only [Act.put, List.setIfInBounds_toArray, List.set_cons_zero, List.set_cons_succ, i64_w, i32_w]; rfl
                     refine pure_ (i := 8) (N := some 175) (v := ?_) (a' := ?_) (bA 30 367) rfl rfl (any_of HT_.out (by kernel_rfl)) (fun _ _ _ h => h) (Or.inl ⟨by rfl, ?_⟩) ?_ ?_; rotate_left; intro w'; go_simp; with_reducible rfl; rotate_left; simp only [Act.put, List.setIfInBounds_toArray, List.set_cons_zero, List.set_cons_succ, i64_w, i32_w]; rfl
                     refine pure_ (i := 9) (N := some 176) (v := ?_) (a' := ?_) (bA 30 879) rfl rfl (any_of HT_.out (by kernel_rfl)) (fun _ _ _ h => h) (Or.inl ⟨by rfl, ?_⟩) ?_ ?_; rotate_left; intro w'; go_simp; with_reducible rfl; rotate_left; simp only [Act.put, List.setIfInBounds_toArray, List.set_cons_zero, List.set_cons_succ, i64_w, i32_w]; rfl
                     refine pure_ (i := 10) (N := some 177) (v := ?_) (a' := ?_) (bA 30 1903) rfl rfl (any_of HT_.out (by kernel_rfl)) (fun _ _ _ h => h) (Or.inl ⟨by rfl, ?_⟩) ?_ ?_; rotate_left; intro w'; go_simp; with_reducible rfl; rotate_left; simp only [Act.put, List.setIfInBounds_toArray, List.set_cons_zero, List.set_cons_succ, i64_w, i32_w]; rfl
                     refine pure_ (i := 11) (N := some 178) (v := ?_) (a' := ?_) (bA 30 3951) rfl rfl (any_of HT_.out (by kernel_rfl)) (fun _ _ _ h => h) (Or.inl ⟨by rfl, ?_⟩) ?_ ?_; rotate_left; intro w'; go_simp; with_reducible rfl; rotate_left; simp only [Act.put, List.setIfInBounds_toArray, List.set_cons_zero, List.set_cons_succ, i64_w, i32_w]; rfl
                     refine take_ (i := 4) (N := some 171) (v := ?_) (a' := ?_) (bA 30 3967) rfl rfl (take_ofW HT_.out HW_.out (by kernel_rfl)) (fun _ _ _ h => h) (Or.inl ⟨by rfl, ?_⟩) hHeld ?_ ?_; rotate_left; rintro w' ⟨s0, s1, s2, s3, s4, s5, s6, s7⟩; go_simp; with_reducible rfl; rotate_left; simp only [Act.put, List.setIfInBounds_toArray, List.set_cons_zero, List.set_cons_succ, i64_w, i32_w]; rfl
                     refine pure_ (i := 7) (N := some 174) (v := ?_) (a' := ?_) (bA 30 4095) rfl rfl (any_of HT_.out (by kernel_rfl)) (fun _ _ _ h => h) (Or.inl ⟨by rfl, ?_⟩) ?_ ?_; rotate_left; intro w'; go_simp; with_reducible rfl; rotate_left; simp only [Act.put, List.setIfInBounds_toArray, List.set_cons_zero, List.set_cons_succ, i64_w, i32_w]; rfl
                     refine take_ (i := 12) (N := some 179) (v := ?_) (a' := ?_) (bA 30 8191) rfl rfl (take_ofW HT_.out HW_.out (by kernel_rfl)) (fun _ _ _ h => h) (Or.inl ⟨by rfl, ?_⟩) hHeld ?_ ?_; rotate_left; rintro w' ⟨s0, s1, s2, s3, s4, s5, s6, s7⟩; go_simp; with_reducible rfl; rotate_left; simp only [Act.put, List.setIfInBounds_toArray, List.set_cons_zero, List.set_cons_succ, i64_w, i32_w]; rfl
                     refine pure_ (i := 13) (N := some 180) (v := ?_) (a' := ?_) (bA 30 16383) rfl rfl (any_of HT_.out (by kernel_rfl)) (fun _ _ _ h => h) (Or.inl ⟨by rfl, ?_⟩) ?_ ?_; rotate_left; intro w'; go_simp; with_reducible rfl; rotate_left; simp only [Act.put, List.setIfInBounds_toArray, List.set_cons_zero, List.set_cons_succ, i64_w, i32_w]; rfl
                     refine pure_ (i := 14) (N := some 181) (v := ?_) (a' := ?_) (bA 30 32767) rfl rfl (any_of HT_.out (by kernel_rfl)) (fun _ _ _ h => h) (Or.inl ⟨by rfl, ?_⟩) ?_ ?_; rotate_left; intro w'; go_simp; with_reducible rfl; rotate_left; simp only [Act.put, List.setIfInBounds_toArray, List.set_cons_zero, List.set_cons_succ, i64_w, i32_w]; rfl
                     refine pure_ (i := 15) (N := some 182) (v := ?_) (a' := ?_) (bA 30 65535) rfl rfl (any_of HT_.out (by kernel_rfl)) (fun _ _ _ h => h) (Or.inl ⟨by rfl, ?_⟩) ?_ ?_; rotate_left; intro w'; go_simp; with_reducible rfl; rotate_left; simp only [Act.put, List.setIfInBounds_toArray, List.set_cons_zero, List.set_cons_succ, i64_w, i32_w]; rfl
                     refine pure_ (i := 16) (N := some 183) (v := ?_) (a' := ?_) (bA 30 131071) rfl rfl (any_of HT_.out (by kernel_rfl)) (fun _ _ _ h => h) (Or.inl ⟨by rfl, ?_⟩) ?_ ?_; rotate_left; intro w'; go_simp; with_reducible rfl; rotate_left; simp only [Act.put, List.setIfInBounds_toArray, List.set_cons_zero, List.set_cons_succ, i64_w, i32_w]; rfl
                     refine pure_ (i := 17) (N := some 184) (v := ?_) (a' := ?_) (bA 30 262143) rfl rfl (any_of HT_.out (by kernel_rfl)) (fun _ _ _ h => h) (Or.inl ⟨by rfl, ?_⟩) ?_ ?_; rotate_left; intro w'; go_simp; with_reducible rfl; rotate_left; simp only [Act.put, List.setIfInBounds_toArray, List.set_cons_zero, List.set_cons_succ, i64_w, i32_w]; rfl
                     refine pure_ (i := 18) (N := some 185) (v := ?_) (a' := ?_) (bA 30 524287) rfl rfl (any_of HT_.out (by kernel_rfl)) (fun _ _ _ h => h) (Or.inl ⟨by rfl, ?_⟩) ?_ ?_; rotate_left; intro w'; go_simp; with_reducible rfl; rotate_left; simp only [Act.put, List.setIfInBounds_toArray, List.set_cons_zero, List.set_cons_succ, i64_w, i32_w]; rfl
                     refine pure_ (i := 20) (N := some 187) (v := ?_) (a' := ?_) (bA 30 1572863) rfl rfl (any_of HT_.out (by kernel_rfl)) (fun _ _ _ h => h) (Or.inl ⟨by rfl, ?_⟩) ?_ ?_; rotate_left; intro w'; go_simp; with_reducible rfl; rotate_left; simp only [Act.put, List.setIfInBounds_toArray, List.set_cons_zero, List.set_cons_succ, i64_w, i32_w]; rfl
                     refine pure_ (i := 21) (N := some 188) (v := ?_) (a' := ?_) (bA 30 3670015) rfl rfl (any_of HT_.out (by kernel_rfl)) (fun _ _ _ h => h) (Or.inl ⟨by rfl, ?_⟩) ?_ ?_; rotate_left; intro w'; go_simp; with_reducible rfl; rotate_left; simp only [Act.put, List.setIfInBounds_toArray, List.set_cons_zero, List.set_cons_succ, i64_w, i32_w]; rfl
                     refine pure_ (i := 23) (N := some 190) (v := ?_) (a' := ?_) (bA 30 12058623) rfl rfl (any_of HT_.out (by kernel_rfl)) (fun _ _ _ h => h) (Or.inl ⟨by rfl, ?_⟩) ?_ ?_; rotate_left; intro w'; go_simp; with_reducible rfl; rotate_left; simp only [Act.put, List.setIfInBounds_toArray, List.set_cons_zero, List.set_cons_succ, i64_w, i32_w]; rfl
                     refine pure_ (i := 24) (N := some 191) (v := ?_) (a' := ?_) (bA 30 28835839) rfl rfl (any_of HT_.out (by kernel_rfl)) (fun _ _ _ h => h) (Or.inl ⟨by rfl, ?_⟩) ?_ ?_; rotate_left; intro w'; go_simp; with_reducible rfl; rotate_left; simp only [Act.put, List.setIfInBounds_toArray, List.set_cons_zero, List.set_cons_succ, i64_w, i32_w]; rfl
                     refine pure_ (i := 25) (N := some 192) (v := ?_) (a' := ?_) (bA 30 62390271) rfl rfl (any_of HT_.out (by kernel_rfl)) (fun _ _ _ h => h) (Or.inl ⟨by rfl, ?_⟩) ?_ ?_; rotate_left; intro w'; go_simp; with_reducible rfl; rotate_left; simp only [Act.put, List.setIfInBounds_toArray, List.set_cons_zero, List.set_cons_succ, i64_w, i32_w]; rfl
                     refine pure_ (i := 26) (N := some 193) (v := ?_) (a' := ?_) (bA 30 129499135) rfl rfl (any_of HT_.out (by kernel_rfl)) (fun _ _ _ h => h) (Or.inl ⟨by rfl, ?_⟩) ?_ ?_; rotate_left; intro w'; go_simp; with_reducible rfl; rotate_left; simp only [Act.put, List.setIfInBounds_toArray, List.set_cons_zero, List.set_cons_succ, i64_w, i32_w]; rfl
                     refine take_ (i := 19) (N := some 186) (v := ?_) (a' := ?_) (bA 30 130023423) rfl rfl (take_ofW HT_.out HW_.out (by kernel_rfl)) (fun _ _ _ h => h) (Or.inl ⟨by rfl, ?_⟩) hHeld ?_ ?_; rotate_left; rintro w' ⟨s0, s1, s2, s3, s4, s5, s6, s7⟩; go_simp; with_reducible rfl; rotate_left; simp only [Act.put, List.setIfInBounds_toArray, List.set_cons_zero, List.set_cons_succ, i64_w, i32_w]; rfl
                     refine pure_ (i := 22) (N := some 189) (v := ?_) (a' := ?_) (bA 30 134217727) rfl rfl (any_of HT_.out (by kernel_rfl)) (fun _ _ _ h => h) (Or.inl ⟨by rfl, ?_⟩) ?_ ?_; rotate_left; intro w'; go_simp; with_reducible rfl; rotate_left; simp only [Act.put, List.setIfInBounds_toArray, List.set_cons_zero, List.set_cons_succ, i64_w, i32_w]; rfl
                     refine take_ (i := 27) (N := some 194) (v := ?_) (a' := ?_) (bA 30 268435455) rfl rfl (take_ofW HT_.out HW_.out (by kernel_rfl)) (fun _ _ _ h => h) (Or.inl ⟨by rfl, ?_⟩) hHeld ?_ ?_; rotate_left; rintro w' ⟨s0, s1, s2, s3, s4, s5, s6, s7⟩; go_simp; with_reducible rfl; rotate_left; simp only [Act.put, List.setIfInBounds_toArray, List.set_cons_zero, List.set_cons_succ, i64_w, i32_w]; rfl
                     refine pure_ (i := 28) (N := some 195) (v := ?_) (a' := ?_) (bA 30 536870911) rfl rfl (any_of HT_.out (by kernel_rfl)) (fun _ _ _ h => h) (Or.inl ⟨by rfl, ?_⟩) ?_ ?_; rotate_left; intro w'; go_simp; with_reducible rfl; rotate_left; simp only [Act.put, List.setIfInBounds_toArray, List.set_cons_zero, List.set_cons_succ, i64_w, i32_w]; rfl
                     refine pure_ (i := 29) (N := some 196) (v := ?_) (a' := ?_) (bA 30 1073741823) rfl rfl (any_of HT_.out (by kernel_rfl)) (fun _ _ _ h => h) (Or.inl ⟨by rfl, ?_⟩) ?_ ?_; rotate_left; intro w'; go_simp; with_reducible rfl; rotate_left; simp only [Act.put, List.setIfInBounds_toArray, List.set_cons_zero, List.set_cons_succ, i64_w, i32_w]; rfl
                     refine done_ (done_of HT_.out (by kernel_rfl)) ?_
                     try go_wp2
                     go_roundg k5
                     case measure => have := HJ4.out; have := HJ20.out; have := HK3.out; have := HK4.out; have := HK5.out; omega
                     case rel => exact ⟨(wrap64 (x15_5 + 1)), (by first | rfl | (simp; done) | (simp [*]; done)), H', ⟨by have := HJ4.out; have := HJ20.out; have := HK3.out; have := HK4.out; have := HK5.out; omega⟩, ⟨by (with_reducible repeat (first | apply Kd.R_alloc | apply Kd.R_drewN | apply Kd.R_drew)); exact HO_13.out⟩, ⟨by (with_reducible repeat (first | apply Kd.R_alloc | apply Kd.R_drewN | apply Kd.R_drew)); exact HO_14.out⟩, ⟨by (with_reducible repeat (first | apply Kd.R_alloc | apply Kd.R_drewN | apply Kd.R_drew)); exact HO_219004.out⟩, ⟨by (with_reducible repeat (first | apply Kd.R_alloc | apply Kd.R_drewN | apply Kd.R_drew)); exact HO_220004.out⟩, ⟨by (with_reducible repeat (first | refine blk_drewN ?_ _ | refine blk_drew ?_ | refine blk_alloc ?_ _)); exact BK213.out⟩, ⟨by (with_reducible repeat (first | refine blk_drewN ?_ _ | refine blk_drew ?_ | refine blk_alloc ?_ _)); exact BK214.out⟩, ⟨by (with_reducible repeat (first | refine blk_drewN ?_ _ | refine blk_drew ?_ | refine blk_alloc ?_ _)); exact BK218.out⟩, ⟨by (with_reducible repeat (first | refine blk_drewN ?_ _ | refine blk_drew ?_ | refine blk_alloc ?_ _)); exact BK219.out⟩, ⟨by repeat (first | (with_reducible first | exact HB.out | apply below_alloc | apply pw_below_drewN | apply below_drew1 | refine below_set ?_ GE213.out | refine below_set ?_ GE214.out | refine below_set ?_ GE218.out | refine below_set ?_ GE219.out) | exact HB.out)⟩⟩
                    ·rw [if_neg c153] at H
                     exact absurd H (by simp)
                   ·rw [if_neg c152] at H
                    have c152b0 : ((wrap64 (((rd_T36 t254 x15_5).f0) + (wrap64 (a2)))) == ((rd_T36 t257 x15_5).f0)) = false := beq_eq_false_iff_ne.mpr c152
                    have c152b1 : ((wrap64 (((rd_T36 t254 x15_5).f0) + (wrap64 (a2)))) != ((rd_T36 t257 x15_5).f0)) = true := bne_iff_ne.mpr c152
                    (try (have c152b2 : ((IntKind.i64.wrap (((rd_T36 t254 x15_5).f0) + (IntKind.i64.wrap (a2)))) == ((rd_T36 t257 x15_5).f0)) = false := by simp only [i64_w]; exact (beq_eq_false_iff_ne.mpr c152)))
                    (try (have c152b3 : ((IntKind.i64.wrap (((rd_T36 t254 x15_5).f0) + (IntKind.i64.wrap (a2)))) != ((rd_T36 t257 x15_5).f0)) = true := by simp only [i64_w]; exact (bne_iff_ne.mpr c152)))
                    exact absurd H (by simp)
                  ·rw [if_neg c151] at H
                   exact absurd H (by simp)
                 ·rw [if_neg c150] at H
                  exact absurd H (by simp)
                ·rw [if_neg c149] at H
                 have c149b0 : decide (x15_5 < (t254.length : Int)) = false := decide_eq_false c149
                 clear c149
                 by_cases c155 : t215 = true
                 ·subst c155
                  have H1 : ((river_Count.f a0_0 a0_1 a0_2 a0_3 l0_4 a1_0 a1_1 a1_2 a1_3 l1_4).bind fun t264 => ((river_Count.f 0 0 (wrap64 (a0_2 + (wrap64 (a2)))) 0 x219004_3 0 0 (wrap64 (a1_2 + (wrap64 (a2)))) 0 x220004_4).bind fun t265 => (some (t264 == t265)))) = some r := by rw [if_pos rfl] at H; exact H
                  clear H
                  have H := H1
                  clear H1
                  replace H := Option.bind_eq_some_iff.mp H
                  obtain ⟨t264, A1560, H⟩ := H
                  replace H : ((river_Count.f 0 0 (wrap64 (a0_2 + (wrap64 (a2)))) 0 x219004_3 0 0 (wrap64 (a1_2 + (wrap64 (a2)))) 0 x220004_4).bind fun t265 => (some (t264 == t265))) = some r := H
                  have A156 := Aside0.mk A1560
                  clear A1560
                  replace H := Option.bind_eq_some_iff.mp H
                  obtain ⟨t265, A1570, H⟩ := H
                  replace H : (some (t264 == t265)) = some r := H
                  have A157 := Aside0.mk A1570
                  clear A1570
                  obtain rfl := Option.some.inj H
                  try go_wp2
                  have n0_ := Aside0.mk (Kd.R_drew HO_13.out)
                  have n1_ := Aside0.mk (Kd.R_drew HO_14.out)
                  have n2_ := Aside0.mk (Kd.R_drew HO_219004.out)
                  have n3_ := Aside0.mk (Kd.R_drew HO_220004.out)
                  have n4_ := Aside0.mk (blk_drew BK213.out)
                  have n5_ := Aside0.mk (blk_drew BK214.out)
                  have n6_ := Aside0.mk (blk_drew BK218.out)
                  have n7_ := Aside0.mk (blk_drew BK219.out)
                  have n8_ := Aside0.mk (below_drew1 HB.out)
                  clear HO_13
                  clear HO_14
                  clear HO_219004
                  clear HO_220004
                  clear BK213
                  clear BK214
                  clear BK218
                  clear BK219
                  clear HB
                  have HO_13 := n0_
                  have HO_14 := n1_
                  have HO_219004 := n2_
                  have HO_220004 := n3_
                  have BK213 := n4_
                  have BK214 := n5_
                  have BK218 := n6_
                  have BK219 := n7_
                  have HB := n8_
                  clear n0_ n1_ n2_ n3_ n4_ n5_ n6_ n7_ n8_
                  refine start_ (n := 11) (S := fun w' => w'.cell? ⟨gb213, 0, none⟩ = some (.int .i64 a0_0) ∧ w'.cell? ⟨gb213, 1, none⟩ = some (.int .i64 a0_1) ∧ w'.cell? ⟨gb213, 2, none⟩ = some (.int .i64 a0_2) ∧ w'.cell? ⟨gb213, 3, none⟩ = some (.int .i64 a0_3) ∧ w'.cell? ⟨gb213, 4, none⟩ = some (.slice A0_4 l0_4.length c0_4) ∧ w'.cell? ⟨gb214, 0, none⟩ = some (.int .i64 a1_0) ∧ w'.cell? ⟨gb214, 1, none⟩ = some (.int .i64 a1_1) ∧ w'.cell? ⟨gb214, 2, none⟩ = some (.int .i64 a1_2) ∧ w'.cell? ⟨gb214, 3, none⟩ = some (.int .i64 a1_3) ∧ w'.cell? ⟨gb214, 4, none⟩ = some (.slice A1_4 l1_4.length c1_4) ∧ w'.cell? ⟨gb218, 0, none⟩ = some (.int .i64 0) ∧ w'.cell? ⟨gb218, 1, none⟩ = some (.int .i64 0) ∧ w'.cell? ⟨gb218, 2, none⟩ = some (.int .i64 (wrap64 (a0_2 + (wrap64 (a2))))) ∧ w'.cell? ⟨gb218, 3, none⟩ = some (.int .i64 0) ∧ w'.cell? ⟨gb218, 4, none⟩ = some (.slice Ao145 x219004_3.length co145) ∧ w'.cell? ⟨gb219, 0, none⟩ = some (.int .i64 0) ∧ w'.cell? ⟨gb219, 1, none⟩ = some (.int .i64 0) ∧ w'.cell? ⟨gb219, 2, none⟩ = some (.int .i64 (wrap64 (a1_2 + (wrap64 (a2))))) ∧ w'.cell? ⟨gb219, 3, none⟩ = some (.int .i64 0) ∧ w'.cell? ⟨gb219, 4, none⟩ = some (u220004)) (ds := []) (bA 11 0) (by kernel_rfl) rfl rfl ⟨(blk_cell BK213.out 0).trans rfl, (blk_cell BK213.out 1).trans rfl, (blk_cell BK213.out 2).trans rfl, (blk_cell BK213.out 3).trans rfl, (blk_cell BK213.out 4).trans rfl, (blk_cell BK214.out 0).trans rfl, (blk_cell BK214.out 1).trans rfl, (blk_cell BK214.out 2).trans rfl, (blk_cell BK214.out 3).trans rfl, (blk_cell BK214.out 4).trans rfl, (blk_cell BK218.out 0).trans rfl, (blk_cell BK218.out 1).trans rfl, (blk_cell BK218.out 2).trans rfl, (blk_cell BK218.out 3).trans rfl, (blk_cell BK218.out 4).trans rfl, (blk_cell BK219.out 0).trans rfl, (blk_cell BK219.out 1).trans rfl, (blk_cell BK219.out 2).trans rfl, (blk_cell BK219.out 3).trans rfl, (blk_cell BK219.out 4).trans rfl⟩ (fun hHeld => ?_); refine with_tabW compositorlaw20_RiverMoves.tab28 compositorlaw20_RiverMoves.bits28 (fun HT_ HW_ => ?_)
                  generalize wr.drew = w158 at HO_13 HO_14 HO_219004 HO_220004 BK213 BK214 BK218 BK219 HB hHeld ⊢
                  refine pure_ (i := 0) (N := some 197) (v := ?_) (a' := ?_) (bA 11 1) rfl rfl (any_of HT_.out (by kernel_rfl)) (fun _ _ _ h => h) (Or.inl ⟨by rfl, ?_⟩) ?_ ?_; rotate_left; intro w'; go_simp; with_reducible rfl; rotate_left; simp only [Act.put, List.setIfInBounds_toArray, List.set_cons_zero, List.set_cons_succ, i64_w, i32_w]; rfl
                  refine pure_ (i := 1) (N := some 198) (v := ?_) (a' := ?_) (bA 11 3) rfl rfl (any_of HT_.out (by kernel_rfl)) (fun _ _ _ h => h) (Or.inl ⟨by rfl, ?_⟩) ?_ ?_; rotate_left; intro w'; go_simp; with_reducible rfl; rotate_left; simp only [Act.put, List.setIfInBounds_toArray, List.set_cons_zero, List.set_cons_succ, i64_w, i32_w]; rfl
                  refine take_ (i := 2) (N := some 199) (v := ?_) (a' := ?_) (bA 11 7) rfl rfl (take_ofW HT_.out HW_.out (by kernel_rfl)) (fun _ _ _ h => h) (Or.inl ⟨by rfl, ?_⟩) hHeld ?_ ?_; rotate_left; rintro w' ⟨s0, s1, s2, s3, s4, s5, s6, s7, s8, s9, s10, s11, s12, s13, s14, s15, s16, s17, s18, s19⟩; go_simp; with_reducible rfl; rotate_left; simp only [Act.put, List.setIfInBounds_toArray, List.set_cons_zero, List.set_cons_succ, i64_w, i32_w]; rfl
                  refine take_ (i := 3) (N := some 200) (v := ?_) (a' := ?_) (bA 11 15) rfl rfl (take_ofW HT_.out HW_.out (by kernel_rfl)) (fun _ _ _ h => h) (Or.inl ⟨by rfl, ?_⟩) hHeld ?_ ?_; rotate_left; rintro w' ⟨s0, s1, s2, s3, s4, s5, s6, s7, s8, s9, s10, s11, s12, s13, s14, s15, s16, s17, s18, s19⟩; go_simp; with_reducible rfl; rotate_left; simp only [Act.put, List.setIfInBounds_toArray, List.set_cons_zero, List.set_cons_succ, i64_w, i32_w]; rfl
                  refine take_ (i := 5) (N := some 202) (v := ?_) (a' := ?_) (bA 11 47) rfl rfl (take_ofW HT_.out HW_.out (by kernel_rfl)) (fun _ _ _ h => h) (Or.inl ⟨by rfl, ?_⟩) hHeld ?_ ?_; rotate_left; rintro w' ⟨s0, s1, s2, s3, s4, s5, s6, s7, s8, s9, s10, s11, s12, s13, s14, s15, s16, s17, s18, s19⟩; go_simp; with_reducible rfl; rotate_left; simp only [Act.put, List.setIfInBounds_toArray, List.set_cons_zero, List.set_cons_succ, i64_w, i32_w]; rfl
                  refine take_ (i := 6) (N := some 203) (v := ?_) (a' := ?_) (bA 11 111) rfl rfl (take_ofW HT_.out HW_.out (by kernel_rfl)) (fun _ _ _ h => h) (Or.inl ⟨by rfl, ?_⟩) hHeld ?_ ?_; rotate_left; rintro w' ⟨s0, s1, s2, s3, s4, s5, s6, s7, s8, s9, s10, s11, s12, s13, s14, s15, s16, s17, s18, s19⟩; go_simp; with_reducible rfl; rotate_left; simp only [Act.put, List.setIfInBounds_toArray, List.set_cons_zero, List.set_cons_succ, i64_w, i32_w]; rfl
                  refine one_ (i := 4) (N := some 201) (bA 11 127) rfl rfl (one_of HT_.out (by kernel_rfl)) (by decide) (fun K hK => ?_)
                  refine goes_ Try.func12 (by kernel_rfl) rfl #[.agg #[.int .i64 a0_0, .int .i64 a0_1, .int .i64 a0_2, .int .i64 a0_3, .slice A0_4 l0_4.length c0_4], .agg #[.int .i64 a1_0, .int .i64 a1_1, .int .i64 a1_2, .int .i64 a1_3, .slice A1_4 l1_4.length c1_4]] (by rfl) rfl rfl (by (try simp only [List.map_toArray, List.map_cons, List.map_nil]); first | done | rfl | (simp only [List.length_drop, List.length_take]; rfl)) ?_
                  with_reducible refine (river_Count.calls a0_0 a0_1 a0_2 a0_3 _ _ l0_4 a1_0 a1_1 a1_2 a1_3 _ _ l1_4 t264 _ ?side1 ?side2 ?side3 ?side4 A156.out).mono ?_
                  (case side1 => repeat (first | exact (Kd.C_below HR0_4.out HB.out) | (with_reducible apply Kd.C_alloc) | (with_reducible apply Kd.C_drewN) | (with_reducible apply Kd.C_drew)))
                  (case side2 => exact HC0_4.out)
                  (case side3 => repeat (first | exact (Kd.C_below HR1_4.out HB.out) | (with_reducible apply Kd.C_alloc) | (with_reducible apply Kd.C_drewN) | (with_reducible apply Kd.C_drew)))
                  (case side4 => exact HC1_4.out)
                  rintro e w159 ⟨rfl, hb⟩
                  refine ⟨_, rfl, ?_⟩
                  have n0_ := Aside0.mk (Kd.R_below (by (with_reducible repeat (first | apply Kd.R_alloc | apply Kd.R_drewN | apply Kd.R_drew)); exact HO_13.out) hb)
                  have n1_ := Aside0.mk (Kd.R_below (by (with_reducible repeat (first | apply Kd.R_alloc | apply Kd.R_drewN | apply Kd.R_drew)); exact HO_14.out) hb)
                  have n2_ := Aside0.mk (Kd.R_below (by (with_reducible repeat (first | apply Kd.R_alloc | apply Kd.R_drewN | apply Kd.R_drew)); exact HO_219004.out) hb)
                  have n3_ := Aside0.mk (Kd.R_below (by (with_reducible repeat (first | apply Kd.R_alloc | apply Kd.R_drewN | apply Kd.R_drew)); exact HO_220004.out) hb)
                  have n4_ := Aside0.mk (blk_below (g := gb213) (o := .cells #[.int .i64 a0_0, .int .i64 a0_1, .int .i64 a0_2, .int .i64 a0_3, .slice A0_4 l0_4.length c0_4] 24 (0, 0)) (by (with_reducible repeat (first | refine blk_drewN ?_ _ | refine blk_drew ?_ | refine blk_alloc ?_ _)); exact BK213.out) hb)
                  have n5_ := Aside0.mk (blk_below (g := gb214) (o := .cells #[.int .i64 a1_0, .int .i64 a1_1, .int .i64 a1_2, .int .i64 a1_3, .slice A1_4 l1_4.length c1_4] 24 (0, 0)) (by (with_reducible repeat (first | refine blk_drewN ?_ _ | refine blk_drew ?_ | refine blk_alloc ?_ _)); exact BK214.out) hb)
                  have n6_ := Aside0.mk (blk_below (g := gb218) (o := .cells #[.int .i64 0, .int .i64 0, .int .i64 (wrap64 (a0_2 + (wrap64 (a2)))), .int .i64 0, .slice Ao145 x219004_3.length co145] 24 (0, 0)) (by (with_reducible repeat (first | refine blk_drewN ?_ _ | refine blk_drew ?_ | refine blk_alloc ?_ _)); exact BK218.out) hb)
                  have n7_ := Aside0.mk (blk_below (g := gb219) (o := .cells #[.int .i64 0, .int .i64 0, .int .i64 (wrap64 (a1_2 + (wrap64 (a2)))), .int .i64 0, u220004] 24 (0, 0)) (by (with_reducible repeat (first | refine blk_drewN ?_ _ | refine blk_drew ?_ | refine blk_alloc ?_ _)); exact BK219.out) hb)
                  have n8_ := Aside0.mk (below_step (by repeat (first | (with_reducible first | exact HB.out | apply below_alloc | apply pw_below_drewN | apply below_drew1 | refine below_set ?_ GE213.out | refine below_set ?_ GE214.out | refine below_set ?_ GE218.out | refine below_set ?_ GE219.out) | exact HB.out)) hb)
                  clear HO_13
                  clear HO_14
                  clear HO_219004
                  clear HO_220004
                  clear BK213
                  clear BK214
                  clear BK218
                  clear BK219
                  clear HB
                  have HO_13 := n0_
                  have HO_14 := n1_
                  have HO_219004 := n2_
                  have HO_220004 := n3_
                  have BK213 := n4_
                  have BK214 := n5_
                  have BK218 := n6_
                  have BK219 := n7_
                  have HB := n8_
                  clear n0_ n1_ n2_ n3_ n4_ n5_ n6_ n7_ n8_
                  (try clear hb)
                  (try clear hb2)
                  (try clear hk)
                  (try clear hi)
                  obtain ⟨Ao160, co160, eo160⟩ := Kd.R_slice HO_220004.out
                  (first | subst eo160 | (injection eo160 with f1_ f2_ f3_; have f4_ := f1_.symm; have f5_ := f3_.symm; clear f1_ f2_ f3_; subst f4_; subst f5_))
                  refine hK.out _ _ ⟨(blk_cell BK213.out 0).trans rfl, (blk_cell BK213.out 1).trans rfl, (blk_cell BK213.out 2).trans rfl, (blk_cell BK213.out 3).trans rfl, (blk_cell BK213.out 4).trans rfl, (blk_cell BK214.out 0).trans rfl, (blk_cell BK214.out 1).trans rfl, (blk_cell BK214.out 2).trans rfl, (blk_cell BK214.out 3).trans rfl, (blk_cell BK214.out 4).trans rfl, (blk_cell BK218.out 0).trans rfl, (blk_cell BK218.out 1).trans rfl, (blk_cell BK218.out 2).trans rfl, (blk_cell BK218.out 3).trans rfl, (blk_cell BK218.out 4).trans rfl, (blk_cell BK219.out 0).trans rfl, (blk_cell BK219.out 1).trans rfl, (blk_cell BK219.out 2).trans rfl, (blk_cell BK219.out 3).trans rfl, (blk_cell BK219.out 4).trans rfl⟩ (fun hHeld => ?_)
                  clear hK K
                  refine norm_ (a' := ?_) ?_ ?_
                  rotate_left
                  ·show Act.put _ (some 201) _ = _
                   simp only [Act.put, List.setIfInBounds_toArray, List.set_cons_zero, List.set_cons_succ, i64_w, i32_w]
                   rfl
                  refine one_ (i := 7) (N := some 204) (bA 11 255) rfl rfl (one_of HT_.out (by kernel_rfl)) (by decide) (fun K hK => ?_)
                  refine goes_ Try.func12 (by kernel_rfl) rfl #[.agg #[.int .i64 0, .int .i64 0, .int .i64 (wrap64 (a0_2 + (wrap64 (a2)))), .int .i64 0, .slice Ao145 x219004_3.length co145], .agg #[.int .i64 0, .int .i64 0, .int .i64 (wrap64 (a1_2 + (wrap64 (a2)))), .int .i64 0, .slice Ao160 x220004_4.length co160]] (by rfl) rfl rfl (by (try simp only [List.map_toArray, List.map_cons, List.map_nil]); first | done | rfl | (simp only [List.length_drop, List.length_take]; rfl)) ?_
                  with_reducible refine (river_Count.calls 0 0 (wrap64 (a0_2 + (wrap64 (a2)))) 0 _ _ x219004_3 0 0 (wrap64 (a1_2 + (wrap64 (a2)))) 0 _ _ x220004_4 t265 _ ?side1 ?side2 ?side3 ?side4 A157.out).mono ?_
                  (case side1 => repeat (first | exact (Kd.R_reads' HO_219004.out).2.2 | (with_reducible apply Kd.C_alloc) | (with_reducible apply Kd.C_drewN) | (with_reducible apply Kd.C_drew)))
                  (case side2 => exact (Kd.R_reads' HO_219004.out).2.1)
                  (case side3 => repeat (first | exact (Kd.R_reads' HO_220004.out).2.2 | (with_reducible apply Kd.C_alloc) | (with_reducible apply Kd.C_drewN) | (with_reducible apply Kd.C_drew)))
                  (case side4 => exact (Kd.R_reads' HO_220004.out).2.1)
                  rintro e w161 ⟨rfl, hb⟩
                  refine ⟨_, rfl, ?_⟩
                  have n0_ := Aside0.mk (Kd.R_below (by (with_reducible repeat (first | apply Kd.R_alloc | apply Kd.R_drewN | apply Kd.R_drew)); exact HO_13.out) hb)
                  have n1_ := Aside0.mk (Kd.R_below (by (with_reducible repeat (first | apply Kd.R_alloc | apply Kd.R_drewN | apply Kd.R_drew)); exact HO_14.out) hb)
                  have n2_ := Aside0.mk (Kd.R_below (by (with_reducible repeat (first | apply Kd.R_alloc | apply Kd.R_drewN | apply Kd.R_drew)); exact HO_219004.out) hb)
                  have n3_ := Aside0.mk (Kd.R_below (by (with_reducible repeat (first | apply Kd.R_alloc | apply Kd.R_drewN | apply Kd.R_drew)); exact HO_220004.out) hb)
                  have n4_ := Aside0.mk (blk_below (g := gb213) (o := .cells #[.int .i64 a0_0, .int .i64 a0_1, .int .i64 a0_2, .int .i64 a0_3, .slice A0_4 l0_4.length c0_4] 24 (0, 0)) (by (with_reducible repeat (first | refine blk_drewN ?_ _ | refine blk_drew ?_ | refine blk_alloc ?_ _)); exact BK213.out) hb)
                  have n5_ := Aside0.mk (blk_below (g := gb214) (o := .cells #[.int .i64 a1_0, .int .i64 a1_1, .int .i64 a1_2, .int .i64 a1_3, .slice A1_4 l1_4.length c1_4] 24 (0, 0)) (by (with_reducible repeat (first | refine blk_drewN ?_ _ | refine blk_drew ?_ | refine blk_alloc ?_ _)); exact BK214.out) hb)
                  have n6_ := Aside0.mk (blk_below (g := gb218) (o := .cells #[.int .i64 0, .int .i64 0, .int .i64 (wrap64 (a0_2 + (wrap64 (a2)))), .int .i64 0, .slice Ao145 x219004_3.length co145] 24 (0, 0)) (by (with_reducible repeat (first | refine blk_drewN ?_ _ | refine blk_drew ?_ | refine blk_alloc ?_ _)); exact BK218.out) hb)
                  have n7_ := Aside0.mk (blk_below (g := gb219) (o := .cells #[.int .i64 0, .int .i64 0, .int .i64 (wrap64 (a1_2 + (wrap64 (a2)))), .int .i64 0, .slice Ao160 x220004_4.length co160] 24 (0, 0)) (by (with_reducible repeat (first | refine blk_drewN ?_ _ | refine blk_drew ?_ | refine blk_alloc ?_ _)); exact BK219.out) hb)
                  have n8_ := Aside0.mk (below_step (by repeat (first | (with_reducible first | exact HB.out | apply below_alloc | apply pw_below_drewN | apply below_drew1 | refine below_set ?_ GE213.out | refine below_set ?_ GE214.out | refine below_set ?_ GE218.out | refine below_set ?_ GE219.out) | exact HB.out)) hb)
                  clear HO_13
                  clear HO_14
                  clear HO_219004
                  clear HO_220004
                  clear BK213
                  clear BK214
                  clear BK218
                  clear BK219
                  clear HB
                  have HO_13 := n0_
                  have HO_14 := n1_
                  have HO_219004 := n2_
                  have HO_220004 := n3_
                  have BK213 := n4_
                  have BK214 := n5_
                  have BK218 := n6_
                  have BK219 := n7_
                  have HB := n8_
                  clear n0_ n1_ n2_ n3_ n4_ n5_ n6_ n7_ n8_
                  (try clear hb)
                  (try clear hb2)
                  (try clear hk)
                  (try clear hi)
                  refine hK.out _ _ ⟨(blk_cell BK213.out 0).trans rfl, (blk_cell BK213.out 1).trans rfl, (blk_cell BK213.out 2).trans rfl, (blk_cell BK213.out 3).trans rfl, (blk_cell BK213.out 4).trans rfl, (blk_cell BK214.out 0).trans rfl, (blk_cell BK214.out 1).trans rfl, (blk_cell BK214.out 2).trans rfl, (blk_cell BK214.out 3).trans rfl, (blk_cell BK214.out 4).trans rfl, (blk_cell BK218.out 0).trans rfl, (blk_cell BK218.out 1).trans rfl, (blk_cell BK218.out 2).trans rfl, (blk_cell BK218.out 3).trans rfl, (blk_cell BK218.out 4).trans rfl, (blk_cell BK219.out 0).trans rfl, (blk_cell BK219.out 1).trans rfl, (blk_cell BK219.out 2).trans rfl, (blk_cell BK219.out 3).trans rfl, (blk_cell BK219.out 4).trans rfl⟩ (fun hHeld => ?_)
                  clear hK K
                  refine norm_ (a' := ?_) ?_ ?_
                  rotate_left
                  ·show Act.put _ (some 204) _ = _
                   simp only [Act.put, List.setIfInBounds_toArray, List.set_cons_zero, List.set_cons_succ, i64_w, i32_w]
                   rfl
                  refine pure_ (i := 8) (N := some 205) (v := ?_) (a' := ?_) (bA 11 511) rfl rfl (any_of HT_.out (by kernel_rfl)) (fun _ _ _ h => h) (Or.inl ⟨by rfl, ?_⟩) ?_ ?_; rotate_left; intro w'; go_simp; with_reducible rfl; rotate_left; simp only [Act.put, List.setIfInBounds_toArray, List.set_cons_zero, List.set_cons_succ, i64_w, i32_w]; rfl
                  refine pure_ (i := 9) (N := some 206) (v := ?_) (a' := ?_) (bA 11 1023) rfl rfl (any_of HT_.out (by kernel_rfl)) (fun _ _ _ h => h) (Or.inl ⟨by rfl, ?_⟩) ?_ ?_; rotate_left; intro w'; go_simp; with_reducible rfl; rotate_left; simp only [Act.put, List.setIfInBounds_toArray, List.set_cons_zero, List.set_cons_succ, i64_w, i32_w]; rfl
                  refine pure_ (i := 10) (N := some 6) (v := ?_) (a' := ?_) (bA 11 2047) rfl rfl (any_of HT_.out (by kernel_rfl)) (fun _ _ _ h => h) (Or.inl ⟨by rfl, ?_⟩) ?_ ?_; rotate_left; intro w'; go_simp; with_reducible rfl; rotate_left; simp only [Act.put, List.setIfInBounds_toArray, List.set_cons_zero, List.set_cons_succ, i64_w, i32_w]; rfl
                  refine done_ (done_of HT_.out (by kernel_rfl)) ?_
                  try go_wp2
                  go_ret
                  exact ⟨by first | rfl | (simp [errW_none, errW_some] <;> rfl) | (simp [*, errW_none, errW_some] <;> rfl), by repeat (first | (with_reducible first | exact HB.out | apply below_alloc | apply pw_below_drewN | apply below_drew1 | refine below_set ?_ GE213.out | refine below_set ?_ GE214.out | refine below_set ?_ GE218.out | refine below_set ?_ GE219.out) | exact HB.out)⟩
                 ·replace c155 := Bool.eq_false_iff.mpr c155
                  subst c155
                  have H1 : (none) = some r := by rw [if_neg (show ¬ (false = true) by decide)] at H; exact H
                  clear H
                  have H := H1
                  clear H1
                  exact absurd H (by simp)
             ·rw [if_neg c134] at H
              exact absurd H (by simp)

end Go.Proofs.Ytpicbjcpdngmlaa.G
