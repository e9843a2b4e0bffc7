/- Contracts of the functions of this seat: what each call computes, as a plain Lean function. Made by this session's own generator. -/
import Derived.Test.YtpijgpjoobffoaaGx0
import Derived.Test.YtpijgpjoobffoaaGx6
import Derived.Test.YtpijgpjoobffoaaGx9
import Derived.Test.YtpijgpjoobffoaaGx16
namespace Go.Proofs.Ytpijgpjoobffoaa.G
open Go.RowKit Go.Proofs.YtpijgpjoobffoaaMy Go.Proofs.YtpijgpjoobffoaaW.PrintWords Go.Proofs.YtpijgpjoobffoaaW.PrintLast Go.Proofs.YtpijgpjoobffoaaW.PrintMore
attribute [local go_sem] max2_int min2_int max_two min_two max_three min_three max_four min_four   -- for this text's walks alone
set_option linter.unusedVariables false
set_option linter.unusedSimpArgs false

/-! ### compositorlaw07_TfmHas: function 8 -/
def compositorlaw07_TfmHas.j0 : Nat → Int → Bool → Bool → Int → Int → Int → List (S42) → List Int → List Int → List Int → List Int → List (S51) → List Int → List Int → Option (Bool)
 | 0, _, _, _, _, _, _, _, _, _, _, _, _, _, _ => none
 | k + 1, x1, x5, x54, x634000, x634001, x634002, x634003, x634004, x634005, x634006, x634007, x634008, x634009, x634010 => if x54 = true then (some x5) else ((tfm_Has.f k x634000 x634001 x634002 x634003 x634004 x634005 x634006 x634007 x634008 x634009 x634010 x1).bind fun t635 => ((tfm_Check.f k x634000 x634001 x634002 x634003 x634004 x634005 x634006 x634007 x634008 x634009 x634010).bind fun t636 => (if t636 = true then (if x1 ≥ x634002 then (if x5 = true then (if x1 < (wrap64 (x634002 + (x634003.length : Int))) then (if 0 ≤ (mx 0 (mn (wrap64 (x1 - x634002)) (wrap64 ((x634003.length : Int) - 1)))) then (if (mx 0 (mn (wrap64 (x1 - x634002)) (wrap64 ((x634003.length : Int) - 1)))) < (x634003.length : Int) then (some (t635 == (((rd_T42 x634003 (mx 0 (mn (wrap64 (x1 - x634002)) (wrap64 ((x634003.length : Int) - 1))))).f0) != 0))) else (none)) else (none)) else (some (t635 == false))) else (none)) else (if x5 = true then (some (t635 == false)) else (none))) else (if x5 = true then (some (!t635)) else (none)))))
def compositorlaw07_TfmHas.f (k : Nat) (a0_0 : Int) (a0_1 : Int) (a0_2 : Int) (l0_3 : List (S42)) (l0_4 : List Int) (l0_5 : List Int) (l0_6 : List Int) (l0_7 : List Int) (l0_8 : List (S51)) (l0_9 : List Int) (l0_10 : List Int) (a1 : Int) : Option (Bool) := (compositorlaw07_awake.f k).bind fun t634 => (if (l0_3.length : Int) > 300 then (compositorlaw07_TfmHas.j0 k a1 t634 true a0_0 a0_1 a0_2 l0_3 l0_4 l0_5 l0_6 l0_7 l0_8 l0_9 l0_10) else (if (l0_4.length : Int) > 300 then (compositorlaw07_TfmHas.j0 k a1 t634 true a0_0 a0_1 a0_2 l0_3 l0_4 l0_5 l0_6 l0_7 l0_8 l0_9 l0_10) else (if (l0_5.length : Int) > 300 then (compositorlaw07_TfmHas.j0 k a1 t634 true a0_0 a0_1 a0_2 l0_3 l0_4 l0_5 l0_6 l0_7 l0_8 l0_9 l0_10) else (if (l0_6.length : Int) > 300 then (compositorlaw07_TfmHas.j0 k a1 t634 true a0_0 a0_1 a0_2 l0_3 l0_4 l0_5 l0_6 l0_7 l0_8 l0_9 l0_10) else (if (l0_7.length : Int) > 300 then (compositorlaw07_TfmHas.j0 k a1 t634 true a0_0 a0_1 a0_2 l0_3 l0_4 l0_5 l0_6 l0_7 l0_8 l0_9 l0_10) else (if (l0_8.length : Int) > 300 then (compositorlaw07_TfmHas.j0 k a1 t634 true a0_0 a0_1 a0_2 l0_3 l0_4 l0_5 l0_6 l0_7 l0_8 l0_9 l0_10) else (if (l0_9.length : Int) > 300 then (compositorlaw07_TfmHas.j0 k a1 t634 true a0_0 a0_1 a0_2 l0_3 l0_4 l0_5 l0_6 l0_7 l0_8 l0_9 l0_10) else (compositorlaw07_TfmHas.j0 k a1 t634 (decide ((l0_10.length : Int) > 300)) a0_0 a0_1 a0_2 l0_3 l0_4 l0_5 l0_6 l0_7 l0_8 l0_9 l0_10))))))))
theorem compositorlaw07_TfmHas.mono_l : ∀ k, (∀ y0 y1 y2 y3 y4 y5 y6 y7 y8 y9 y10 y11 y12 y13, LeO (compositorlaw07_TfmHas.j0 k y0 y1 y2 y3 y4 y5 y6 y7 y8 y9 y10 y11 y12 y13) (compositorlaw07_TfmHas.j0 (k + 1) y0 y1 y2 y3 y4 y5 y6 y7 y8 y9 y10 y11 y12 y13))
 | 0 => fun _ _ _ _ _ _ _ _ _ _ _ _ _ _ r h => by simp [compositorlaw07_TfmHas.j0] at h
 | k + 1 => by
  have ih0 := compositorlaw07_TfmHas.mono_l k
  ·intro y0 y1 y2 y3 y4 y5 y6 y7 y8 y9 y10 y11 y12 y13
   unfold compositorlaw07_TfmHas.j0
   repeat' first
   | (with_reducible exact ih0 _ _ _ _ _ _ _ _ _ _ _ _ _ _)
   | (with_reducible exact compositorlaw07_awake.mono _)
   | (with_reducible exact tfm_Check.mono _ _ _ _ _ _ _ _ _ _ _ _)
   | (with_reducible exact tfm_Has.mono _ _ _ _ _ _ _ _ _ _ _ _ _)
   | (with_reducible exact LeO.refl _)
   | (with_reducible exact LeO.none _)
   | (with_reducible refine LeO.ite ?_ ?_)
   | (with_reducible refine LeO.bind ?_ (fun _ => ?_))
   | exact ih0 _ _ _ _ _ _ _ _ _ _ _ _ _ _
   | exact compositorlaw07_awake.mono _
   | exact tfm_Check.mono _ _ _ _ _ _ _ _ _ _ _ _
   | exact tfm_Has.mono _ _ _ _ _ _ _ _ _ _ _ _ _
   | exact LeO.none _
   | refine LeO.ite ?_ ?_
   | refine LeO.bind ?_ (fun _ => ?_)
theorem compositorlaw07_TfmHas.mono : ∀ a0 a1 a2 a3 a4 a5 a6 a7 a8 a9 a10 a11 k, LeO (compositorlaw07_TfmHas.f k a0 a1 a2 a3 a4 a5 a6 a7 a8 a9 a10 a11) (compositorlaw07_TfmHas.f (k + 1) a0 a1 a2 a3 a4 a5 a6 a7 a8 a9 a10 a11) := by
 intro a0 a1 a2 a3 a4 a5 a6 a7 a8 a9 a10 a11 k
 have ih0 := compositorlaw07_TfmHas.mono_l k
 unfold compositorlaw07_TfmHas.f
 repeat' first
   | (with_reducible exact ih0 _ _ _ _ _ _ _ _ _ _ _ _ _ _)
   | (with_reducible exact compositorlaw07_awake.mono _)
   | (with_reducible exact tfm_Check.mono _ _ _ _ _ _ _ _ _ _ _ _)
   | (with_reducible exact tfm_Has.mono _ _ _ _ _ _ _ _ _ _ _ _ _)
   | (with_reducible exact LeO.refl _)
   | (with_reducible exact LeO.none _)
   | (with_reducible refine LeO.ite ?_ ?_)
   | (with_reducible refine LeO.bind ?_ (fun _ => ?_))
   | exact ih0 _ _ _ _ _ _ _ _ _ _ _ _ _ _
   | exact compositorlaw07_awake.mono _
   | exact tfm_Check.mono _ _ _ _ _ _ _ _ _ _ _ _
   | exact tfm_Has.mono _ _ _ _ _ _ _ _ _ _ _ _ _
   | exact LeO.none _
   | refine LeO.ite ?_ ?_
   | refine LeO.bind ?_ (fun _ => ?_)
set_option maxHeartbeats 8000000 in
set_option maxRecDepth 100000 in
theorem compositorlaw07_TfmHas.calls (k : Nat) (a0_0 : Int) (a0_1 : Int) (a0_2 : Int) (A0_3 : Option Addr) (c0_3 : Nat) (l0_3 : List (S42)) (A0_4 : Option Addr) (c0_4 : Nat) (l0_4 : List Int) (A0_5 : Option Addr) (c0_5 : Nat) (l0_5 : List Int) (A0_6 : Option Addr) (c0_6 : Nat) (l0_6 : List Int) (A0_7 : Option Addr) (c0_7 : Nat) (l0_7 : List Int) (A0_8 : Option Addr) (c0_8 : Nat) (l0_8 : List (S51)) (A0_9 : Option Addr) (c0_9 : Nat) (l0_9 : List Int) (A0_10 : Option Addr) (c0_10 : Nat) (l0_10 : List Int) (a1 : Int) (r : Bool) (w : World) (hr0_3 : Kd.C k42 w A0_3 l0_3.length l0_3) (hc0_3 : l0_3.length ≤ c0_3) (hr0_4 : Kd.C (Kd.int .i64) w A0_4 l0_4.length l0_4) (hc0_4 : l0_4.length ≤ c0_4) (hr0_5 : Kd.C (Kd.int .i64) w A0_5 l0_5.length l0_5) (hc0_5 : l0_5.length ≤ c0_5) (hr0_6 : Kd.C (Kd.int .i64) w A0_6 l0_6.length l0_6) (hc0_6 : l0_6.length ≤ c0_6) (hr0_7 : Kd.C (Kd.int .i64) w A0_7 l0_7.length l0_7) (hc0_7 : l0_7.length ≤ c0_7) (hr0_8 : Kd.C k51 w A0_8 l0_8.length l0_8) (hc0_8 : l0_8.length ≤ c0_8) (hr0_9 : Kd.C (Kd.int .i64) w A0_9 l0_9.length l0_9) (hc0_9 : l0_9.length ≤ c0_9) (hr0_10 : Kd.C (Kd.int .i64) w A0_10 l0_10.length l0_10) (hc0_10 : l0_10.length ≤ c0_10) (h : compositorlaw07_TfmHas.f k a0_0 a0_1 a0_2 l0_3 l0_4 l0_5 l0_6 l0_7 l0_8 l0_9 l0_10 a1 = some r) :
  Calls Try.prog 8 #[.agg #[.int .i64 a0_0, .int .i64 a0_1, .int .i64 a0_2, .slice A0_3 l0_3.length c0_3, .slice A0_4 l0_4.length c0_4, .slice A0_5 l0_5.length c0_5, .slice A0_6 l0_6.length c0_6, .slice A0_7 l0_7.length c0_7, .slice A0_8 l0_8.length c0_8, .slice A0_9 l0_9.length c0_9, .slice A0_10 l0_10.length c0_10], .int .i64 a1] w fun e w' => e = .returned (.bool r) ∧ Below w.heap.size w w' := by
 have hu26 := Try.underlying26
 have HR0_3 := Aside0.mk hr0_3
 have HC0_3 := Aside0.mk hc0_3
 clear hr0_3 hc0_3
 have HR0_4 := Aside0.mk hr0_4
 have HC0_4 := Aside0.mk hc0_4
 clear hr0_4 hc0_4
 have HR0_5 := Aside0.mk hr0_5
 have HC0_5 := Aside0.mk hc0_5
 clear hr0_5 hc0_5
 have HR0_6 := Aside0.mk hr0_6
 have HC0_6 := Aside0.mk hc0_6
 clear hr0_6 hc0_6
 have HR0_7 := Aside0.mk hr0_7
 have HC0_7 := Aside0.mk hc0_7
 clear hr0_7 hc0_7
 have HR0_8 := Aside0.mk hr0_8
 have HC0_8 := Aside0.mk hc0_8
 clear hr0_8 hc0_8
 have HR0_9 := Aside0.mk hr0_9
 have HC0_9 := Aside0.mk hc0_9
 clear hr0_9 hc0_9
 have HR0_10 := Aside0.mk hr0_10
 have HC0_10 := Aside0.mk hc0_10
 clear hr0_10 hc0_10
 have HB := Aside0.mk (Below.refl w.heap.size w)
 have H : ((compositorlaw07_awake.f k).bind fun t634 => (if (l0_3.length : Int) > 300 then (compositorlaw07_TfmHas.j0 k a1 t634 true a0_0 a0_1 a0_2 l0_3 l0_4 l0_5 l0_6 l0_7 l0_8 l0_9 l0_10) else (if (l0_4.length : Int) > 300 then (compositorlaw07_TfmHas.j0 k a1 t634 true a0_0 a0_1 a0_2 l0_3 l0_4 l0_5 l0_6 l0_7 l0_8 l0_9 l0_10) else (if (l0_5.length : Int) > 300 then (compositorlaw07_TfmHas.j0 k a1 t634 true a0_0 a0_1 a0_2 l0_3 l0_4 l0_5 l0_6 l0_7 l0_8 l0_9 l0_10) else (if (l0_6.length : Int) > 300 then (compositorlaw07_TfmHas.j0 k a1 t634 true a0_0 a0_1 a0_2 l0_3 l0_4 l0_5 l0_6 l0_7 l0_8 l0_9 l0_10) else (if (l0_7.length : Int) > 300 then (compositorlaw07_TfmHas.j0 k a1 t634 true a0_0 a0_1 a0_2 l0_3 l0_4 l0_5 l0_6 l0_7 l0_8 l0_9 l0_10) else (if (l0_8.length : Int) > 300 then (compositorlaw07_TfmHas.j0 k a1 t634 true a0_0 a0_1 a0_2 l0_3 l0_4 l0_5 l0_6 l0_7 l0_8 l0_9 l0_10) else (if (l0_9.length : Int) > 300 then (compositorlaw07_TfmHas.j0 k a1 t634 true a0_0 a0_1 a0_2 l0_3 l0_4 l0_5 l0_6 l0_7 l0_8 l0_9 l0_10) else (compositorlaw07_TfmHas.j0 k a1 t634 (decide ((l0_10.length : Int) > 300)) a0_0 a0_1 a0_2 l0_3 l0_4 l0_5 l0_6 l0_7 l0_8 l0_9 l0_10))))))))) = some r := h
 clear h
 replace H := Option.bind_eq_some_iff.mp H
 obtain ⟨t634, A30, H⟩ := H
 replace H : (if (l0_3.length : Int) > 300 then (compositorlaw07_TfmHas.j0 k a1 t634 true a0_0 a0_1 a0_2 l0_3 l0_4 l0_5 l0_6 l0_7 l0_8 l0_9 l0_10) else (if (l0_4.length : Int) > 300 then (compositorlaw07_TfmHas.j0 k a1 t634 true a0_0 a0_1 a0_2 l0_3 l0_4 l0_5 l0_6 l0_7 l0_8 l0_9 l0_10) else (if (l0_5.length : Int) > 300 then (compositorlaw07_TfmHas.j0 k a1 t634 true a0_0 a0_1 a0_2 l0_3 l0_4 l0_5 l0_6 l0_7 l0_8 l0_9 l0_10) else (if (l0_6.length : Int) > 300 then (compositorlaw07_TfmHas.j0 k a1 t634 true a0_0 a0_1 a0_2 l0_3 l0_4 l0_5 l0_6 l0_7 l0_8 l0_9 l0_10) else (if (l0_7.length : Int) > 300 then (compositorlaw07_TfmHas.j0 k a1 t634 true a0_0 a0_1 a0_2 l0_3 l0_4 l0_5 l0_6 l0_7 l0_8 l0_9 l0_10) else (if (l0_8.length : Int) > 300 then (compositorlaw07_TfmHas.j0 k a1 t634 true a0_0 a0_1 a0_2 l0_3 l0_4 l0_5 l0_6 l0_7 l0_8 l0_9 l0_10) else (if (l0_9.length : Int) > 300 then (compositorlaw07_TfmHas.j0 k a1 t634 true a0_0 a0_1 a0_2 l0_3 l0_4 l0_5 l0_6 l0_7 l0_8 l0_9 l0_10) else (compositorlaw07_TfmHas.j0 k a1 t634 (decide ((l0_10.length : Int) > 300)) a0_0 a0_1 a0_2 l0_3 l0_4 l0_5 l0_6 l0_7 l0_8 l0_9 l0_10)))))))) = some r := H
 have A3 := Aside0.mk A30
 clear A30
 have HC4 := Aside0.mk H
 clear H
 go_enter Try.func8, Try.ntmps8
 go_upto_region 2 with (first | ((with_reducible refine gate_load (T := 26) rfl ?_); refine load_row_event (by first | rfl | (go_simp; done)) 26 _ rfl gb633 rfl 26 _ (0, 0) _ (by (with_reducible repeat (first | refine blk_drewN ?_ _ | refine blk_drew ?_ | refine blk_alloc ?_ _)); first | with_reducible exact BK633.out) hu26 rfl (by kernel_rfl) ?_) | ((with_reducible refine gate_store (t := 26) rfl ?_); refine store_row_event (base := w.heap.size) rfl rfl 26 _ _ rfl (g := gb633) (by rfl) (by rfl) (by (with_reducible repeat (first | refine blk_drewN ?_ _ | refine blk_drew ?_ | refine blk_alloc ?_ _)); exact BK633.out) (by kernel_rfl) (by rfl) (by rfl) GE633.out ?_; intro ws_ hs_ hk_ hb_; have n0_ := Aside0.mk (Below.trans (by repeat (first | (with_reducible first | exact HB.out | apply below_alloc | apply pw_below_drewN | apply below_drew1) | exact HB.out)) hb_); clear HB; have HB := n0_; clear n0_; clear BK633; have BK633 := Aside0.mk hs_; clear hs_; have hxs_ := blk_cell BK633.out; have hys_ := blk_frozen BK633.out; clear hk_ hb_) | ((with_reducible refine gate_dst (N := 2) rfl ?_); (try (refine gate_guard (by rfl) ?_; dsimp only)); refine box_event ?hg (N := 2) ?hd (cs := #[.int .i64 a0_0, .int .i64 a0_1, .int .i64 a0_2, .slice A0_3 l0_3.length c0_3, .slice A0_4 l0_4.length c0_4, .slice A0_5 l0_5.length c0_5, .slice A0_6 l0_6.length c0_6, .slice A0_7 l0_7.length c0_7, .slice A0_8 l0_8.length c0_8, .slice A0_9 l0_9.length c0_9, .slice A0_10 l0_10.length c0_10]) (t := 26) ?hr ?_; (case hd => rfl); (case hg => rfl); (case hr => first | (go_simp; done) | (go_simp; rfl)); intro gb633 hg w5 hbox hb; have n0_ := Aside0.mk (below_step (by repeat (first | (with_reducible first | exact HB.out | apply below_alloc | apply pw_below_drewN | apply below_drew1) | exact HB.out)) hb); have n1_ := Aside0.mk (hbox); have n2_ := Aside0.mk ((by rw [hg]; exact (below_size (by repeat (first | (with_reducible first | exact HB.out | apply below_alloc | apply pw_below_drewN | apply below_drew1) | exact HB.out))) : w.heap.size ≤ gb633)); have n3_ := Aside0.mk ((by rw [hg]; exact (below_size (by repeat (first | (with_reducible first | exact HB.out | apply below_alloc | apply pw_below_drewN | apply below_drew1) | exact HB.out))) : w.heap.size ≤ gb633)); clear HB; have HB := n0_; have BK633 := n1_; have GW633 := n2_; have GE633 := n3_; clear n0_ n1_ n2_ n3_; clear hb hbox hg) | ((with_reducible refine gate_callee (f := 9) rfl ?_); refine goesL_ (some 8) rfl rfl Try.func9 (by kernel_rfl) rfl #[] rfl (by (try simp only [List.map_toArray, List.map_cons, List.map_nil]); first | done | rfl | (simp only [List.length_drop, List.length_take]; rfl)) ?_; (with_reducible refine (compositorlaw07_awake.calls k  t634 _ A3.out).mono ?_); rintro e w6 ⟨rfl, hb⟩; refine ⟨_, rfl, ?_⟩; have n0_ := Aside0.mk (blk_below (g := gb633) (o := .cells #[.int .i64 a0_0, .int .i64 a0_1, .int .i64 a0_2, .slice A0_3 l0_3.length c0_3, .slice A0_4 l0_4.length c0_4, .slice A0_5 l0_5.length c0_5, .slice A0_6 l0_6.length c0_6, .slice A0_7 l0_7.length c0_7, .slice A0_8 l0_8.length c0_8, .slice A0_9 l0_9.length c0_9, .slice A0_10 l0_10.length c0_10] 26 (0, 0)) (by (with_reducible repeat (first | refine blk_drewN ?_ _ | refine blk_drew ?_ | refine blk_alloc ?_ _)); exact BK633.out) hb); have n1_ := Aside0.mk (below_step (by repeat (first | (with_reducible first | exact HB.out | apply below_alloc | apply pw_below_drewN | apply below_drew1 | refine below_set ?_ GE633.out) | exact HB.out)) hb); clear BK633; clear HB; have BK633 := n0_; have HB := n1_; clear n0_ n1_; (try clear hb); (try clear hb2); (try clear hk); (try clear hi)))
 (try simp only [Act.put, List.setIfInBounds_toArray, List.set_cons_zero, List.set_cons_succ])
 go_cut [54] (fun v54 wc => ∃ (kq : Nat) (x54_3 : Bool), v54 = .bool x54_3 ∧ Aside0 (compositorlaw07_TfmHas.j0 kq a1 t634 x54_3 a0_0 a0_1 a0_2 l0_3 l0_4 l0_5 l0_6 l0_7 l0_8 l0_9 l0_10 = some r) ∧ Aside0 (kq ≤ k) ∧ Aside0 (wc.heap[gb633]? = some (.cells #[.int .i64 a0_0, .int .i64 a0_1, .int .i64 a0_2, (.slice A0_3 l0_3.length c0_3), (.slice A0_4 l0_4.length c0_4), (.slice A0_5 l0_5.length c0_5), (.slice A0_6 l0_6.length c0_6), (.slice A0_7 l0_7.length c0_7), (.slice A0_8 l0_8.length c0_8), (.slice A0_9 l0_9.length c0_9), (.slice A0_10 l0_10.length c0_10)] 26 (0, 0))) ∧ Aside0 (Below w.heap.size w wc))
 case first =>
  have H := HC4.out
  clear HC4
  by_cases c7 : (l0_3.length : Int) > 300
  ·rw [if_pos c7] at H
   have c7b0 : decide (300 < (l0_3.length : Int)) = true := decide_eq_true c7
   have c7b1 : decide (300 < l0_3.length) = true := decide_eq_true (by omega)
   clear c7
   (first | rw [c7b0] | (simp only [i64_w, i32_w]; rw [c7b0]) | skip)
   have H' := Aside0.mk H
   clear H
   have hcz8_0 := blk_cell BK633.out
   have hfz8_0 := blk_frozen BK633.out
   go_wp2
   go_meet
   case rel => exact ⟨_, (true), (by first | rfl | (simp; done) | (simp [*]; done)), H', ⟨by first | omega | exact Nat.le_refl _⟩, ⟨by (with_reducible repeat (first | refine blk_drewN ?_ _ | refine blk_drew ?_ | refine blk_alloc ?_ _)); exact BK633.out⟩, ⟨by repeat (first | (with_reducible first | exact HB.out | apply below_alloc | apply pw_below_drewN | apply below_drew1 | refine below_set ?_ GE633.out) | exact HB.out)⟩⟩
  ·rw [if_neg c7] at H
   have c7b0 : decide (300 < (l0_3.length : Int)) = false := decide_eq_false c7
   have c7b1 : decide (300 < l0_3.length) = false := decide_eq_false (by omega)
   clear c7
   (first | rw [c7b0] | (simp only [i64_w, i32_w]; rw [c7b0]) | skip)
   by_cases c9 : (l0_4.length : Int) > 300
   ·rw [if_pos c9] at H
    have c9b0 : decide (300 < (l0_4.length : Int)) = true := decide_eq_true c9
    have c9b1 : decide (300 < l0_4.length) = true := decide_eq_true (by omega)
    clear c9
    have H' := Aside0.mk H
    clear H
    have hcz10_0 := blk_cell BK633.out
    have hfz10_0 := blk_frozen BK633.out
    go_wp2
    go_meet
    case rel => exact ⟨_, (true), (by first | rfl | (simp; done) | (simp [*]; done)), H', ⟨by first | omega | exact Nat.le_refl _⟩, ⟨by (with_reducible repeat (first | refine blk_drewN ?_ _ | refine blk_drew ?_ | refine blk_alloc ?_ _)); exact BK633.out⟩, ⟨by repeat (first | (with_reducible first | exact HB.out | apply below_alloc | apply pw_below_drewN | apply below_drew1 | refine below_set ?_ GE633.out) | exact HB.out)⟩⟩
   ·rw [if_neg c9] at H
    have c9b0 : decide (300 < (l0_4.length : Int)) = false := decide_eq_false c9
    have c9b1 : decide (300 < l0_4.length) = false := decide_eq_false (by omega)
    clear c9
    by_cases c11 : (l0_5.length : Int) > 300
    ·rw [if_pos c11] at H
     have c11b0 : decide (300 < (l0_5.length : Int)) = true := decide_eq_true c11
     have c11b1 : decide (300 < l0_5.length) = true := decide_eq_true (by omega)
     clear c11
     have H' := Aside0.mk H
     clear H
     have hcz12_0 := blk_cell BK633.out
     have hfz12_0 := blk_frozen BK633.out
     go_wp2
     go_meet
     case rel => exact ⟨_, (true), (by first | rfl | (simp; done) | (simp [*]; done)), H', ⟨by first | omega | exact Nat.le_refl _⟩, ⟨by (with_reducible repeat (first | refine blk_drewN ?_ _ | refine blk_drew ?_ | refine blk_alloc ?_ _)); exact BK633.out⟩, ⟨by repeat (first | (with_reducible first | exact HB.out | apply below_alloc | apply pw_below_drewN | apply below_drew1 | refine below_set ?_ GE633.out) | exact HB.out)⟩⟩
    ·rw [if_neg c11] at H
     have c11b0 : decide (300 < (l0_5.length : Int)) = false := decide_eq_false c11
     have c11b1 : decide (300 < l0_5.length) = false := decide_eq_false (by omega)
     clear c11
     by_cases c13 : (l0_6.length : Int) > 300
     ·rw [if_pos c13] at H
      have c13b0 : decide (300 < (l0_6.length : Int)) = true := decide_eq_true c13
      have c13b1 : decide (300 < l0_6.length) = true := decide_eq_true (by omega)
      clear c13
      have H' := Aside0.mk H
      clear H
      have hcz14_0 := blk_cell BK633.out
      have hfz14_0 := blk_frozen BK633.out
      go_wp2
      go_meet
      case rel => exact ⟨_, (true), (by first | rfl | (simp; done) | (simp [*]; done)), H', ⟨by first | omega | exact Nat.le_refl _⟩, ⟨by (with_reducible repeat (first | refine blk_drewN ?_ _ | refine blk_drew ?_ | refine blk_alloc ?_ _)); exact BK633.out⟩, ⟨by repeat (first | (with_reducible first | exact HB.out | apply below_alloc | apply pw_below_drewN | apply below_drew1 | refine below_set ?_ GE633.out) | exact HB.out)⟩⟩
     ·rw [if_neg c13] at H
      have c13b0 : decide (300 < (l0_6.length : Int)) = false := decide_eq_false c13
      have c13b1 : decide (300 < l0_6.length) = false := decide_eq_false (by omega)
      clear c13
      by_cases c15 : (l0_7.length : Int) > 300
      ·rw [if_pos c15] at H
       have c15b0 : decide (300 < (l0_7.length : Int)) = true := decide_eq_true c15
       have c15b1 : decide (300 < l0_7.length) = true := decide_eq_true (by omega)
       clear c15
       have H' := Aside0.mk H
       clear H
       have hcz16_0 := blk_cell BK633.out
       have hfz16_0 := blk_frozen BK633.out
       go_wp2
       go_meet
       case rel => exact ⟨_, (true), (by first | rfl | (simp; done) | (simp [*]; done)), H', ⟨by first | omega | exact Nat.le_refl _⟩, ⟨by (with_reducible repeat (first | refine blk_drewN ?_ _ | refine blk_drew ?_ | refine blk_alloc ?_ _)); exact BK633.out⟩, ⟨by repeat (first | (with_reducible first | exact HB.out | apply below_alloc | apply pw_below_drewN | apply below_drew1 | refine below_set ?_ GE633.out) | exact HB.out)⟩⟩
      ·rw [if_neg c15] at H
       have c15b0 : decide (300 < (l0_7.length : Int)) = false := decide_eq_false c15
       have c15b1 : decide (300 < l0_7.length) = false := decide_eq_false (by omega)
       clear c15
       by_cases c17 : (l0_8.length : Int) > 300
       ·rw [if_pos c17] at H
        have c17b0 : decide (300 < (l0_8.length : Int)) = true := decide_eq_true c17
        have c17b1 : decide (300 < l0_8.length) = true := decide_eq_true (by omega)
        clear c17
        have H' := Aside0.mk H
        clear H
        have hcz18_0 := blk_cell BK633.out
        have hfz18_0 := blk_frozen BK633.out
        go_wp2
        go_meet
        case rel => exact ⟨_, (true), (by first | rfl | (simp; done) | (simp [*]; done)), H', ⟨by first | omega | exact Nat.le_refl _⟩, ⟨by (with_reducible repeat (first | refine blk_drewN ?_ _ | refine blk_drew ?_ | refine blk_alloc ?_ _)); exact BK633.out⟩, ⟨by repeat (first | (with_reducible first | exact HB.out | apply below_alloc | apply pw_below_drewN | apply below_drew1 | refine below_set ?_ GE633.out) | exact HB.out)⟩⟩
       ·rw [if_neg c17] at H
        have c17b0 : decide (300 < (l0_8.length : Int)) = false := decide_eq_false c17
        have c17b1 : decide (300 < l0_8.length) = false := decide_eq_false (by omega)
        clear c17
        by_cases c19 : (l0_9.length : Int) > 300
        ·rw [if_pos c19] at H
         have c19b0 : decide (300 < (l0_9.length : Int)) = true := decide_eq_true c19
         have c19b1 : decide (300 < l0_9.length) = true := decide_eq_true (by omega)
         clear c19
         have H' := Aside0.mk H
         clear H
         have hcz20_0 := blk_cell BK633.out
         have hfz20_0 := blk_frozen BK633.out
         go_wp2
         go_meet
         case rel => exact ⟨_, (true), (by first | rfl | (simp; done) | (simp [*]; done)), H', ⟨by first | omega | exact Nat.le_refl _⟩, ⟨by (with_reducible repeat (first | refine blk_drewN ?_ _ | refine blk_drew ?_ | refine blk_alloc ?_ _)); exact BK633.out⟩, ⟨by repeat (first | (with_reducible first | exact HB.out | apply below_alloc | apply pw_below_drewN | apply below_drew1 | refine below_set ?_ GE633.out) | exact HB.out)⟩⟩
        ·rw [if_neg c19] at H
         have c19b0 : decide (300 < (l0_9.length : Int)) = false := decide_eq_false c19
         have c19b1 : decide (300 < l0_9.length) = false := decide_eq_false (by omega)
         clear c19
         have H' := Aside0.mk H
         clear H
         have hcz21_0 := blk_cell BK633.out
         have hfz21_0 := blk_frozen BK633.out
         go_wp2
         go_meet
         case rel => exact ⟨_, (decide ((l0_10.length : Int) > 300)), (by first | rfl | (simp; done) | (simp [*]; done)), H', ⟨by first | omega | exact Nat.le_refl _⟩, ⟨by (with_reducible repeat (first | refine blk_drewN ?_ _ | refine blk_drew ?_ | refine blk_alloc ?_ _)); exact BK633.out⟩, ⟨by repeat (first | (with_reducible first | exact HB.out | apply below_alloc | apply pw_below_drewN | apply below_drew1 | refine below_set ?_ GE633.out) | exact HB.out)⟩⟩
 case rest =>
  clear HC4
  try clear c1
  try clear p2
  try clear c7
  try clear c7b0
  try clear c7b1
  try clear c8
  try clear c9
  try clear c9b0
  try clear c9b1
  try clear c11
  try clear c11b0
  try clear c11b1
  try clear c13
  try clear c13b0
  try clear c13b1
  try clear c15
  try clear c15b0
  try clear c15b1
  try clear c17
  try clear c17b0
  try clear c17b1
  try clear c19
  try clear c19b0
  try clear c19b1
  try clear hcz10_0
  try clear hcz10_1
  try clear hcz10_10
  try clear hcz10_2
  try clear hcz10_3
  try clear hcz10_4
  try clear hcz10_5
  try clear hcz10_6
  try clear hcz10_7
  try clear hcz10_8
  try clear hcz10_9
  try clear hcz12_0
  try clear hcz12_1
  try clear hcz12_10
  try clear hcz12_2
  try clear hcz12_3
  try clear hcz12_4
  try clear hcz12_5
  try clear hcz12_6
  try clear hcz12_7
  try clear hcz12_8
  try clear hcz12_9
  try clear hcz14_0
  try clear hcz14_1
  try clear hcz14_10
  try clear hcz14_2
  try clear hcz14_3
  try clear hcz14_4
  try clear hcz14_5
  try clear hcz14_6
  try clear hcz14_7
  try clear hcz14_8
  try clear hcz14_9
  try clear hcz16_0
  try clear hcz16_1
  try clear hcz16_10
  try clear hcz16_2
  try clear hcz16_3
  try clear hcz16_4
  try clear hcz16_5
  try clear hcz16_6
  try clear hcz16_7
  try clear hcz16_8
  try clear hcz16_9
  try clear hcz18_0
  try clear hcz18_1
  try clear hcz18_10
  try clear hcz18_2
  try clear hcz18_3
  try clear hcz18_4
  try clear hcz18_5
  try clear hcz18_6
  try clear hcz18_7
  try clear hcz18_8
  try clear hcz18_9
  try clear hcz20_0
  try clear hcz20_1
  try clear hcz20_10
  try clear hcz20_2
  try clear hcz20_3
  try clear hcz20_4
  try clear hcz20_5
  try clear hcz20_6
  try clear hcz20_7
  try clear hcz20_8
  try clear hcz20_9
  try clear hcz21_0
  try clear hcz21_1
  try clear hcz21_10
  try clear hcz21_2
  try clear hcz21_3
  try clear hcz21_4
  try clear hcz21_5
  try clear hcz21_6
  try clear hcz21_7
  try clear hcz21_8
  try clear hcz21_9
  try clear hcz8_0
  try clear hcz8_1
  try clear hcz8_10
  try clear hcz8_2
  try clear hcz8_3
  try clear hcz8_4
  try clear hcz8_5
  try clear hcz8_6
  try clear hcz8_7
  try clear hcz8_8
  try clear hcz8_9
  try clear hfz10_0
  try clear hfz10_1
  try clear hfz10_10
  try clear hfz10_2
  try clear hfz10_3
  try clear hfz10_4
  try clear hfz10_5
  try clear hfz10_6
  try clear hfz10_7
  try clear hfz10_8
  try clear hfz10_9
  try clear hfz12_0
  try clear hfz12_1
  try clear hfz12_10
  try clear hfz12_2
  try clear hfz12_3
  try clear hfz12_4
  try clear hfz12_5
  try clear hfz12_6
  try clear hfz12_7
  try clear hfz12_8
  try clear hfz12_9
  try clear hfz14_0
  try clear hfz14_1
  try clear hfz14_10
  try clear hfz14_2
  try clear hfz14_3
  try clear hfz14_4
  try clear hfz14_5
  try clear hfz14_6
  try clear hfz14_7
  try clear hfz14_8
  try clear hfz14_9
  try clear hfz16_0
  try clear hfz16_1
  try clear hfz16_10
  try clear hfz16_2
  try clear hfz16_3
  try clear hfz16_4
  try clear hfz16_5
  try clear hfz16_6
  try clear hfz16_7
  try clear hfz16_8
  try clear hfz16_9
  try clear hfz18_0
  try clear hfz18_1
  try clear hfz18_10
  try clear hfz18_2
  try clear hfz18_3
  try clear hfz18_4
  try clear hfz18_5
  try clear hfz18_6
  try clear hfz18_7
  try clear hfz18_8
  try clear hfz18_9
  try clear hfz20_0
  try clear hfz20_1
  try clear hfz20_10
  try clear hfz20_2
  try clear hfz20_3
  try clear hfz20_4
  try clear hfz20_5
  try clear hfz20_6
  try clear hfz20_7
  try clear hfz20_8
  try clear hfz20_9
  try clear hfz21_0
  try clear hfz21_1
  try clear hfz21_10
  try clear hfz21_2
  try clear hfz21_3
  try clear hfz21_4
  try clear hfz21_5
  try clear hfz21_6
  try clear hfz21_7
  try clear hfz21_8
  try clear hfz21_9
  try clear hfz8_0
  try clear hfz8_1
  try clear hfz8_10
  try clear hfz8_2
  try clear hfz8_3
  try clear hfz8_4
  try clear hfz8_5
  try clear hfz8_6
  try clear hfz8_7
  try clear hfz8_8
  try clear hfz8_9
  obtain ⟨kq, x54_3, rfl, HA, HJ3, BK633, HB⟩ := hcut
  cases kq with
  | zero => exact absurd HA.out (by simp [compositorlaw07_TfmHas.j0])
  | succ kj3 =>
   have H := HA.out
   clear HA
   simp only [compositorlaw07_TfmHas.j0] at H
   by_cases c22 : x54_3 = true
   ·subst c22
    have H1 : (some t634) = some r := by rw [if_pos rfl] at H; exact H
    clear H
    have H := H1
    clear H1
    obtain rfl := Option.some.inj H
    go_wp2
    go_ret
    exact ⟨by first | rfl | (simp [errW_none, errW_some] <;> rfl) | (simp [*, errW_none, errW_some] <;> rfl), by repeat (first | (with_reducible first | exact HB.out | apply below_alloc | apply pw_below_drewN | apply below_drew1 | refine below_set ?_ GE633.out) | exact HB.out)⟩
   ·replace c22 := Bool.eq_false_iff.mpr c22
    subst c22
    have H1 : ((tfm_Has.f kj3 a0_0 a0_1 a0_2 l0_3 l0_4 l0_5 l0_6 l0_7 l0_8 l0_9 l0_10 a1).bind fun t635 => ((tfm_Check.f kj3 a0_0 a0_1 a0_2 l0_3 l0_4 l0_5 l0_6 l0_7 l0_8 l0_9 l0_10).bind fun t636 => (if t636 = true then (if a1 ≥ a0_2 then (if t634 = true then (if a1 < (wrap64 (a0_2 + (l0_3.length : Int))) then (if 0 ≤ (mx 0 (mn (wrap64 (a1 - a0_2)) (wrap64 ((l0_3.length : Int) - 1)))) then (if (mx 0 (mn (wrap64 (a1 - a0_2)) (wrap64 ((l0_3.length : Int) - 1)))) < (l0_3.length : Int) then (some (t635 == (((rd_T42 l0_3 (mx 0 (mn (wrap64 (a1 - a0_2)) (wrap64 ((l0_3.length : Int) - 1))))).f0) != 0))) else (none)) else (none)) else (some (t635 == false))) else (none)) else (if t634 = true then (some (t635 == false)) else (none))) else (if t634 = true then (some (!t635)) else (none))))) = some r := by rw [if_neg (show ¬ (false = true) by decide)] at H; exact H
    clear H
    have H := H1
    clear H1
    replace H := Option.bind_eq_some_iff.mp H
    obtain ⟨t635, A230, H⟩ := H
    replace H : ((tfm_Check.f kj3 a0_0 a0_1 a0_2 l0_3 l0_4 l0_5 l0_6 l0_7 l0_8 l0_9 l0_10).bind fun t636 => (if t636 = true then (if a1 ≥ a0_2 then (if t634 = true then (if a1 < (wrap64 (a0_2 + (l0_3.length : Int))) then (if 0 ≤ (mx 0 (mn (wrap64 (a1 - a0_2)) (wrap64 ((l0_3.length : Int) - 1)))) then (if (mx 0 (mn (wrap64 (a1 - a0_2)) (wrap64 ((l0_3.length : Int) - 1)))) < (l0_3.length : Int) then (some (t635 == (((rd_T42 l0_3 (mx 0 (mn (wrap64 (a1 - a0_2)) (wrap64 ((l0_3.length : Int) - 1))))).f0) != 0))) else (none)) else (none)) else (some (t635 == false))) else (none)) else (if t634 = true then (some (t635 == false)) else (none))) else (if t634 = true then (some (!t635)) else (none)))) = some r := H
    have A23 := Aside0.mk A230
    clear A230
    replace H := Option.bind_eq_some_iff.mp H
    obtain ⟨t636, A240, H⟩ := H
    replace H : (if t636 = true then (if a1 ≥ a0_2 then (if t634 = true then (if a1 < (wrap64 (a0_2 + (l0_3.length : Int))) then (if 0 ≤ (mx 0 (mn (wrap64 (a1 - a0_2)) (wrap64 ((l0_3.length : Int) - 1)))) then (if (mx 0 (mn (wrap64 (a1 - a0_2)) (wrap64 ((l0_3.length : Int) - 1)))) < (l0_3.length : Int) then (some (t635 == (((rd_T42 l0_3 (mx 0 (mn (wrap64 (a1 - a0_2)) (wrap64 ((l0_3.length : Int) - 1))))).f0) != 0))) else (none)) else (none)) else (some (t635 == false))) else (none)) else (if t634 = true then (some (t635 == false)) else (none))) else (if t634 = true then (some (!t635)) else (none))) = some r := H
    have A24 := Aside0.mk A240
    clear A240
    by_cases c25 : t636 = true
    ·subst c25
     have H1 : (if a1 ≥ a0_2 then (if t634 = true then (if a1 < (wrap64 (a0_2 + (l0_3.length : Int))) then (if 0 ≤ (mx 0 (mn (wrap64 (a1 - a0_2)) (wrap64 ((l0_3.length : Int) - 1)))) then (if (mx 0 (mn (wrap64 (a1 - a0_2)) (wrap64 ((l0_3.length : Int) - 1)))) < (l0_3.length : Int) then (some (t635 == (((rd_T42 l0_3 (mx 0 (mn (wrap64 (a1 - a0_2)) (wrap64 ((l0_3.length : Int) - 1))))).f0) != 0))) else (none)) else (none)) else (some (t635 == false))) else (none)) else (if t634 = true then (some (t635 == false)) else (none))) = some r := by rw [if_pos rfl] at H; exact H
     clear H
     have H := H1
     clear H1
     by_cases c26 : a1 ≥ a0_2
     ·rw [if_pos c26] at H
      have c26b0 : decide (a0_2 ≤ a1) = true := decide_eq_true c26
      clear c26
      by_cases c27 : t634 = true
      ·subst c27
       have H1 : (if a1 < (wrap64 (a0_2 + (l0_3.length : Int))) then (if 0 ≤ (mx 0 (mn (wrap64 (a1 - a0_2)) (wrap64 ((l0_3.length : Int) - 1)))) then (if (mx 0 (mn (wrap64 (a1 - a0_2)) (wrap64 ((l0_3.length : Int) - 1)))) < (l0_3.length : Int) then (some (t635 == (((rd_T42 l0_3 (mx 0 (mn (wrap64 (a1 - a0_2)) (wrap64 ((l0_3.length : Int) - 1))))).f0) != 0))) else (none)) else (none)) else (some (t635 == false))) = some r := by rw [if_pos rfl] at H; exact H
       clear H
       have H := H1
       clear H1
       by_cases c28 : a1 < (wrap64 (a0_2 + (l0_3.length : Int)))
       ·rw [if_pos c28] at H
        have c28b0 : decide (a1 < (wrap64 (a0_2 + (l0_3.length : Int)))) = true := decide_eq_true c28
        (try (have c28b1 : decide (a1 < (IntKind.i64.wrap (a0_2 + (l0_3.length : Int)))) = true := by simp only [i64_w]; exact (decide_eq_true c28)))
        clear c28
        obtain ⟨ji29, hji29⟩ : ∃ j_ : Int, (mn (wrap64 (a1 - a0_2)) (wrap64 ((l0_3.length : Int) - 1))) = j_ := ⟨_, rfl⟩
        replace H : (if 0 ≤ (mx 0 (ji29)) then (if (mx 0 (ji29)) < (l0_3.length : Int) then (some (t635 == (((rd_T42 l0_3 (mx 0 (ji29))).f0) != 0))) else (none)) else (none)) = some r := by first | (rw [hji29] at H; exact H) | (simp only [hji29] at H ⊢; exact H)
        (try rw [hji29] at A23)
        (try rw [hji29] at A24)
        have hji29_ : (if (wrap64 ((l0_3.length : Int) - 1)) < (wrap64 (a1 - a0_2)) then (wrap64 ((l0_3.length : Int) - 1)) else (wrap64 (a1 - a0_2))) = ji29 := hji29
        obtain ⟨ji30, hji30⟩ : ∃ j_ : Int, (mx 0 (ji29)) = j_ := ⟨_, rfl⟩
        replace H : (if 0 ≤ (ji30) then (if (ji30) < (l0_3.length : Int) then (some (t635 == (((rd_T42 l0_3 (ji30)).f0) != 0))) else (none)) else (none)) = some r := by first | (rw [hji30] at H; exact H) | (simp only [hji30] at H ⊢; exact H)
        (try rw [hji30] at A23)
        (try rw [hji30] at A24)
        have hji30_ : (if 0 < (ji29) then (ji29) else 0) = ji30 := hji30
        by_cases c31 : 0 ≤ (ji30)
        ·rw [if_pos c31] at H
         have c31b0 : decide (0 ≤ (ji30)) = true := decide_eq_true c31
         clear c31
         by_cases c32 : (ji30) < (l0_3.length : Int)
         ·rw [if_pos c32] at H
          have c32b0 : decide ((ji30) < (l0_3.length : Int)) = true := decide_eq_true c32
          clear c32
          obtain rfl := Option.some.inj H
          have hcz33_0 := blk_cell BK633.out
          have hfz33_0 := blk_frozen BK633.out
          have tk_ : True := trivial
          go_wp2_with (first | ((with_reducible refine gate_load (T := 26) rfl ?_); refine load_row_event (by first | rfl | (go_simp; done)) 26 _ rfl gb633 rfl 26 _ (0, 0) _ (by (with_reducible repeat (first | refine blk_drewN ?_ _ | refine blk_drew ?_ | refine blk_alloc ?_ _)); first | with_reducible exact BK633.out) hu26 rfl (by kernel_rfl) ?_) | ((with_reducible refine gate_store (t := 26) rfl ?_); refine store_row_event (base := w.heap.size) rfl rfl 26 _ _ rfl (g := gb633) (by rfl) (by rfl) (by (with_reducible repeat (first | refine blk_drewN ?_ _ | refine blk_drew ?_ | refine blk_alloc ?_ _)); exact BK633.out) (by kernel_rfl) (by rfl) (by rfl) GE633.out ?_; intro ws_ hs_ hk_ hb_; have n0_ := Aside0.mk (Below.trans (by repeat (first | (with_reducible first | exact HB.out | apply below_alloc | apply pw_below_drewN | apply below_drew1) | exact HB.out)) hb_); clear HB; have HB := n0_; clear n0_; clear BK633; have BK633 := Aside0.mk hs_; clear hs_; have hxs_ := blk_cell BK633.out; have hys_ := blk_frozen BK633.out; clear hk_ hb_) | (go_at_call 15; clear tk_; (with_reducible refine (tfm_Has.calls kj3 a0_0 a0_1 a0_2 _ _ l0_3 _ _ l0_4 _ _ l0_5 _ _ l0_6 _ _ l0_7 _ _ l0_8 _ _ l0_9 _ _ l0_10 a1 t635 _ ?side1 ?side2 ?side3 ?side4 ?side5 ?side6 ?side7 ?side8 ?side9 ?side10 ?side11 ?side12 ?side13 ?side14 ?side15 ?side16 A23.out).mono ?_); (case side1 => repeat (first | exact (Kd.C_below HR0_3.out HB.out) | (with_reducible apply Kd.C_alloc) | (with_reducible apply Kd.C_drewN) | (with_reducible apply Kd.C_drew))); (case side2 => exact HC0_3.out); (case side3 => repeat (first | exact (Kd.C_below HR0_4.out HB.out) | (with_reducible apply Kd.C_alloc) | (with_reducible apply Kd.C_drewN) | (with_reducible apply Kd.C_drew))); (case side4 => exact HC0_4.out); (case side5 => repeat (first | exact (Kd.C_below HR0_5.out HB.out) | (with_reducible apply Kd.C_alloc) | (with_reducible apply Kd.C_drewN) | (with_reducible apply Kd.C_drew))); (case side6 => exact HC0_5.out); (case side7 => repeat (first | exact (Kd.C_below HR0_6.out HB.out) | (with_reducible apply Kd.C_alloc) | (with_reducible apply Kd.C_drewN) | (with_reducible apply Kd.C_drew))); (case side8 => exact HC0_6.out); (case side9 => repeat (first | exact (Kd.C_below HR0_7.out HB.out) | (with_reducible apply Kd.C_alloc) | (with_reducible apply Kd.C_drewN) | (with_reducible apply Kd.C_drew))); (case side10 => exact HC0_7.out); (case side11 => repeat (first | exact (Kd.C_below HR0_8.out HB.out) | (with_reducible apply Kd.C_alloc) | (with_reducible apply Kd.C_drewN) | (with_reducible apply Kd.C_drew))); (case side12 => exact HC0_8.out); (case side13 => repeat (first | exact (Kd.C_below HR0_9.out HB.out) | (with_reducible apply Kd.C_alloc) | (with_reducible apply Kd.C_drewN) | (with_reducible apply Kd.C_drew))); (case side14 => exact HC0_9.out); (case side15 => repeat (first | exact (Kd.C_below HR0_10.out HB.out) | (with_reducible apply Kd.C_alloc) | (with_reducible apply Kd.C_drewN) | (with_reducible apply Kd.C_drew))); (case side16 => exact HC0_10.out); rintro e w34 ⟨rfl, hb⟩; have n0_ := Aside0.mk (blk_below (g := gb633) (o := .cells #[.int .i64 a0_0, .int .i64 a0_1, .int .i64 a0_2, .slice A0_3 l0_3.length c0_3, .slice A0_4 l0_4.length c0_4, .slice A0_5 l0_5.length c0_5, .slice A0_6 l0_6.length c0_6, .slice A0_7 l0_7.length c0_7, .slice A0_8 l0_8.length c0_8, .slice A0_9 l0_9.length c0_9, .slice A0_10 l0_10.length c0_10] 26 (0, 0)) (by (with_reducible repeat (first | refine blk_drewN ?_ _ | refine blk_drew ?_ | refine blk_alloc ?_ _)); exact BK633.out) hb); have n1_ := Aside0.mk (below_step (by repeat (first | (with_reducible first | exact HB.out | apply below_alloc | apply pw_below_drewN | apply below_drew1 | refine below_set ?_ GE633.out) | exact HB.out)) hb); clear BK633; clear HB; have BK633 := n0_; have HB := n1_; clear n0_ n1_; (try clear hb); (try clear hb2); (try clear hk); (try clear hi); have hcz35_0 := blk_cell BK633.out; have hfz35_0 := blk_frozen BK633.out))
          as_aux_lemma =>
          have tk_ : True := trivial
          go_wp2_with (first | ((with_reducible refine gate_load (T := 26) rfl ?_); refine load_row_event (by first | rfl | (go_simp; done)) 26 _ rfl gb633 rfl 26 _ (0, 0) _ (by (with_reducible repeat (first | refine blk_drewN ?_ _ | refine blk_drew ?_ | refine blk_alloc ?_ _)); first | with_reducible exact BK633.out) hu26 rfl (by kernel_rfl) ?_) | ((with_reducible refine gate_store (t := 26) rfl ?_); refine store_row_event (base := w.heap.size) rfl rfl 26 _ _ rfl (g := gb633) (by rfl) (by rfl) (by (with_reducible repeat (first | refine blk_drewN ?_ _ | refine blk_drew ?_ | refine blk_alloc ?_ _)); exact BK633.out) (by kernel_rfl) (by rfl) (by rfl) GE633.out ?_; intro ws_ hs_ hk_ hb_; have n0_ := Aside0.mk (Below.trans (by repeat (first | (with_reducible first | exact HB.out | apply below_alloc | apply pw_below_drewN | apply below_drew1) | exact HB.out)) hb_); clear HB; have HB := n0_; clear n0_; clear BK633; have BK633 := Aside0.mk hs_; clear hs_; have hxs_ := blk_cell BK633.out; have hys_ := blk_frozen BK633.out; clear hk_ hb_) | (go_at_call 13; clear tk_; (with_reducible refine (tfm_Check.calls kj3 a0_0 a0_1 a0_2 _ _ l0_3 _ _ l0_4 _ _ l0_5 _ _ l0_6 _ _ l0_7 _ _ l0_8 _ _ l0_9 _ _ l0_10 true _ ?side1 ?side2 ?side3 ?side4 ?side5 ?side6 ?side7 ?side8 ?side9 ?side10 ?side11 ?side12 ?side13 ?side14 ?side15 ?side16 A24.out).mono ?_); (case side1 => repeat (first | exact (Kd.C_below HR0_3.out HB.out) | (with_reducible apply Kd.C_alloc) | (with_reducible apply Kd.C_drewN) | (with_reducible apply Kd.C_drew))); (case side2 => exact HC0_3.out); (case side3 => repeat (first | exact (Kd.C_below HR0_4.out HB.out) | (with_reducible apply Kd.C_alloc) | (with_reducible apply Kd.C_drewN) | (with_reducible apply Kd.C_drew))); (case side4 => exact HC0_4.out); (case side5 => repeat (first | exact (Kd.C_below HR0_5.out HB.out) | (with_reducible apply Kd.C_alloc) | (with_reducible apply Kd.C_drewN) | (with_reducible apply Kd.C_drew))); (case side6 => exact HC0_5.out); (case side7 => repeat (first | exact (Kd.C_below HR0_6.out HB.out) | (with_reducible apply Kd.C_alloc) | (with_reducible apply Kd.C_drewN) | (with_reducible apply Kd.C_drew))); (case side8 => exact HC0_6.out); (case side9 => repeat (first | exact (Kd.C_below HR0_7.out HB.out) | (with_reducible apply Kd.C_alloc) | (with_reducible apply Kd.C_drewN) | (with_reducible apply Kd.C_drew))); (case side10 => exact HC0_7.out); (case side11 => repeat (first | exact (Kd.C_below HR0_8.out HB.out) | (with_reducible apply Kd.C_alloc) | (with_reducible apply Kd.C_drewN) | (with_reducible apply Kd.C_drew))); (case side12 => exact HC0_8.out); (case side13 => repeat (first | exact (Kd.C_below HR0_9.out HB.out) | (with_reducible apply Kd.C_alloc) | (with_reducible apply Kd.C_drewN) | (with_reducible apply Kd.C_drew))); (case side14 => exact HC0_9.out); (case side15 => repeat (first | exact (Kd.C_below HR0_10.out HB.out) | (with_reducible apply Kd.C_alloc) | (with_reducible apply Kd.C_drewN) | (with_reducible apply Kd.C_drew))); (case side16 => exact HC0_10.out); rintro e w36 ⟨rfl, hb⟩; have n0_ := Aside0.mk (blk_below (g := gb633) (o := .cells #[.int .i64 a0_0, .int .i64 a0_1, .int .i64 a0_2, .slice A0_3 l0_3.length c0_3, .slice A0_4 l0_4.length c0_4, .slice A0_5 l0_5.length c0_5, .slice A0_6 l0_6.length c0_6, .slice A0_7 l0_7.length c0_7, .slice A0_8 l0_8.length c0_8, .slice A0_9 l0_9.length c0_9, .slice A0_10 l0_10.length c0_10] 26 (0, 0)) (by (with_reducible repeat (first | refine blk_drewN ?_ _ | refine blk_drew ?_ | refine blk_alloc ?_ _)); exact BK633.out) hb); have n1_ := Aside0.mk (below_step (by repeat (first | (with_reducible first | exact HB.out | apply below_alloc | apply pw_below_drewN | apply below_drew1 | refine below_set ?_ GE633.out) | exact HB.out)) hb); clear BK633; clear HB; have BK633 := n0_; have HB := n1_; clear n0_ n1_; (try clear hb); (try clear hb2); (try clear hk); (try clear hi); have hcz37_0 := blk_cell BK633.out; have hfz37_0 := blk_frozen BK633.out; have p637 : 0 ≤ ((ji30) : Int) := odt; have q637 : (ji30) < (l0_3.length : Int) := odt; obtain ⟨ad637, e637, hx637_0, hx637_1, hx637_2, hx637_3, hx637_4, hx637_5⟩ := at_T42 HR0_3.out (ji30) p637 q637; cases e637; replace hx637_0 := (HB.out.cell (World.block_lt_of_cell? w _ hx637_0)).trans hx637_0; replace hx637_1 := (HB.out.cell (World.block_lt_of_cell? w _ hx637_1)).trans hx637_1; replace hx637_2 := (HB.out.cell (World.block_lt_of_cell? w _ hx637_2)).trans hx637_2; replace hx637_3 := (HB.out.cell (World.block_lt_of_cell? w _ hx637_3)).trans hx637_3; replace hx637_4 := (HB.out.cell (World.block_lt_of_cell? w _ hx637_4)).trans hx637_4; replace hx637_5 := (HB.out.cell (World.block_lt_of_cell? w _ hx637_5)).trans hx637_5; replace p637 := eq_true p637; replace q637 := eq_true q637))
          go_ret
          exact ⟨by first | rfl | (simp [errW_none, errW_some] <;> rfl) | (simp only [← hji29, ← hji30]; first | rfl | (simp [errW_none, errW_some] <;> rfl)) | (simp [*, errW_none, errW_some] <;> rfl), by repeat (first | (with_reducible first | exact HB.out | apply below_alloc | apply pw_below_drewN | apply below_drew1 | refine below_set ?_ GE633.out) | exact HB.out)⟩
         ·rw [if_neg c32] at H
          exact absurd H (by simp)
        ·rw [if_neg c31] at H
         exact absurd H (by simp)
       ·rw [if_neg c28] at H
        have c28b0 : decide (a1 < (wrap64 (a0_2 + (l0_3.length : Int)))) = false := decide_eq_false c28
        (try (have c28b1 : decide (a1 < (IntKind.i64.wrap (a0_2 + (l0_3.length : Int)))) = false := by simp only [i64_w]; exact (decide_eq_false c28)))
        clear c28
        obtain rfl := Option.some.inj H
        have hcz38_0 := blk_cell BK633.out
        have hfz38_0 := blk_frozen BK633.out
        have tk_ : True := trivial
        go_wp2_with (first | ((with_reducible refine gate_load (T := 26) rfl ?_); refine load_row_event (by first | rfl | (go_simp; done)) 26 _ rfl gb633 rfl 26 _ (0, 0) _ (by (with_reducible repeat (first | refine blk_drewN ?_ _ | refine blk_drew ?_ | refine blk_alloc ?_ _)); first | with_reducible exact BK633.out) hu26 rfl (by kernel_rfl) ?_) | ((with_reducible refine gate_store (t := 26) rfl ?_); refine store_row_event (base := w.heap.size) rfl rfl 26 _ _ rfl (g := gb633) (by rfl) (by rfl) (by (with_reducible repeat (first | refine blk_drewN ?_ _ | refine blk_drew ?_ | refine blk_alloc ?_ _)); exact BK633.out) (by kernel_rfl) (by rfl) (by rfl) GE633.out ?_; intro ws_ hs_ hk_ hb_; have n0_ := Aside0.mk (Below.trans (by repeat (first | (with_reducible first | exact HB.out | apply below_alloc | apply pw_below_drewN | apply below_drew1) | exact HB.out)) hb_); clear HB; have HB := n0_; clear n0_; clear BK633; have BK633 := Aside0.mk hs_; clear hs_; have hxs_ := blk_cell BK633.out; have hys_ := blk_frozen BK633.out; clear hk_ hb_) | (go_at_call 15; clear tk_; (with_reducible refine (tfm_Has.calls kj3 a0_0 a0_1 a0_2 _ _ l0_3 _ _ l0_4 _ _ l0_5 _ _ l0_6 _ _ l0_7 _ _ l0_8 _ _ l0_9 _ _ l0_10 a1 t635 _ ?side1 ?side2 ?side3 ?side4 ?side5 ?side6 ?side7 ?side8 ?side9 ?side10 ?side11 ?side12 ?side13 ?side14 ?side15 ?side16 A23.out).mono ?_); (case side1 => repeat (first | exact (Kd.C_below HR0_3.out HB.out) | (with_reducible apply Kd.C_alloc) | (with_reducible apply Kd.C_drewN) | (with_reducible apply Kd.C_drew))); (case side2 => exact HC0_3.out); (case side3 => repeat (first | exact (Kd.C_below HR0_4.out HB.out) | (with_reducible apply Kd.C_alloc) | (with_reducible apply Kd.C_drewN) | (with_reducible apply Kd.C_drew))); (case side4 => exact HC0_4.out); (case side5 => repeat (first | exact (Kd.C_below HR0_5.out HB.out) | (with_reducible apply Kd.C_alloc) | (with_reducible apply Kd.C_drewN) | (with_reducible apply Kd.C_drew))); (case side6 => exact HC0_5.out); (case side7 => repeat (first | exact (Kd.C_below HR0_6.out HB.out) | (with_reducible apply Kd.C_alloc) | (with_reducible apply Kd.C_drewN) | (with_reducible apply Kd.C_drew))); (case side8 => exact HC0_6.out); (case side9 => repeat (first | exact (Kd.C_below HR0_7.out HB.out) | (with_reducible apply Kd.C_alloc) | (with_reducible apply Kd.C_drewN) | (with_reducible apply Kd.C_drew))); (case side10 => exact HC0_7.out); (case side11 => repeat (first | exact (Kd.C_below HR0_8.out HB.out) | (with_reducible apply Kd.C_alloc) | (with_reducible apply Kd.C_drewN) | (with_reducible apply Kd.C_drew))); (case side12 => exact HC0_8.out); (case side13 => repeat (first | exact (Kd.C_below HR0_9.out HB.out) | (with_reducible apply Kd.C_alloc) | (with_reducible apply Kd.C_drewN) | (with_reducible apply Kd.C_drew))); (case side14 => exact HC0_9.out); (case side15 => repeat (first | exact (Kd.C_below HR0_10.out HB.out) | (with_reducible apply Kd.C_alloc) | (with_reducible apply Kd.C_drewN) | (with_reducible apply Kd.C_drew))); (case side16 => exact HC0_10.out); rintro e w39 ⟨rfl, hb⟩; have n0_ := Aside0.mk (blk_below (g := gb633) (o := .cells #[.int .i64 a0_0, .int .i64 a0_1, .int .i64 a0_2, .slice A0_3 l0_3.length c0_3, .slice A0_4 l0_4.length c0_4, .slice A0_5 l0_5.length c0_5, .slice A0_6 l0_6.length c0_6, .slice A0_7 l0_7.length c0_7, .slice A0_8 l0_8.length c0_8, .slice A0_9 l0_9.length c0_9, .slice A0_10 l0_10.length c0_10] 26 (0, 0)) (by (with_reducible repeat (first | refine blk_drewN ?_ _ | refine blk_drew ?_ | refine blk_alloc ?_ _)); exact BK633.out) hb); have n1_ := Aside0.mk (below_step (by repeat (first | (with_reducible first | exact HB.out | apply below_alloc | apply pw_below_drewN | apply below_drew1 | refine below_set ?_ GE633.out) | exact HB.out)) hb); clear BK633; clear HB; have BK633 := n0_; have HB := n1_; clear n0_ n1_; (try clear hb); (try clear hb2); (try clear hk); (try clear hi); have hcz40_0 := blk_cell BK633.out; have hfz40_0 := blk_frozen BK633.out))
        as_aux_lemma =>
        have tk_ : True := trivial
        go_wp2_with (first | ((with_reducible refine gate_load (T := 26) rfl ?_); refine load_row_event (by first | rfl | (go_simp; done)) 26 _ rfl gb633 rfl 26 _ (0, 0) _ (by (with_reducible repeat (first | refine blk_drewN ?_ _ | refine blk_drew ?_ | refine blk_alloc ?_ _)); first | with_reducible exact BK633.out) hu26 rfl (by kernel_rfl) ?_) | ((with_reducible refine gate_store (t := 26) rfl ?_); refine store_row_event (base := w.heap.size) rfl rfl 26 _ _ rfl (g := gb633) (by rfl) (by rfl) (by (with_reducible repeat (first | refine blk_drewN ?_ _ | refine blk_drew ?_ | refine blk_alloc ?_ _)); exact BK633.out) (by kernel_rfl) (by rfl) (by rfl) GE633.out ?_; intro ws_ hs_ hk_ hb_; have n0_ := Aside0.mk (Below.trans (by repeat (first | (with_reducible first | exact HB.out | apply below_alloc | apply pw_below_drewN | apply below_drew1) | exact HB.out)) hb_); clear HB; have HB := n0_; clear n0_; clear BK633; have BK633 := Aside0.mk hs_; clear hs_; have hxs_ := blk_cell BK633.out; have hys_ := blk_frozen BK633.out; clear hk_ hb_) | (go_at_call 13; clear tk_; (with_reducible refine (tfm_Check.calls kj3 a0_0 a0_1 a0_2 _ _ l0_3 _ _ l0_4 _ _ l0_5 _ _ l0_6 _ _ l0_7 _ _ l0_8 _ _ l0_9 _ _ l0_10 true _ ?side1 ?side2 ?side3 ?side4 ?side5 ?side6 ?side7 ?side8 ?side9 ?side10 ?side11 ?side12 ?side13 ?side14 ?side15 ?side16 A24.out).mono ?_); (case side1 => repeat (first | exact (Kd.C_below HR0_3.out HB.out) | (with_reducible apply Kd.C_alloc) | (with_reducible apply Kd.C_drewN) | (with_reducible apply Kd.C_drew))); (case side2 => exact HC0_3.out); (case side3 => repeat (first | exact (Kd.C_below HR0_4.out HB.out) | (with_reducible apply Kd.C_alloc) | (with_reducible apply Kd.C_drewN) | (with_reducible apply Kd.C_drew))); (case side4 => exact HC0_4.out); (case side5 => repeat (first | exact (Kd.C_below HR0_5.out HB.out) | (with_reducible apply Kd.C_alloc) | (with_reducible apply Kd.C_drewN) | (with_reducible apply Kd.C_drew))); (case side6 => exact HC0_5.out); (case side7 => repeat (first | exact (Kd.C_below HR0_6.out HB.out) | (with_reducible apply Kd.C_alloc) | (with_reducible apply Kd.C_drewN) | (with_reducible apply Kd.C_drew))); (case side8 => exact HC0_6.out); (case side9 => repeat (first | exact (Kd.C_below HR0_7.out HB.out) | (with_reducible apply Kd.C_alloc) | (with_reducible apply Kd.C_drewN) | (with_reducible apply Kd.C_drew))); (case side10 => exact HC0_7.out); (case side11 => repeat (first | exact (Kd.C_below HR0_8.out HB.out) | (with_reducible apply Kd.C_alloc) | (with_reducible apply Kd.C_drewN) | (with_reducible apply Kd.C_drew))); (case side12 => exact HC0_8.out); (case side13 => repeat (first | exact (Kd.C_below HR0_9.out HB.out) | (with_reducible apply Kd.C_alloc) | (with_reducible apply Kd.C_drewN) | (with_reducible apply Kd.C_drew))); (case side14 => exact HC0_9.out); (case side15 => repeat (first | exact (Kd.C_below HR0_10.out HB.out) | (with_reducible apply Kd.C_alloc) | (with_reducible apply Kd.C_drewN) | (with_reducible apply Kd.C_drew))); (case side16 => exact HC0_10.out); rintro e w41 ⟨rfl, hb⟩; have n0_ := Aside0.mk (blk_below (g := gb633) (o := .cells #[.int .i64 a0_0, .int .i64 a0_1, .int .i64 a0_2, .slice A0_3 l0_3.length c0_3, .slice A0_4 l0_4.length c0_4, .slice A0_5 l0_5.length c0_5, .slice A0_6 l0_6.length c0_6, .slice A0_7 l0_7.length c0_7, .slice A0_8 l0_8.length c0_8, .slice A0_9 l0_9.length c0_9, .slice A0_10 l0_10.length c0_10] 26 (0, 0)) (by (with_reducible repeat (first | refine blk_drewN ?_ _ | refine blk_drew ?_ | refine blk_alloc ?_ _)); exact BK633.out) hb); have n1_ := Aside0.mk (below_step (by repeat (first | (with_reducible first | exact HB.out | apply below_alloc | apply pw_below_drewN | apply below_drew1 | refine below_set ?_ GE633.out) | exact HB.out)) hb); clear BK633; clear HB; have BK633 := n0_; have HB := n1_; clear n0_ n1_; (try clear hb); (try clear hb2); (try clear hk); (try clear hi); have hcz42_0 := blk_cell BK633.out; have hfz42_0 := blk_frozen BK633.out))
        go_ret
        exact ⟨by first | rfl | (simp [errW_none, errW_some] <;> rfl) | (simp [*, errW_none, errW_some] <;> rfl), by repeat (first | (with_reducible first | exact HB.out | apply below_alloc | apply pw_below_drewN | apply below_drew1 | refine below_set ?_ GE633.out) | exact HB.out)⟩
      ·replace c27 := Bool.eq_false_iff.mpr c27
       subst c27
       have H1 : (none) = some r := by rw [if_neg (show ¬ (false = true) by decide)] at H; exact H
       clear H
       have H := H1
       clear H1
       exact absurd H (by simp)
     ·rw [if_neg c26] at H
      have c26b0 : decide (a0_2 ≤ a1) = false := decide_eq_false c26
      clear c26
      by_cases c43 : t634 = true
      ·subst c43
       have H1 : (some (t635 == false)) = some r := by rw [if_pos rfl] at H; exact H
       clear H
       have H := H1
       clear H1
       obtain rfl := Option.some.inj H
       have hcz44_0 := blk_cell BK633.out
       have hfz44_0 := blk_frozen BK633.out
       have tk_ : True := trivial
       go_wp2_with (first | ((with_reducible refine gate_load (T := 26) rfl ?_); refine load_row_event (by first | rfl | (go_simp; done)) 26 _ rfl gb633 rfl 26 _ (0, 0) _ (by (with_reducible repeat (first | refine blk_drewN ?_ _ | refine blk_drew ?_ | refine blk_alloc ?_ _)); first | with_reducible exact BK633.out) hu26 rfl (by kernel_rfl) ?_) | ((with_reducible refine gate_store (t := 26) rfl ?_); refine store_row_event (base := w.heap.size) rfl rfl 26 _ _ rfl (g := gb633) (by rfl) (by rfl) (by (with_reducible repeat (first | refine blk_drewN ?_ _ | refine blk_drew ?_ | refine blk_alloc ?_ _)); exact BK633.out) (by kernel_rfl) (by rfl) (by rfl) GE633.out ?_; intro ws_ hs_ hk_ hb_; have n0_ := Aside0.mk (Below.trans (by repeat (first | (with_reducible first | exact HB.out | apply below_alloc | apply pw_below_drewN | apply below_drew1) | exact HB.out)) hb_); clear HB; have HB := n0_; clear n0_; clear BK633; have BK633 := Aside0.mk hs_; clear hs_; have hxs_ := blk_cell BK633.out; have hys_ := blk_frozen BK633.out; clear hk_ hb_) | (go_at_call 15; clear tk_; (with_reducible refine (tfm_Has.calls kj3 a0_0 a0_1 a0_2 _ _ l0_3 _ _ l0_4 _ _ l0_5 _ _ l0_6 _ _ l0_7 _ _ l0_8 _ _ l0_9 _ _ l0_10 a1 t635 _ ?side1 ?side2 ?side3 ?side4 ?side5 ?side6 ?side7 ?side8 ?side9 ?side10 ?side11 ?side12 ?side13 ?side14 ?side15 ?side16 A23.out).mono ?_); (case side1 => repeat (first | exact (Kd.C_below HR0_3.out HB.out) | (with_reducible apply Kd.C_alloc) | (with_reducible apply Kd.C_drewN) | (with_reducible apply Kd.C_drew))); (case side2 => exact HC0_3.out); (case side3 => repeat (first | exact (Kd.C_below HR0_4.out HB.out) | (with_reducible apply Kd.C_alloc) | (with_reducible apply Kd.C_drewN) | (with_reducible apply Kd.C_drew))); (case side4 => exact HC0_4.out); (case side5 => repeat (first | exact (Kd.C_below HR0_5.out HB.out) | (with_reducible apply Kd.C_alloc) | (with_reducible apply Kd.C_drewN) | (with_reducible apply Kd.C_drew))); (case side6 => exact HC0_5.out); (case side7 => repeat (first | exact (Kd.C_below HR0_6.out HB.out) | (with_reducible apply Kd.C_alloc) | (with_reducible apply Kd.C_drewN) | (with_reducible apply Kd.C_drew))); (case side8 => exact HC0_6.out); (case side9 => repeat (first | exact (Kd.C_below HR0_7.out HB.out) | (with_reducible apply Kd.C_alloc) | (with_reducible apply Kd.C_drewN) | (with_reducible apply Kd.C_drew))); (case side10 => exact HC0_7.out); (case side11 => repeat (first | exact (Kd.C_below HR0_8.out HB.out) | (with_reducible apply Kd.C_alloc) | (with_reducible apply Kd.C_drewN) | (with_reducible apply Kd.C_drew))); (case side12 => exact HC0_8.out); (case side13 => repeat (first | exact (Kd.C_below HR0_9.out HB.out) | (with_reducible apply Kd.C_alloc) | (with_reducible apply Kd.C_drewN) | (with_reducible apply Kd.C_drew))); (case side14 => exact HC0_9.out); (case side15 => repeat (first | exact (Kd.C_below HR0_10.out HB.out) | (with_reducible apply Kd.C_alloc) | (with_reducible apply Kd.C_drewN) | (with_reducible apply Kd.C_drew))); (case side16 => exact HC0_10.out); rintro e w45 ⟨rfl, hb⟩; have n0_ := Aside0.mk (blk_below (g := gb633) (o := .cells #[.int .i64 a0_0, .int .i64 a0_1, .int .i64 a0_2, .slice A0_3 l0_3.length c0_3, .slice A0_4 l0_4.length c0_4, .slice A0_5 l0_5.length c0_5, .slice A0_6 l0_6.length c0_6, .slice A0_7 l0_7.length c0_7, .slice A0_8 l0_8.length c0_8, .slice A0_9 l0_9.length c0_9, .slice A0_10 l0_10.length c0_10] 26 (0, 0)) (by (with_reducible repeat (first | refine blk_drewN ?_ _ | refine blk_drew ?_ | refine blk_alloc ?_ _)); exact BK633.out) hb); have n1_ := Aside0.mk (below_step (by repeat (first | (with_reducible first | exact HB.out | apply below_alloc | apply pw_below_drewN | apply below_drew1 | refine below_set ?_ GE633.out) | exact HB.out)) hb); clear BK633; clear HB; have BK633 := n0_; have HB := n1_; clear n0_ n1_; (try clear hb); (try clear hb2); (try clear hk); (try clear hi); have hcz46_0 := blk_cell BK633.out; have hfz46_0 := blk_frozen BK633.out))
       as_aux_lemma =>
       have tk_ : True := trivial
       go_wp2_with (first | ((with_reducible refine gate_load (T := 26) rfl ?_); refine load_row_event (by first | rfl | (go_simp; done)) 26 _ rfl gb633 rfl 26 _ (0, 0) _ (by (with_reducible repeat (first | refine blk_drewN ?_ _ | refine blk_drew ?_ | refine blk_alloc ?_ _)); first | with_reducible exact BK633.out) hu26 rfl (by kernel_rfl) ?_) | ((with_reducible refine gate_store (t := 26) rfl ?_); refine store_row_event (base := w.heap.size) rfl rfl 26 _ _ rfl (g := gb633) (by rfl) (by rfl) (by (with_reducible repeat (first | refine blk_drewN ?_ _ | refine blk_drew ?_ | refine blk_alloc ?_ _)); exact BK633.out) (by kernel_rfl) (by rfl) (by rfl) GE633.out ?_; intro ws_ hs_ hk_ hb_; have n0_ := Aside0.mk (Below.trans (by repeat (first | (with_reducible first | exact HB.out | apply below_alloc | apply pw_below_drewN | apply below_drew1) | exact HB.out)) hb_); clear HB; have HB := n0_; clear n0_; clear BK633; have BK633 := Aside0.mk hs_; clear hs_; have hxs_ := blk_cell BK633.out; have hys_ := blk_frozen BK633.out; clear hk_ hb_) | (go_at_call 13; clear tk_; (with_reducible refine (tfm_Check.calls kj3 a0_0 a0_1 a0_2 _ _ l0_3 _ _ l0_4 _ _ l0_5 _ _ l0_6 _ _ l0_7 _ _ l0_8 _ _ l0_9 _ _ l0_10 true _ ?side1 ?side2 ?side3 ?side4 ?side5 ?side6 ?side7 ?side8 ?side9 ?side10 ?side11 ?side12 ?side13 ?side14 ?side15 ?side16 A24.out).mono ?_); (case side1 => repeat (first | exact (Kd.C_below HR0_3.out HB.out) | (with_reducible apply Kd.C_alloc) | (with_reducible apply Kd.C_drewN) | (with_reducible apply Kd.C_drew))); (case side2 => exact HC0_3.out); (case side3 => repeat (first | exact (Kd.C_below HR0_4.out HB.out) | (with_reducible apply Kd.C_alloc) | (with_reducible apply Kd.C_drewN) | (with_reducible apply Kd.C_drew))); (case side4 => exact HC0_4.out); (case side5 => repeat (first | exact (Kd.C_below HR0_5.out HB.out) | (with_reducible apply Kd.C_alloc) | (with_reducible apply Kd.C_drewN) | (with_reducible apply Kd.C_drew))); (case side6 => exact HC0_5.out); (case side7 => repeat (first | exact (Kd.C_below HR0_6.out HB.out) | (with_reducible apply Kd.C_alloc) | (with_reducible apply Kd.C_drewN) | (with_reducible apply Kd.C_drew))); (case side8 => exact HC0_6.out); (case side9 => repeat (first | exact (Kd.C_below HR0_7.out HB.out) | (with_reducible apply Kd.C_alloc) | (with_reducible apply Kd.C_drewN) | (with_reducible apply Kd.C_drew))); (case side10 => exact HC0_7.out); (case side11 => repeat (first | exact (Kd.C_below HR0_8.out HB.out) | (with_reducible apply Kd.C_alloc) | (with_reducible apply Kd.C_drewN) | (with_reducible apply Kd.C_drew))); (case side12 => exact HC0_8.out); (case side13 => repeat (first | exact (Kd.C_below HR0_9.out HB.out) | (with_reducible apply Kd.C_alloc) | (with_reducible apply Kd.C_drewN) | (with_reducible apply Kd.C_drew))); (case side14 => exact HC0_9.out); (case side15 => repeat (first | exact (Kd.C_below HR0_10.out HB.out) | (with_reducible apply Kd.C_alloc) | (with_reducible apply Kd.C_drewN) | (with_reducible apply Kd.C_drew))); (case side16 => exact HC0_10.out); rintro e w47 ⟨rfl, hb⟩; have n0_ := Aside0.mk (blk_below (g := gb633) (o := .cells #[.int .i64 a0_0, .int .i64 a0_1, .int .i64 a0_2, .slice A0_3 l0_3.length c0_3, .slice A0_4 l0_4.length c0_4, .slice A0_5 l0_5.length c0_5, .slice A0_6 l0_6.length c0_6, .slice A0_7 l0_7.length c0_7, .slice A0_8 l0_8.length c0_8, .slice A0_9 l0_9.length c0_9, .slice A0_10 l0_10.length c0_10] 26 (0, 0)) (by (with_reducible repeat (first | refine blk_drewN ?_ _ | refine blk_drew ?_ | refine blk_alloc ?_ _)); exact BK633.out) hb); have n1_ := Aside0.mk (below_step (by repeat (first | (with_reducible first | exact HB.out | apply below_alloc | apply pw_below_drewN | apply below_drew1 | refine below_set ?_ GE633.out) | exact HB.out)) hb); clear BK633; clear HB; have BK633 := n0_; have HB := n1_; clear n0_ n1_; (try clear hb); (try clear hb2); (try clear hk); (try clear hi); have hcz48_0 := blk_cell BK633.out; have hfz48_0 := blk_frozen BK633.out))
       go_ret
       exact ⟨by first | rfl | (simp [errW_none, errW_some] <;> rfl) | (simp [*, errW_none, errW_some] <;> rfl), by repeat (first | (with_reducible first | exact HB.out | apply below_alloc | apply pw_below_drewN | apply below_drew1 | refine below_set ?_ GE633.out) | exact HB.out)⟩
      ·replace c43 := Bool.eq_false_iff.mpr c43
       subst c43
       have H1 : (none) = some r := by rw [if_neg (show ¬ (false = true) by decide)] at H; exact H
       clear H
       have H := H1
       clear H1
       exact absurd H (by simp)
    ·replace c25 := Bool.eq_false_iff.mpr c25
     subst c25
     have H1 : (if t634 = true then (some (!t635)) else (none)) = some r := by rw [if_neg (show ¬ (false = true) by decide)] at H; exact H
     clear H
     have H := H1
     clear H1
     by_cases c49 : t634 = true
     ·subst c49
      have H1 : (some (!t635)) = some r := by rw [if_pos rfl] at H; exact H
      clear H
      have H := H1
      clear H1
      obtain rfl := Option.some.inj H
      have hcz50_0 := blk_cell BK633.out
      have hfz50_0 := blk_frozen BK633.out
      have tk_ : True := trivial
      go_wp2_with (first | ((with_reducible refine gate_load (T := 26) rfl ?_); refine load_row_event (by first | rfl | (go_simp; done)) 26 _ rfl gb633 rfl 26 _ (0, 0) _ (by (with_reducible repeat (first | refine blk_drewN ?_ _ | refine blk_drew ?_ | refine blk_alloc ?_ _)); first | with_reducible exact BK633.out) hu26 rfl (by kernel_rfl) ?_) | ((with_reducible refine gate_store (t := 26) rfl ?_); refine store_row_event (base := w.heap.size) rfl rfl 26 _ _ rfl (g := gb633) (by rfl) (by rfl) (by (with_reducible repeat (first | refine blk_drewN ?_ _ | refine blk_drew ?_ | refine blk_alloc ?_ _)); exact BK633.out) (by kernel_rfl) (by rfl) (by rfl) GE633.out ?_; intro ws_ hs_ hk_ hb_; have n0_ := Aside0.mk (Below.trans (by repeat (first | (with_reducible first | exact HB.out | apply below_alloc | apply pw_below_drewN | apply below_drew1) | exact HB.out)) hb_); clear HB; have HB := n0_; clear n0_; clear BK633; have BK633 := Aside0.mk hs_; clear hs_; have hxs_ := blk_cell BK633.out; have hys_ := blk_frozen BK633.out; clear hk_ hb_) | (go_at_call 15; clear tk_; (with_reducible refine (tfm_Has.calls kj3 a0_0 a0_1 a0_2 _ _ l0_3 _ _ l0_4 _ _ l0_5 _ _ l0_6 _ _ l0_7 _ _ l0_8 _ _ l0_9 _ _ l0_10 a1 t635 _ ?side1 ?side2 ?side3 ?side4 ?side5 ?side6 ?side7 ?side8 ?side9 ?side10 ?side11 ?side12 ?side13 ?side14 ?side15 ?side16 A23.out).mono ?_); (case side1 => repeat (first | exact (Kd.C_below HR0_3.out HB.out) | (with_reducible apply Kd.C_alloc) | (with_reducible apply Kd.C_drewN) | (with_reducible apply Kd.C_drew))); (case side2 => exact HC0_3.out); (case side3 => repeat (first | exact (Kd.C_below HR0_4.out HB.out) | (with_reducible apply Kd.C_alloc) | (with_reducible apply Kd.C_drewN) | (with_reducible apply Kd.C_drew))); (case side4 => exact HC0_4.out); (case side5 => repeat (first | exact (Kd.C_below HR0_5.out HB.out) | (with_reducible apply Kd.C_alloc) | (with_reducible apply Kd.C_drewN) | (with_reducible apply Kd.C_drew))); (case side6 => exact HC0_5.out); (case side7 => repeat (first | exact (Kd.C_below HR0_6.out HB.out) | (with_reducible apply Kd.C_alloc) | (with_reducible apply Kd.C_drewN) | (with_reducible apply Kd.C_drew))); (case side8 => exact HC0_6.out); (case side9 => repeat (first | exact (Kd.C_below HR0_7.out HB.out) | (with_reducible apply Kd.C_alloc) | (with_reducible apply Kd.C_drewN) | (with_reducible apply Kd.C_drew))); (case side10 => exact HC0_7.out); (case side11 => repeat (first | exact (Kd.C_below HR0_8.out HB.out) | (with_reducible apply Kd.C_alloc) | (with_reducible apply Kd.C_drewN) | (with_reducible apply Kd.C_drew))); (case side12 => exact HC0_8.out); (case side13 => repeat (first | exact (Kd.C_below HR0_9.out HB.out) | (with_reducible apply Kd.C_alloc) | (with_reducible apply Kd.C_drewN) | (with_reducible apply Kd.C_drew))); (case side14 => exact HC0_9.out); (case side15 => repeat (first | exact (Kd.C_below HR0_10.out HB.out) | (with_reducible apply Kd.C_alloc) | (with_reducible apply Kd.C_drewN) | (with_reducible apply Kd.C_drew))); (case side16 => exact HC0_10.out); rintro e w51 ⟨rfl, hb⟩; have n0_ := Aside0.mk (blk_below (g := gb633) (o := .cells #[.int .i64 a0_0, .int .i64 a0_1, .int .i64 a0_2, .slice A0_3 l0_3.length c0_3, .slice A0_4 l0_4.length c0_4, .slice A0_5 l0_5.length c0_5, .slice A0_6 l0_6.length c0_6, .slice A0_7 l0_7.length c0_7, .slice A0_8 l0_8.length c0_8, .slice A0_9 l0_9.length c0_9, .slice A0_10 l0_10.length c0_10] 26 (0, 0)) (by (with_reducible repeat (first | refine blk_drewN ?_ _ | refine blk_drew ?_ | refine blk_alloc ?_ _)); exact BK633.out) hb); have n1_ := Aside0.mk (below_step (by repeat (first | (with_reducible first | exact HB.out | apply below_alloc | apply pw_below_drewN | apply below_drew1 | refine below_set ?_ GE633.out) | exact HB.out)) hb); clear BK633; clear HB; have BK633 := n0_; have HB := n1_; clear n0_ n1_; (try clear hb); (try clear hb2); (try clear hk); (try clear hi); have hcz52_0 := blk_cell BK633.out; have hfz52_0 := blk_frozen BK633.out))
      as_aux_lemma =>
      have tk_ : True := trivial
      go_wp2_with (first | ((with_reducible refine gate_load (T := 26) rfl ?_); refine load_row_event (by first | rfl | (go_simp; done)) 26 _ rfl gb633 rfl 26 _ (0, 0) _ (by (with_reducible repeat (first | refine blk_drewN ?_ _ | refine blk_drew ?_ | refine blk_alloc ?_ _)); first | with_reducible exact BK633.out) hu26 rfl (by kernel_rfl) ?_) | ((with_reducible refine gate_store (t := 26) rfl ?_); refine store_row_event (base := w.heap.size) rfl rfl 26 _ _ rfl (g := gb633) (by rfl) (by rfl) (by (with_reducible repeat (first | refine blk_drewN ?_ _ | refine blk_drew ?_ | refine blk_alloc ?_ _)); exact BK633.out) (by kernel_rfl) (by rfl) (by rfl) GE633.out ?_; intro ws_ hs_ hk_ hb_; have n0_ := Aside0.mk (Below.trans (by repeat (first | (with_reducible first | exact HB.out | apply below_alloc | apply pw_below_drewN | apply below_drew1) | exact HB.out)) hb_); clear HB; have HB := n0_; clear n0_; clear BK633; have BK633 := Aside0.mk hs_; clear hs_; have hxs_ := blk_cell BK633.out; have hys_ := blk_frozen BK633.out; clear hk_ hb_) | (go_at_call 13; clear tk_; (with_reducible refine (tfm_Check.calls kj3 a0_0 a0_1 a0_2 _ _ l0_3 _ _ l0_4 _ _ l0_5 _ _ l0_6 _ _ l0_7 _ _ l0_8 _ _ l0_9 _ _ l0_10 false _ ?side1 ?side2 ?side3 ?side4 ?side5 ?side6 ?side7 ?side8 ?side9 ?side10 ?side11 ?side12 ?side13 ?side14 ?side15 ?side16 A24.out).mono ?_); (case side1 => repeat (first | exact (Kd.C_below HR0_3.out HB.out) | (with_reducible apply Kd.C_alloc) | (with_reducible apply Kd.C_drewN) | (with_reducible apply Kd.C_drew))); (case side2 => exact HC0_3.out); (case side3 => repeat (first | exact (Kd.C_below HR0_4.out HB.out) | (with_reducible apply Kd.C_alloc) | (with_reducible apply Kd.C_drewN) | (with_reducible apply Kd.C_drew))); (case side4 => exact HC0_4.out); (case side5 => repeat (first | exact (Kd.C_below HR0_5.out HB.out) | (with_reducible apply Kd.C_alloc) | (with_reducible apply Kd.C_drewN) | (with_reducible apply Kd.C_drew))); (case side6 => exact HC0_5.out); (case side7 => repeat (first | exact (Kd.C_below HR0_6.out HB.out) | (with_reducible apply Kd.C_alloc) | (with_reducible apply Kd.C_drewN) | (with_reducible apply Kd.C_drew))); (case side8 => exact HC0_6.out); (case side9 => repeat (first | exact (Kd.C_below HR0_7.out HB.out) | (with_reducible apply Kd.C_alloc) | (with_reducible apply Kd.C_drewN) | (with_reducible apply Kd.C_drew))); (case side10 => exact HC0_7.out); (case side11 => repeat (first | exact (Kd.C_below HR0_8.out HB.out) | (with_reducible apply Kd.C_alloc) | (with_reducible apply Kd.C_drewN) | (with_reducible apply Kd.C_drew))); (case side12 => exact HC0_8.out); (case side13 => repeat (first | exact (Kd.C_below HR0_9.out HB.out) | (with_reducible apply Kd.C_alloc) | (with_reducible apply Kd.C_drewN) | (with_reducible apply Kd.C_drew))); (case side14 => exact HC0_9.out); (case side15 => repeat (first | exact (Kd.C_below HR0_10.out HB.out) | (with_reducible apply Kd.C_alloc) | (with_reducible apply Kd.C_drewN) | (with_reducible apply Kd.C_drew))); (case side16 => exact HC0_10.out); rintro e w53 ⟨rfl, hb⟩; have n0_ := Aside0.mk (blk_below (g := gb633) (o := .cells #[.int .i64 a0_0, .int .i64 a0_1, .int .i64 a0_2, .slice A0_3 l0_3.length c0_3, .slice A0_4 l0_4.length c0_4, .slice A0_5 l0_5.length c0_5, .slice A0_6 l0_6.length c0_6, .slice A0_7 l0_7.length c0_7, .slice A0_8 l0_8.length c0_8, .slice A0_9 l0_9.length c0_9, .slice A0_10 l0_10.length c0_10] 26 (0, 0)) (by (with_reducible repeat (first | refine blk_drewN ?_ _ | refine blk_drew ?_ | refine blk_alloc ?_ _)); exact BK633.out) hb); have n1_ := Aside0.mk (below_step (by repeat (first | (with_reducible first | exact HB.out | apply below_alloc | apply pw_below_drewN | apply below_drew1 | refine below_set ?_ GE633.out) | exact HB.out)) hb); clear BK633; clear HB; have BK633 := n0_; have HB := n1_; clear n0_ n1_; (try clear hb); (try clear hb2); (try clear hk); (try clear hi)))
      go_ret
      exact ⟨by first | rfl | (simp [errW_none, errW_some] <;> rfl) | (simp [*, errW_none, errW_some] <;> rfl), by repeat (first | (with_reducible first | exact HB.out | apply below_alloc | apply pw_below_drewN | apply below_drew1 | refine below_set ?_ GE633.out) | exact HB.out)⟩
     ·replace c49 := Bool.eq_false_iff.mpr c49
      subst c49
      have H1 : (none) = some r := by rw [if_neg (show ¬ (false = true) by decide)] at H; exact H
      clear H
      have H := H1
      clear H1
      exact absurd H (by simp)

end Go.Proofs.Ytpijgpjoobffoaa.G
