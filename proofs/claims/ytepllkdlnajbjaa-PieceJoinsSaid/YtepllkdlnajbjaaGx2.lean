/- Contracts of the functions of this seat: what each call computes, as a plain Lean function. Made by this session's own generator. -/
import Derived.Test.YtepllkdlnajbjaaGx0
import Derived.Test.YtepllkdlnajbjaaGx1
namespace Go.Proofs.Ytepllkdlnajbjaa.G
open Go.RowKit Go.Proofs.YtepllkdlnajbjaaMy Go.Proofs.YtepllkdlnajbjaaW.PrintWords Go.Proofs.YtepllkdlnajbjaaW.PrintLast Go.Proofs.YtepllkdlnajbjaaW.PrintMore
attribute [local go_sem] max2_int min2_int max_two min_two max_three min_three max_four min_four   -- for this text's walks alone
set_option linter.unusedVariables false
set_option linter.unusedSimpArgs false

/-! ### piece_Stands: function 10 -/
mutual
def piece_Stands.j0 : Nat → List (S41) → Bool → Int → Int → Int → Option (Bool)
 | 0, _, _, _, _, _ => none
 | k + 1, x0, x21, x108000, x108001, x108002 => if x21 = true then (some false) else (if 0 ≤ x108001 then (if x108001 < (x0.length : Int) then (if x108000 = 0 then (if x108001 = 0 then (some (x108002 == 0)) else (some false)) else (if x108000 = 1 then (piece_Stands.j1 k (((rd_T41 x0 x108001).f0).length : Int) (x108001 == (wrap64 ((x0.length : Int) - 1))) x108000 (x108000 == 1) x108000 x108001 x108002) else (piece_Stands.j1 k (((rd_T41 x0 x108001).f0).length : Int) (x108001 == (wrap64 ((x0.length : Int) - 1))) x108000 (x108000 == 5) x108000 x108001 x108002))) else (none)) else (none))
def piece_Stands.j1 : Nat → Int → Bool → Int → Bool → Int → Int → Int → Option (Bool)
 | 0, _, _, _, _, _, _, _ => none
 | k + 1, x5, x6, x36, x47, x108000, x108001, x108002 => if x47 = true then (if x108002 = x5 then (some (x6 == (x108000 == 5))) else (some false)) else (if x36 = 2 then (if x108002 > 0 then (some (decide (x108002 < x5))) else (some false)) else (if x36 = 3 then (if x108002 > 0 then (some (decide (x108002 < x5))) else (some false)) else (if x36 = 4 then (if x108002 > 0 then (some (decide (x108002 < x5))) else (some false)) else (some false))))
end
def piece_Stands.f (k : Nat) (l0 : List (S41)) (a1_0 : Int) (a1_1 : Int) (a1_2 : Int) : Option (Bool) := (text_Check.f k l0).bind fun t108 => (if t108 = true then (if a1_1 < 0 then (piece_Stands.j0 k l0 true a1_0 a1_1 a1_2) else (piece_Stands.j0 k l0 (decide (a1_1 ≥ (l0.length : Int))) a1_0 a1_1 a1_2)) else (piece_Stands.j0 k l0 true a1_0 a1_1 a1_2))
theorem piece_Stands.mono_l : ∀ k, (∀ y0 y1 y2 y3 y4, LeO (piece_Stands.j0 k y0 y1 y2 y3 y4) (piece_Stands.j0 (k + 1) y0 y1 y2 y3 y4)) ∧ (∀ y0 y1 y2 y3 y4 y5 y6, LeO (piece_Stands.j1 k y0 y1 y2 y3 y4 y5 y6) (piece_Stands.j1 (k + 1) y0 y1 y2 y3 y4 y5 y6))
 | 0 => ⟨fun _ _ _ _ _ r h => by simp [piece_Stands.j0] at h, fun _ _ _ _ _ _ _ r h => by simp [piece_Stands.j1] at h⟩
 | k + 1 => by
  obtain ⟨ih0, ih1⟩ := piece_Stands.mono_l k
  refine ⟨?_, ?_⟩
  ·intro y0 y1 y2 y3 y4
   unfold piece_Stands.j0
   repeat' first
   | (with_reducible exact ih0 _ _ _ _ _)
   | (with_reducible exact ih1 _ _ _ _ _ _ _)
   | (with_reducible exact text_Check.mono _ _)
   | (with_reducible exact LeO.refl _)
   | (with_reducible exact LeO.none _)
   | (with_reducible refine LeO.ite ?_ ?_)
   | (with_reducible refine LeO.bind ?_ (fun _ => ?_))
   | exact ih0 _ _ _ _ _
   | exact ih1 _ _ _ _ _ _ _
   | exact text_Check.mono _ _
   | exact LeO.none _
   | refine LeO.ite ?_ ?_
   | refine LeO.bind ?_ (fun _ => ?_)
  ·intro y0 y1 y2 y3 y4 y5 y6
   unfold piece_Stands.j1
   repeat' first
   | (with_reducible exact ih0 _ _ _ _ _)
   | (with_reducible exact ih1 _ _ _ _ _ _ _)
   | (with_reducible exact text_Check.mono _ _)
   | (with_reducible exact LeO.refl _)
   | (with_reducible exact LeO.none _)
   | (with_reducible refine LeO.ite ?_ ?_)
   | (with_reducible refine LeO.bind ?_ (fun _ => ?_))
   | exact ih0 _ _ _ _ _
   | exact ih1 _ _ _ _ _ _ _
   | exact text_Check.mono _ _
   | exact LeO.none _
   | refine LeO.ite ?_ ?_
   | refine LeO.bind ?_ (fun _ => ?_)
theorem piece_Stands.mono : ∀ a0 a1 a2 a3 k, LeO (piece_Stands.f k a0 a1 a2 a3) (piece_Stands.f (k + 1) a0 a1 a2 a3) := by
 intro a0 a1 a2 a3 k
 obtain ⟨ih0, ih1⟩ := piece_Stands.mono_l k
 unfold piece_Stands.f
 repeat' first
   | (with_reducible exact ih0 _ _ _ _ _)
   | (with_reducible exact ih1 _ _ _ _ _ _ _)
   | (with_reducible exact text_Check.mono _ _)
   | (with_reducible exact LeO.refl _)
   | (with_reducible exact LeO.none _)
   | (with_reducible refine LeO.ite ?_ ?_)
   | (with_reducible refine LeO.bind ?_ (fun _ => ?_))
   | exact ih0 _ _ _ _ _
   | exact ih1 _ _ _ _ _ _ _
   | exact text_Check.mono _ _
   | exact LeO.none _
   | refine LeO.ite ?_ ?_
   | refine LeO.bind ?_ (fun _ => ?_)
set_option maxHeartbeats 8000000 in
set_option maxRecDepth 100000 in
theorem piece_Stands.calls (k : Nat) (A0 : Option Addr) (c0 : Nat) (l0 : List (S41)) (a1_0 : Int) (a1_1 : Int) (a1_2 : Int) (r : Bool) (w : World) (hr0 : Kd.C k41 w A0 l0.length l0) (hc0 : l0.length ≤ c0) (h : piece_Stands.f k l0 a1_0 a1_1 a1_2 = some r) :
  Calls Try.prog 10 #[.slice A0 l0.length c0, .agg #[.int .i64 a1_0, .int .i64 a1_1, .int .i64 a1_2]] w fun e w' => e = .returned (.bool r) ∧ Below w.heap.size w w' := by
 have hu24 := Try.underlying24
 have HR0 := Aside0.mk hr0
 have HC0 := Aside0.mk hc0
 clear hr0 hc0
 have HB := Aside0.mk (Below.refl w.heap.size w)
 have H : ((text_Check.f k l0).bind fun t108 => (if t108 = true then (if a1_1 < 0 then (piece_Stands.j0 k l0 true a1_0 a1_1 a1_2) else (piece_Stands.j0 k l0 (decide (a1_1 ≥ (l0.length : Int))) a1_0 a1_1 a1_2)) else (piece_Stands.j0 k l0 true a1_0 a1_1 a1_2))) = some r := h
 clear h
 have HC3 := Aside0.mk H
 clear H
 go_enter Try.func10, Try.ntmps10
 go_upto_region 1 with (first | ((with_reducible refine gate_dst (N := 3) rfl ?_); (try (refine gate_guard (by rfl) ?_; dsimp only)); refine box_event ?hg (N := 3) ?hd (cs := #[.int .i64 a1_0, .int .i64 a1_1, .int .i64 a1_2]) (t := 24) ?hr ?_; (case hd => rfl); (case hg => rfl); (case hr => first | (go_simp; done) | (go_simp; rfl)); intro gb107 hg w4 hbox hb; have n0_ := Aside0.mk (below_step (by repeat (first | (with_reducible first | exact HB.out | apply below_alloc | apply pw_below_drewN | apply below_drew1) | exact HB.out)) hb); have n1_ := Aside0.mk (hbox); have n2_ := Aside0.mk ((by rw [hg]; exact (below_size (by repeat (first | (with_reducible first | exact HB.out | apply below_alloc | apply pw_below_drewN | apply below_drew1) | exact HB.out))) : w.heap.size ≤ gb107)); have n3_ := Aside0.mk ((by rw [hg]; exact (below_size (by repeat (first | (with_reducible first | exact HB.out | apply below_alloc | apply pw_below_drewN | apply below_drew1) | exact HB.out))) : w.heap.size ≤ gb107)); clear HB; have HB := n0_; have BK107 := n1_; have GW107 := n2_; have GE107 := n3_; clear n0_ n1_ n2_ n3_; clear hb hbox hg))
 repeat (go_quiet (first | ((with_reducible refine gate_dst (N := 3) rfl ?_); (try (refine gate_guard (by rfl) ?_; dsimp only)); refine box_event ?hg (N := 3) ?hd (cs := #[.int .i64 a1_0, .int .i64 a1_1, .int .i64 a1_2]) (t := 24) ?hr ?_; (case hd => rfl); (case hg => rfl); (case hr => first | (go_simp; done) | (go_simp; rfl)); intro gb107 hg w4 hbox hb; have n0_ := Aside0.mk (below_step (by repeat (first | (with_reducible first | exact HB.out | apply below_alloc | apply pw_below_drewN | apply below_drew1) | exact HB.out)) hb); have n1_ := Aside0.mk (hbox); have n2_ := Aside0.mk ((by rw [hg]; exact (below_size (by repeat (first | (with_reducible first | exact HB.out | apply below_alloc | apply pw_below_drewN | apply below_drew1) | exact HB.out))) : w.heap.size ≤ gb107)); have n3_ := Aside0.mk ((by rw [hg]; exact (below_size (by repeat (first | (with_reducible first | exact HB.out | apply below_alloc | apply pw_below_drewN | apply below_drew1) | exact HB.out))) : w.heap.size ≤ gb107)); clear HB; have HB := n0_; have BK107 := n1_; have GW107 := n2_; have GE107 := n3_; clear n0_ n1_ n2_ n3_; clear hb hbox hg)); go_upto_region 1 with (first | ((with_reducible refine gate_dst (N := 3) rfl ?_); (try (refine gate_guard (by rfl) ?_; dsimp only)); refine box_event ?hg (N := 3) ?hd (cs := #[.int .i64 a1_0, .int .i64 a1_1, .int .i64 a1_2]) (t := 24) ?hr ?_; (case hd => rfl); (case hg => rfl); (case hr => first | (go_simp; done) | (go_simp; rfl)); intro gb107 hg w4 hbox hb; have n0_ := Aside0.mk (below_step (by repeat (first | (with_reducible first | exact HB.out | apply below_alloc | apply pw_below_drewN | apply below_drew1) | exact HB.out)) hb); have n1_ := Aside0.mk (hbox); have n2_ := Aside0.mk ((by rw [hg]; exact (below_size (by repeat (first | (with_reducible first | exact HB.out | apply below_alloc | apply pw_below_drewN | apply below_drew1) | exact HB.out))) : w.heap.size ≤ gb107)); have n3_ := Aside0.mk ((by rw [hg]; exact (below_size (by repeat (first | (with_reducible first | exact HB.out | apply below_alloc | apply pw_below_drewN | apply below_drew1) | exact HB.out))) : w.heap.size ≤ gb107)); clear HB; have HB := n0_; have BK107 := n1_; have GW107 := n2_; have GE107 := n3_; clear n0_ n1_ n2_ n3_; clear hb hbox hg)))
 (try simp only [Act.put, List.setIfInBounds_toArray, List.set_cons_zero, List.set_cons_succ])
 go_cut [21] (fun v21 wc => ∃ (kq : Nat) (x21_2 : Bool), v21 = .bool x21_2 ∧ Aside0 (piece_Stands.j0 kq l0 x21_2 a1_0 a1_1 a1_2 = some r) ∧ Aside0 (kq ≤ k) ∧ Aside0 (wc.heap[gb107]? = some (.cells #[.int .i64 a1_0, .int .i64 a1_1, .int .i64 a1_2] 24 (0, 0))) ∧ Aside0 (Below w.heap.size w wc))
 case first =>
  have H := HC3.out
  clear HC3
  replace H := Option.bind_eq_some_iff.mp H
  obtain ⟨t108, A50, H⟩ := H
  replace H : (if t108 = true then (if a1_1 < 0 then (piece_Stands.j0 k l0 true a1_0 a1_1 a1_2) else (piece_Stands.j0 k l0 (decide (a1_1 ≥ (l0.length : Int))) a1_0 a1_1 a1_2)) else (piece_Stands.j0 k l0 true a1_0 a1_1 a1_2)) = some r := H
  have A5 := Aside0.mk A50
  clear A50
  by_cases c6 : t108 = true
  ·subst c6
   have H1 : (if a1_1 < 0 then (piece_Stands.j0 k l0 true a1_0 a1_1 a1_2) else (piece_Stands.j0 k l0 (decide (a1_1 ≥ (l0.length : Int))) a1_0 a1_1 a1_2)) = some r := by rw [if_pos rfl] at H; exact H
   clear H
   have H := H1
   clear H1
   by_cases c7 : a1_1 < 0
   ·rw [if_pos c7] at H
    have c7b0 : decide (a1_1 < 0) = true := decide_eq_true c7
    clear c7
    (first | rw [c7b0] | (simp only [i64_w, i32_w]; rw [c7b0]) | skip)
    have H' := Aside0.mk H
    clear H
    go_wp2_with (first | (go_at_call 15; (with_reducible refine (text_Check.calls k _ _ l0 true _ ?side1 ?side2 A5.out).mono ?_); (case side1 => repeat (first | exact (Kd.C_below HR0.out HB.out) | (with_reducible refine Kd.C_alloc ?_ _) | (with_reducible refine Kd.C_drewN ?_ _) | (with_reducible refine Kd.C_drew ?_))); (case side2 => exact HC0.out); rintro e w8 ⟨rfl, hb⟩; have n0_ := Aside0.mk (blk_below (g := gb107) (o := .cells #[.int .i64 a1_0, .int .i64 a1_1, .int .i64 a1_2] 24 (0, 0)) (by (with_reducible repeat (first | refine blk_drewN ?_ _ | refine blk_drew ?_ | refine blk_alloc ?_ _)); exact BK107.out) hb); have n1_ := Aside0.mk (below_step (by repeat (first | (with_reducible first | exact HB.out | apply below_alloc | apply pw_below_drewN | apply below_drew1 | refine below_set ?_ GE107.out) | exact HB.out)) hb); clear BK107; clear HB; have BK107 := n0_; have HB := n1_; clear n0_ n1_; (try clear hb); (try clear hb2); (try clear hk); (try clear hi); have hcz9_0 : w8.cell? ⟨gb107, 0, none⟩ = some (.int .i64 a1_0) := (blk_cell BK107.out 0).trans rfl; have hcz9_1 : w8.cell? ⟨gb107, 1, none⟩ = some (.int .i64 a1_1) := (blk_cell BK107.out 1).trans rfl; have hcz9_2 : w8.cell? ⟨gb107, 2, none⟩ = some (.int .i64 a1_2) := (blk_cell BK107.out 2).trans rfl; have hfz9_0 := blk_frozen BK107.out 0; have hfz9_1 := blk_frozen BK107.out 1; have hfz9_2 := blk_frozen BK107.out 2))
    repeat (go_quiet (first | (go_at_call 15; (with_reducible refine (text_Check.calls k _ _ l0 true _ ?side1 ?side2 A5.out).mono ?_); (case side1 => repeat (first | exact (Kd.C_below HR0.out HB.out) | (with_reducible refine Kd.C_alloc ?_ _) | (with_reducible refine Kd.C_drewN ?_ _) | (with_reducible refine Kd.C_drew ?_))); (case side2 => exact HC0.out); rintro e w8 ⟨rfl, hb⟩; have n0_ := Aside0.mk (blk_below (g := gb107) (o := .cells #[.int .i64 a1_0, .int .i64 a1_1, .int .i64 a1_2] 24 (0, 0)) (by (with_reducible repeat (first | refine blk_drewN ?_ _ | refine blk_drew ?_ | refine blk_alloc ?_ _)); exact BK107.out) hb); have n1_ := Aside0.mk (below_step (by repeat (first | (with_reducible first | exact HB.out | apply below_alloc | apply pw_below_drewN | apply below_drew1 | refine below_set ?_ GE107.out) | exact HB.out)) hb); clear BK107; clear HB; have BK107 := n0_; have HB := n1_; clear n0_ n1_; (try clear hb); (try clear hb2); (try clear hk); (try clear hi); have hcz9_0 : w8.cell? ⟨gb107, 0, none⟩ = some (.int .i64 a1_0) := (blk_cell BK107.out 0).trans rfl; have hcz9_1 : w8.cell? ⟨gb107, 1, none⟩ = some (.int .i64 a1_1) := (blk_cell BK107.out 1).trans rfl; have hcz9_2 : w8.cell? ⟨gb107, 2, none⟩ = some (.int .i64 a1_2) := (blk_cell BK107.out 2).trans rfl; have hfz9_0 := blk_frozen BK107.out 0; have hfz9_1 := blk_frozen BK107.out 1; have hfz9_2 := blk_frozen BK107.out 2)); try go_wp2_with (first | (go_at_call 15; (with_reducible refine (text_Check.calls k _ _ l0 true _ ?side1 ?side2 A5.out).mono ?_); (case side1 => repeat (first | exact (Kd.C_below HR0.out HB.out) | (with_reducible refine Kd.C_alloc ?_ _) | (with_reducible refine Kd.C_drewN ?_ _) | (with_reducible refine Kd.C_drew ?_))); (case side2 => exact HC0.out); rintro e w8 ⟨rfl, hb⟩; have n0_ := Aside0.mk (blk_below (g := gb107) (o := .cells #[.int .i64 a1_0, .int .i64 a1_1, .int .i64 a1_2] 24 (0, 0)) (by (with_reducible repeat (first | refine blk_drewN ?_ _ | refine blk_drew ?_ | refine blk_alloc ?_ _)); exact BK107.out) hb); have n1_ := Aside0.mk (below_step (by repeat (first | (with_reducible first | exact HB.out | apply below_alloc | apply pw_below_drewN | apply below_drew1 | refine below_set ?_ GE107.out) | exact HB.out)) hb); clear BK107; clear HB; have BK107 := n0_; have HB := n1_; clear n0_ n1_; (try clear hb); (try clear hb2); (try clear hk); (try clear hi); have hcz9_0 : w8.cell? ⟨gb107, 0, none⟩ = some (.int .i64 a1_0) := (blk_cell BK107.out 0).trans rfl; have hcz9_1 : w8.cell? ⟨gb107, 1, none⟩ = some (.int .i64 a1_1) := (blk_cell BK107.out 1).trans rfl; have hcz9_2 : w8.cell? ⟨gb107, 2, none⟩ = some (.int .i64 a1_2) := (blk_cell BK107.out 2).trans rfl; have hfz9_0 := blk_frozen BK107.out 0; have hfz9_1 := blk_frozen BK107.out 1; have hfz9_2 := blk_frozen BK107.out 2)))
    go_meet
    case rel => exact ⟨_, (true), (by first | rfl | (simp; done) | (simp [*]; done)), H', ⟨by first | omega | exact Nat.le_refl _⟩, ⟨by (with_reducible repeat (first | refine blk_drewN ?_ _ | refine blk_drew ?_ | refine blk_alloc ?_ _)); exact BK107.out⟩, ⟨by repeat (first | (with_reducible first | exact HB.out | apply below_alloc | apply pw_below_drewN | apply below_drew1 | refine below_set ?_ GE107.out) | exact HB.out)⟩⟩
   ·rw [if_neg c7] at H
    have c7b0 : decide (a1_1 < 0) = false := decide_eq_false c7
    clear c7
    (first | rw [c7b0] | (simp only [i64_w, i32_w]; rw [c7b0]) | skip)
    have H' := Aside0.mk H
    clear H
    go_wp2_with (first | (go_at_call 15; (with_reducible refine (text_Check.calls k _ _ l0 true _ ?side1 ?side2 A5.out).mono ?_); (case side1 => repeat (first | exact (Kd.C_below HR0.out HB.out) | (with_reducible refine Kd.C_alloc ?_ _) | (with_reducible refine Kd.C_drewN ?_ _) | (with_reducible refine Kd.C_drew ?_))); (case side2 => exact HC0.out); rintro e w10 ⟨rfl, hb⟩; have n0_ := Aside0.mk (blk_below (g := gb107) (o := .cells #[.int .i64 a1_0, .int .i64 a1_1, .int .i64 a1_2] 24 (0, 0)) (by (with_reducible repeat (first | refine blk_drewN ?_ _ | refine blk_drew ?_ | refine blk_alloc ?_ _)); exact BK107.out) hb); have n1_ := Aside0.mk (below_step (by repeat (first | (with_reducible first | exact HB.out | apply below_alloc | apply pw_below_drewN | apply below_drew1 | refine below_set ?_ GE107.out) | exact HB.out)) hb); clear BK107; clear HB; have BK107 := n0_; have HB := n1_; clear n0_ n1_; (try clear hb); (try clear hb2); (try clear hk); (try clear hi); have hcz11_0 : w10.cell? ⟨gb107, 0, none⟩ = some (.int .i64 a1_0) := (blk_cell BK107.out 0).trans rfl; have hcz11_1 : w10.cell? ⟨gb107, 1, none⟩ = some (.int .i64 a1_1) := (blk_cell BK107.out 1).trans rfl; have hcz11_2 : w10.cell? ⟨gb107, 2, none⟩ = some (.int .i64 a1_2) := (blk_cell BK107.out 2).trans rfl; have hfz11_0 := blk_frozen BK107.out 0; have hfz11_1 := blk_frozen BK107.out 1; have hfz11_2 := blk_frozen BK107.out 2))
    repeat (go_quiet (first | (go_at_call 15; (with_reducible refine (text_Check.calls k _ _ l0 true _ ?side1 ?side2 A5.out).mono ?_); (case side1 => repeat (first | exact (Kd.C_below HR0.out HB.out) | (with_reducible refine Kd.C_alloc ?_ _) | (with_reducible refine Kd.C_drewN ?_ _) | (with_reducible refine Kd.C_drew ?_))); (case side2 => exact HC0.out); rintro e w10 ⟨rfl, hb⟩; have n0_ := Aside0.mk (blk_below (g := gb107) (o := .cells #[.int .i64 a1_0, .int .i64 a1_1, .int .i64 a1_2] 24 (0, 0)) (by (with_reducible repeat (first | refine blk_drewN ?_ _ | refine blk_drew ?_ | refine blk_alloc ?_ _)); exact BK107.out) hb); have n1_ := Aside0.mk (below_step (by repeat (first | (with_reducible first | exact HB.out | apply below_alloc | apply pw_below_drewN | apply below_drew1 | refine below_set ?_ GE107.out) | exact HB.out)) hb); clear BK107; clear HB; have BK107 := n0_; have HB := n1_; clear n0_ n1_; (try clear hb); (try clear hb2); (try clear hk); (try clear hi); have hcz11_0 : w10.cell? ⟨gb107, 0, none⟩ = some (.int .i64 a1_0) := (blk_cell BK107.out 0).trans rfl; have hcz11_1 : w10.cell? ⟨gb107, 1, none⟩ = some (.int .i64 a1_1) := (blk_cell BK107.out 1).trans rfl; have hcz11_2 : w10.cell? ⟨gb107, 2, none⟩ = some (.int .i64 a1_2) := (blk_cell BK107.out 2).trans rfl; have hfz11_0 := blk_frozen BK107.out 0; have hfz11_1 := blk_frozen BK107.out 1; have hfz11_2 := blk_frozen BK107.out 2)); try go_wp2_with (first | (go_at_call 15; (with_reducible refine (text_Check.calls k _ _ l0 true _ ?side1 ?side2 A5.out).mono ?_); (case side1 => repeat (first | exact (Kd.C_below HR0.out HB.out) | (with_reducible refine Kd.C_alloc ?_ _) | (with_reducible refine Kd.C_drewN ?_ _) | (with_reducible refine Kd.C_drew ?_))); (case side2 => exact HC0.out); rintro e w10 ⟨rfl, hb⟩; have n0_ := Aside0.mk (blk_below (g := gb107) (o := .cells #[.int .i64 a1_0, .int .i64 a1_1, .int .i64 a1_2] 24 (0, 0)) (by (with_reducible repeat (first | refine blk_drewN ?_ _ | refine blk_drew ?_ | refine blk_alloc ?_ _)); exact BK107.out) hb); have n1_ := Aside0.mk (below_step (by repeat (first | (with_reducible first | exact HB.out | apply below_alloc | apply pw_below_drewN | apply below_drew1 | refine below_set ?_ GE107.out) | exact HB.out)) hb); clear BK107; clear HB; have BK107 := n0_; have HB := n1_; clear n0_ n1_; (try clear hb); (try clear hb2); (try clear hk); (try clear hi); have hcz11_0 : w10.cell? ⟨gb107, 0, none⟩ = some (.int .i64 a1_0) := (blk_cell BK107.out 0).trans rfl; have hcz11_1 : w10.cell? ⟨gb107, 1, none⟩ = some (.int .i64 a1_1) := (blk_cell BK107.out 1).trans rfl; have hcz11_2 : w10.cell? ⟨gb107, 2, none⟩ = some (.int .i64 a1_2) := (blk_cell BK107.out 2).trans rfl; have hfz11_0 := blk_frozen BK107.out 0; have hfz11_1 := blk_frozen BK107.out 1; have hfz11_2 := blk_frozen BK107.out 2)))
    go_meet
    case rel => exact ⟨_, (decide (a1_1 ≥ (l0.length : Int))), (by first | rfl | (simp; done) | (simp [*]; done)), H', ⟨by first | omega | exact Nat.le_refl _⟩, ⟨by (with_reducible repeat (first | refine blk_drewN ?_ _ | refine blk_drew ?_ | refine blk_alloc ?_ _)); exact BK107.out⟩, ⟨by repeat (first | (with_reducible first | exact HB.out | apply below_alloc | apply pw_below_drewN | apply below_drew1 | refine below_set ?_ GE107.out) | exact HB.out)⟩⟩
  ·replace c6 := Bool.eq_false_iff.mpr c6
   subst c6
   have H1 : (piece_Stands.j0 k l0 true a1_0 a1_1 a1_2) = some r := by rw [if_neg (show ¬ (false = true) by decide)] at H; exact H
   clear H
   have H := H1
   clear H1
   have H' := Aside0.mk H
   clear H
   go_wp2_with (first | (go_at_call 15; (with_reducible refine (text_Check.calls k _ _ l0 false _ ?side1 ?side2 A5.out).mono ?_); (case side1 => repeat (first | exact (Kd.C_below HR0.out HB.out) | (with_reducible refine Kd.C_alloc ?_ _) | (with_reducible refine Kd.C_drewN ?_ _) | (with_reducible refine Kd.C_drew ?_))); (case side2 => exact HC0.out); rintro e w12 ⟨rfl, hb⟩; have n0_ := Aside0.mk (blk_below (g := gb107) (o := .cells #[.int .i64 a1_0, .int .i64 a1_1, .int .i64 a1_2] 24 (0, 0)) (by (with_reducible repeat (first | refine blk_drewN ?_ _ | refine blk_drew ?_ | refine blk_alloc ?_ _)); exact BK107.out) hb); have n1_ := Aside0.mk (below_step (by repeat (first | (with_reducible first | exact HB.out | apply below_alloc | apply pw_below_drewN | apply below_drew1 | refine below_set ?_ GE107.out) | exact HB.out)) hb); clear BK107; clear HB; have BK107 := n0_; have HB := n1_; clear n0_ n1_; (try clear hb); (try clear hb2); (try clear hk); (try clear hi)))
   repeat (go_quiet (first | (go_at_call 15; (with_reducible refine (text_Check.calls k _ _ l0 false _ ?side1 ?side2 A5.out).mono ?_); (case side1 => repeat (first | exact (Kd.C_below HR0.out HB.out) | (with_reducible refine Kd.C_alloc ?_ _) | (with_reducible refine Kd.C_drewN ?_ _) | (with_reducible refine Kd.C_drew ?_))); (case side2 => exact HC0.out); rintro e w12 ⟨rfl, hb⟩; have n0_ := Aside0.mk (blk_below (g := gb107) (o := .cells #[.int .i64 a1_0, .int .i64 a1_1, .int .i64 a1_2] 24 (0, 0)) (by (with_reducible repeat (first | refine blk_drewN ?_ _ | refine blk_drew ?_ | refine blk_alloc ?_ _)); exact BK107.out) hb); have n1_ := Aside0.mk (below_step (by repeat (first | (with_reducible first | exact HB.out | apply below_alloc | apply pw_below_drewN | apply below_drew1 | refine below_set ?_ GE107.out) | exact HB.out)) hb); clear BK107; clear HB; have BK107 := n0_; have HB := n1_; clear n0_ n1_; (try clear hb); (try clear hb2); (try clear hk); (try clear hi))); try go_wp2_with (first | (go_at_call 15; (with_reducible refine (text_Check.calls k _ _ l0 false _ ?side1 ?side2 A5.out).mono ?_); (case side1 => repeat (first | exact (Kd.C_below HR0.out HB.out) | (with_reducible refine Kd.C_alloc ?_ _) | (with_reducible refine Kd.C_drewN ?_ _) | (with_reducible refine Kd.C_drew ?_))); (case side2 => exact HC0.out); rintro e w12 ⟨rfl, hb⟩; have n0_ := Aside0.mk (blk_below (g := gb107) (o := .cells #[.int .i64 a1_0, .int .i64 a1_1, .int .i64 a1_2] 24 (0, 0)) (by (with_reducible repeat (first | refine blk_drewN ?_ _ | refine blk_drew ?_ | refine blk_alloc ?_ _)); exact BK107.out) hb); have n1_ := Aside0.mk (below_step (by repeat (first | (with_reducible first | exact HB.out | apply below_alloc | apply pw_below_drewN | apply below_drew1 | refine below_set ?_ GE107.out) | exact HB.out)) hb); clear BK107; clear HB; have BK107 := n0_; have HB := n1_; clear n0_ n1_; (try clear hb); (try clear hb2); (try clear hk); (try clear hi))))
   go_meet
   case rel => exact ⟨_, (true), (by first | rfl | (simp; done) | (simp [*]; done)), H', ⟨by first | omega | exact Nat.le_refl _⟩, ⟨by (with_reducible repeat (first | refine blk_drewN ?_ _ | refine blk_drew ?_ | refine blk_alloc ?_ _)); exact BK107.out⟩, ⟨by repeat (first | (with_reducible first | exact HB.out | apply below_alloc | apply pw_below_drewN | apply below_drew1 | refine below_set ?_ GE107.out) | exact HB.out)⟩⟩
 case rest =>
  clear HC3
  try clear c1
  try clear p2
  try clear c6
  try clear c7
  try clear c7b0
  try clear c10
  try clear hcz11_0
  try clear hcz11_1
  try clear hcz11_2
  try clear hcz9_0
  try clear hcz9_1
  try clear hcz9_2
  try clear hfz11_0
  try clear hfz11_1
  try clear hfz11_2
  try clear hfz9_0
  try clear hfz9_1
  try clear hfz9_2
  obtain ⟨kq, x21_2, rfl, HA, HJ2, BK107, HB⟩ := hcut
  cases kq with
  | zero => exact absurd HA.out (by simp [piece_Stands.j0])
  | succ kj2 =>
   have H := HA.out
   clear HA
   simp only [piece_Stands.j0] at H
   by_cases c13 : x21_2 = true
   ·subst c13
    have H1 : (some false) = some r := by rw [if_pos rfl] at H; exact H
    clear H
    have H := H1
    clear H1
    obtain rfl := Option.some.inj H
    go_wp2
    repeat (go_quiet (fail); try go_wp2)
    go_ret
    exact ⟨by first | rfl | (simp [errW_none, errW_some] <;> rfl) | (simp [*, errW_none, errW_some] <;> rfl), by repeat (first | (with_reducible first | exact HB.out | apply below_alloc | apply pw_below_drewN | apply below_drew1 | refine below_set ?_ GE107.out) | exact HB.out)⟩
   ·replace c13 := Bool.eq_false_iff.mpr c13
    subst c13
    have H1 : (if 0 ≤ a1_1 then (if a1_1 < (l0.length : Int) then (if a1_0 = 0 then (if a1_1 = 0 then (some (a1_2 == 0)) else (some false)) else (if a1_0 = 1 then (piece_Stands.j1 kj2 (((rd_T41 l0 a1_1).f0).length : Int) (a1_1 == (wrap64 ((l0.length : Int) - 1))) a1_0 (a1_0 == 1) a1_0 a1_1 a1_2) else (piece_Stands.j1 kj2 (((rd_T41 l0 a1_1).f0).length : Int) (a1_1 == (wrap64 ((l0.length : Int) - 1))) a1_0 (a1_0 == 5) a1_0 a1_1 a1_2))) else (none)) else (none)) = some r := by rw [if_neg (show ¬ (false = true) by decide)] at H; exact H
    clear H
    have H := H1
    clear H1
    by_cases c14 : 0 ≤ a1_1
    ·rw [if_pos c14] at H
     have c14b0 : decide (0 ≤ a1_1) = true := decide_eq_true c14
     clear c14
     by_cases c15 : a1_1 < (l0.length : Int)
     ·rw [if_pos c15] at H
      have c15b0 : decide (a1_1 < (l0.length : Int)) = true := decide_eq_true c15
      clear c15
      by_cases c16 : a1_0 = 0
      ·rw [if_pos c16] at H
       have c16b0 : (a1_0 == 0) = true := beq_iff_eq.mpr c16
       have c16b1 : (a1_0 != 0) = false := bne_eq_false_iff_eq.mpr c16
       clear c16
       by_cases c17 : a1_1 = 0
       ·rw [if_pos c17] at H
        have c17b0 : (a1_1 == 0) = true := beq_iff_eq.mpr c17
        have c17b1 : (a1_1 != 0) = false := bne_eq_false_iff_eq.mpr c17
        clear c17
        obtain rfl := Option.some.inj H
        have hcz18_0 : wc.cell? ⟨gb107, 0, none⟩ = some (.int .i64 a1_0) := (blk_cell BK107.out 0).trans rfl
        have hcz18_1 : wc.cell? ⟨gb107, 1, none⟩ = some (.int .i64 a1_1) := (blk_cell BK107.out 1).trans rfl
        have hcz18_2 : wc.cell? ⟨gb107, 2, none⟩ = some (.int .i64 a1_2) := (blk_cell BK107.out 2).trans rfl
        have hfz18_0 := blk_frozen BK107.out 0
        have hfz18_1 := blk_frozen BK107.out 1
        have hfz18_2 := blk_frozen BK107.out 2
        have p109 : 0 ≤ (a1_1 : Int) := odt
        have q109 : a1_1 < (l0.length : Int) := odt
        obtain ⟨ad109, A109_0, c109_0, A109_1, c109_1, e109, hx109_0, hx109_1, hl109_0, hi109_0, hl109_1, hi109_1⟩ := at_T41 HR0.out a1_1 p109 q109
        cases e109
        replace hx109_0 := (HB.out.cell (World.block_lt_of_cell? w _ hx109_0)).trans hx109_0
        replace hx109_1 := (HB.out.cell (World.block_lt_of_cell? w _ hx109_1)).trans hx109_1
        have HR109_0 := Aside0.mk hi109_0
        have HC109_0 := Aside0.mk hl109_0
        clear hi109_0 hl109_0
        have HR109_1 := Aside0.mk hi109_1
        have HC109_1 := Aside0.mk hl109_1
        clear hi109_1 hl109_1
        replace p109 := eq_true p109
        replace q109 := eq_true q109
        go_wp2
        repeat (go_quiet (fail); try go_wp2)
        go_ret
        exact ⟨by first | rfl | (simp [errW_none, errW_some] <;> rfl) | (simp [*, errW_none, errW_some] <;> rfl), by repeat (first | (with_reducible first | exact HB.out | apply below_alloc | apply pw_below_drewN | apply below_drew1 | refine below_set ?_ GE107.out) | exact HB.out)⟩
       ·rw [if_neg c17] at H
        have c17b0 : (a1_1 == 0) = false := beq_eq_false_iff_ne.mpr c17
        have c17b1 : (a1_1 != 0) = true := bne_iff_ne.mpr c17
        obtain rfl := Option.some.inj H
        have hcz19_0 : wc.cell? ⟨gb107, 0, none⟩ = some (.int .i64 a1_0) := (blk_cell BK107.out 0).trans rfl
        have hcz19_1 : wc.cell? ⟨gb107, 1, none⟩ = some (.int .i64 a1_1) := (blk_cell BK107.out 1).trans rfl
        have hcz19_2 : wc.cell? ⟨gb107, 2, none⟩ = some (.int .i64 a1_2) := (blk_cell BK107.out 2).trans rfl
        have hfz19_0 := blk_frozen BK107.out 0
        have hfz19_1 := blk_frozen BK107.out 1
        have hfz19_2 := blk_frozen BK107.out 2
        have p109 : 0 ≤ (a1_1 : Int) := odt
        have q109 : a1_1 < (l0.length : Int) := odt
        obtain ⟨ad109, A109_0, c109_0, A109_1, c109_1, e109, hx109_0, hx109_1, hl109_0, hi109_0, hl109_1, hi109_1⟩ := at_T41 HR0.out a1_1 p109 q109
        cases e109
        replace hx109_0 := (HB.out.cell (World.block_lt_of_cell? w _ hx109_0)).trans hx109_0
        replace hx109_1 := (HB.out.cell (World.block_lt_of_cell? w _ hx109_1)).trans hx109_1
        have HR109_0 := Aside0.mk hi109_0
        have HC109_0 := Aside0.mk hl109_0
        clear hi109_0 hl109_0
        have HR109_1 := Aside0.mk hi109_1
        have HC109_1 := Aside0.mk hl109_1
        clear hi109_1 hl109_1
        replace p109 := eq_true p109
        replace q109 := eq_true q109
        go_wp2
        repeat (go_quiet (fail); try go_wp2)
        go_ret
        exact ⟨by first | rfl | (simp [errW_none, errW_some] <;> rfl) | (simp [*, errW_none, errW_some] <;> rfl), by repeat (first | (with_reducible first | exact HB.out | apply below_alloc | apply pw_below_drewN | apply below_drew1 | refine below_set ?_ GE107.out) | exact HB.out)⟩
      ·rw [if_neg c16] at H
       have c16b0 : (a1_0 == 0) = false := beq_eq_false_iff_ne.mpr c16
       have c16b1 : (a1_0 != 0) = true := bne_iff_ne.mpr c16
       have HC20 := Aside0.mk H
       clear H
       have hcz21_0 : wc.cell? ⟨gb107, 0, none⟩ = some (.int .i64 a1_0) := (blk_cell BK107.out 0).trans rfl
       have hcz21_1 : wc.cell? ⟨gb107, 1, none⟩ = some (.int .i64 a1_1) := (blk_cell BK107.out 1).trans rfl
       have hcz21_2 : wc.cell? ⟨gb107, 2, none⟩ = some (.int .i64 a1_2) := (blk_cell BK107.out 2).trans rfl
       have hfz21_0 := blk_frozen BK107.out 0
       have hfz21_1 := blk_frozen BK107.out 1
       have hfz21_2 := blk_frozen BK107.out 2
       have p109 : 0 ≤ (a1_1 : Int) := odt
       have q109 : a1_1 < (l0.length : Int) := odt
       obtain ⟨ad109, A109_0, c109_0, A109_1, c109_1, e109, hx109_0, hx109_1, hl109_0, hi109_0, hl109_1, hi109_1⟩ := at_T41 HR0.out a1_1 p109 q109
       cases e109
       replace hx109_0 := (HB.out.cell (World.block_lt_of_cell? w _ hx109_0)).trans hx109_0
       replace hx109_1 := (HB.out.cell (World.block_lt_of_cell? w _ hx109_1)).trans hx109_1
       have HR109_0 := Aside0.mk hi109_0
       have HC109_0 := Aside0.mk hl109_0
       clear hi109_0 hl109_0
       have HR109_1 := Aside0.mk hi109_1
       have HC109_1 := Aside0.mk hl109_1
       clear hi109_1 hl109_1
       replace p109 := eq_true p109
       replace q109 := eq_true q109
       go_upto_if 47 with (fail)
       repeat (go_quiet (fail); go_upto_if 47 with (fail))
       go_cut [47] (fun v47 wc => ∃ (kq : Nat) (x47_19 : Bool), v47 = .bool x47_19 ∧ Aside0 (piece_Stands.j1 kq (((rd_T41 l0 a1_1).f0).length : Int) (a1_1 == (wrap64 ((l0.length : Int) - 1))) a1_0 x47_19 a1_0 a1_1 a1_2 = some r) ∧ Aside0 (kq ≤ kj2) ∧ Aside0 (wc.heap[gb107]? = some (.cells #[.int .i64 a1_0, .int .i64 a1_1, .int .i64 a1_2] 24 (0, 0))) ∧ Aside0 (Below w.heap.size w wc))
       case first =>
        have H := HC20.out
        clear HC20
        by_cases c22 : a1_0 = 1
        ·rw [if_pos c22] at H
         have c22b0 : (a1_0 == 1) = true := beq_iff_eq.mpr c22
         have c22b1 : (a1_0 != 1) = false := bne_eq_false_iff_eq.mpr c22
         clear c22
         (first | rw [c22b0] | (simp only [i64_w, i32_w]; rw [c22b0]) | skip)
         have H' := Aside0.mk H
         clear H
         go_wp2
         repeat (go_quiet (fail); try go_wp2)
         go_meet
         case rel => exact ⟨_, ((a1_0 == 1)), (by first | rfl | (simp; done) | (simp [*]; done)), H', ⟨by have := HJ2.out; first | omega | exact Nat.le_refl _⟩, ⟨by (with_reducible repeat (first | refine blk_drewN ?_ _ | refine blk_drew ?_ | refine blk_alloc ?_ _)); exact BK107.out⟩, ⟨by repeat (first | (with_reducible first | exact HB.out | apply below_alloc | apply pw_below_drewN | apply below_drew1 | refine below_set ?_ GE107.out) | exact HB.out)⟩⟩
        ·rw [if_neg c22] at H
         have c22b0 : (a1_0 == 1) = false := beq_eq_false_iff_ne.mpr c22
         have c22b1 : (a1_0 != 1) = true := bne_iff_ne.mpr c22
         (first | rw [c22b0] | (simp only [i64_w, i32_w]; rw [c22b0]) | skip)
         have H' := Aside0.mk H
         clear H
         go_wp2
         repeat (go_quiet (fail); try go_wp2)
         go_meet
         case rel => exact ⟨_, ((a1_0 == 5)), (by first | rfl | (simp; done) | (simp [*]; done)), H', ⟨by have := HJ2.out; first | omega | exact Nat.le_refl _⟩, ⟨by (with_reducible repeat (first | refine blk_drewN ?_ _ | refine blk_drew ?_ | refine blk_alloc ?_ _)); exact BK107.out⟩, ⟨by repeat (first | (with_reducible first | exact HB.out | apply below_alloc | apply pw_below_drewN | apply below_drew1 | refine below_set ?_ GE107.out) | exact HB.out)⟩⟩
       case rest =>
        clear HC20
        try clear c1
        try clear p1
        try clear q1
        try clear hx1
        try clear c2
        try clear p2
        try clear c6
        try clear p6
        try clear c7
        try clear c7b0
        try clear c10
        try clear p10
        try clear q10
        try clear hx10
        try clear c13
        try clear c14
        try clear c14b0
        try clear c15
        try clear c15b0
        try clear c16
        try clear c16b0
        try clear c16b1
        try clear c17
        try clear c17b0
        try clear c17b1
        try clear c22
        try clear c22b0
        try clear c22b1
        try clear hcz11_0
        try clear hcz11_1
        try clear hcz11_2
        try clear hcz18_0
        try clear hcz18_1
        try clear hcz18_2
        try clear hcz19_0
        try clear hcz19_1
        try clear hcz19_2
        try clear hcz21_0
        try clear hcz21_1
        try clear hcz21_2
        try clear hcz9_0
        try clear hcz9_1
        try clear hcz9_2
        try clear hfz11_0
        try clear hfz11_1
        try clear hfz11_2
        try clear hfz18_0
        try clear hfz18_1
        try clear hfz18_2
        try clear hfz19_0
        try clear hfz19_1
        try clear hfz19_2
        try clear hfz21_0
        try clear hfz21_1
        try clear hfz21_2
        try clear hfz9_0
        try clear hfz9_1
        try clear hfz9_2
        try clear hx109_0
        try clear hx109_1
        try clear p109
        try clear p2
        try clear q109
        obtain ⟨kq, x47_19, rfl, HA, HJ19, BK107, HB⟩ := hcut
        cases kq with
        | zero => exact absurd HA.out (by simp [piece_Stands.j1])
        | succ kj19 =>
         have H := HA.out
         clear HA
         simp only [piece_Stands.j1] at H
         by_cases c23 : x47_19 = true
         ·subst c23
          have H1 : (if a1_2 = (((rd_T41 l0 a1_1).f0).length : Int) then (some ((a1_1 == (wrap64 ((l0.length : Int) - 1))) == (a1_0 == 5))) else (some false)) = some r := by rw [if_pos rfl] at H; exact H
          clear H
          have H := H1
          clear H1
          by_cases c24 : a1_2 = (((rd_T41 l0 a1_1).f0).length : Int)
          ·rw [if_pos c24] at H
           have c24b0 : (a1_2 == (((rd_T41 l0 a1_1).f0).length : Int)) = true := beq_iff_eq.mpr c24
           have c24b1 : (a1_2 != (((rd_T41 l0 a1_1).f0).length : Int)) = false := bne_eq_false_iff_eq.mpr c24
           clear c24
           obtain rfl := Option.some.inj H
           have hcz25_0 : wc.cell? ⟨gb107, 0, none⟩ = some (.int .i64 a1_0) := (blk_cell BK107.out 0).trans rfl
           have hcz25_1 : wc.cell? ⟨gb107, 1, none⟩ = some (.int .i64 a1_1) := (blk_cell BK107.out 1).trans rfl
           have hcz25_2 : wc.cell? ⟨gb107, 2, none⟩ = some (.int .i64 a1_2) := (blk_cell BK107.out 2).trans rfl
           have hfz25_0 := blk_frozen BK107.out 0
           have hfz25_1 := blk_frozen BK107.out 1
           have hfz25_2 := blk_frozen BK107.out 2
           go_wp2
           repeat (go_quiet (fail); try go_wp2)
           go_ret
           exact ⟨by first | rfl | (simp [errW_none, errW_some] <;> rfl) | (simp [*, errW_none, errW_some] <;> rfl), by repeat (first | (with_reducible first | exact HB.out | apply below_alloc | apply pw_below_drewN | apply below_drew1 | refine below_set ?_ GE107.out) | exact HB.out)⟩
          ·rw [if_neg c24] at H
           have c24b0 : (a1_2 == (((rd_T41 l0 a1_1).f0).length : Int)) = false := beq_eq_false_iff_ne.mpr c24
           have c24b1 : (a1_2 != (((rd_T41 l0 a1_1).f0).length : Int)) = true := bne_iff_ne.mpr c24
           obtain rfl := Option.some.inj H
           have hcz26_0 : wc.cell? ⟨gb107, 0, none⟩ = some (.int .i64 a1_0) := (blk_cell BK107.out 0).trans rfl
           have hcz26_1 : wc.cell? ⟨gb107, 1, none⟩ = some (.int .i64 a1_1) := (blk_cell BK107.out 1).trans rfl
           have hcz26_2 : wc.cell? ⟨gb107, 2, none⟩ = some (.int .i64 a1_2) := (blk_cell BK107.out 2).trans rfl
           have hfz26_0 := blk_frozen BK107.out 0
           have hfz26_1 := blk_frozen BK107.out 1
           have hfz26_2 := blk_frozen BK107.out 2
           go_wp2
           repeat (go_quiet (fail); try go_wp2)
           go_ret
           exact ⟨by first | rfl | (simp [errW_none, errW_some] <;> rfl) | (simp [*, errW_none, errW_some] <;> rfl), by repeat (first | (with_reducible first | exact HB.out | apply below_alloc | apply pw_below_drewN | apply below_drew1 | refine below_set ?_ GE107.out) | exact HB.out)⟩
         ·replace c23 := Bool.eq_false_iff.mpr c23
          subst c23
          have H1 : (if a1_0 = 2 then (if a1_2 > 0 then (some (decide (a1_2 < (((rd_T41 l0 a1_1).f0).length : Int)))) else (some false)) else (if a1_0 = 3 then (if a1_2 > 0 then (some (decide (a1_2 < (((rd_T41 l0 a1_1).f0).length : Int)))) else (some false)) else (if a1_0 = 4 then (if a1_2 > 0 then (some (decide (a1_2 < (((rd_T41 l0 a1_1).f0).length : Int)))) else (some false)) else (some false)))) = some r := by rw [if_neg (show ¬ (false = true) by decide)] at H; exact H
          clear H
          have H := H1
          clear H1
          by_cases c27 : a1_0 = 2
          ·rw [if_pos c27] at H
           have c27b0 : (a1_0 == 2) = true := beq_iff_eq.mpr c27
           have c27b1 : (a1_0 != 2) = false := bne_eq_false_iff_eq.mpr c27
           clear c27
           by_cases c28 : a1_2 > 0
           ·rw [if_pos c28] at H
            have c28b0 : decide (0 < a1_2) = true := decide_eq_true c28
            clear c28
            obtain rfl := Option.some.inj H
            have hcz29_0 : wc.cell? ⟨gb107, 0, none⟩ = some (.int .i64 a1_0) := (blk_cell BK107.out 0).trans rfl
            have hcz29_1 : wc.cell? ⟨gb107, 1, none⟩ = some (.int .i64 a1_1) := (blk_cell BK107.out 1).trans rfl
            have hcz29_2 : wc.cell? ⟨gb107, 2, none⟩ = some (.int .i64 a1_2) := (blk_cell BK107.out 2).trans rfl
            have hfz29_0 := blk_frozen BK107.out 0
            have hfz29_1 := blk_frozen BK107.out 1
            have hfz29_2 := blk_frozen BK107.out 2
            go_wp2
            repeat (go_quiet (fail); try go_wp2)
            go_ret
            exact ⟨by first | rfl | (simp [errW_none, errW_some] <;> rfl) | (simp [*, errW_none, errW_some] <;> rfl), by repeat (first | (with_reducible first | exact HB.out | apply below_alloc | apply pw_below_drewN | apply below_drew1 | refine below_set ?_ GE107.out) | exact HB.out)⟩
           ·rw [if_neg c28] at H
            have c28b0 : decide (0 < a1_2) = false := decide_eq_false c28
            clear c28
            obtain rfl := Option.some.inj H
            have hcz30_0 : wc.cell? ⟨gb107, 0, none⟩ = some (.int .i64 a1_0) := (blk_cell BK107.out 0).trans rfl
            have hcz30_1 : wc.cell? ⟨gb107, 1, none⟩ = some (.int .i64 a1_1) := (blk_cell BK107.out 1).trans rfl
            have hcz30_2 : wc.cell? ⟨gb107, 2, none⟩ = some (.int .i64 a1_2) := (blk_cell BK107.out 2).trans rfl
            have hfz30_0 := blk_frozen BK107.out 0
            have hfz30_1 := blk_frozen BK107.out 1
            have hfz30_2 := blk_frozen BK107.out 2
            go_wp2
            repeat (go_quiet (fail); try go_wp2)
            go_ret
            exact ⟨by first | rfl | (simp [errW_none, errW_some] <;> rfl) | (simp [*, errW_none, errW_some] <;> rfl), by repeat (first | (with_reducible first | exact HB.out | apply below_alloc | apply pw_below_drewN | apply below_drew1 | refine below_set ?_ GE107.out) | exact HB.out)⟩
          ·rw [if_neg c27] at H
           have c27b0 : (a1_0 == 2) = false := beq_eq_false_iff_ne.mpr c27
           have c27b1 : (a1_0 != 2) = true := bne_iff_ne.mpr c27
           by_cases c31 : a1_0 = 3
           ·rw [if_pos c31] at H
            have c31b0 : (a1_0 == 3) = true := beq_iff_eq.mpr c31
            have c31b1 : (a1_0 != 3) = false := bne_eq_false_iff_eq.mpr c31
            clear c31
            by_cases c32 : a1_2 > 0
            ·rw [if_pos c32] at H
             have c32b0 : decide (0 < a1_2) = true := decide_eq_true c32
             clear c32
             obtain rfl := Option.some.inj H
             have hcz33_0 : wc.cell? ⟨gb107, 0, none⟩ = some (.int .i64 a1_0) := (blk_cell BK107.out 0).trans rfl
             have hcz33_1 : wc.cell? ⟨gb107, 1, none⟩ = some (.int .i64 a1_1) := (blk_cell BK107.out 1).trans rfl
             have hcz33_2 : wc.cell? ⟨gb107, 2, none⟩ = some (.int .i64 a1_2) := (blk_cell BK107.out 2).trans rfl
             have hfz33_0 := blk_frozen BK107.out 0
             have hfz33_1 := blk_frozen BK107.out 1
             have hfz33_2 := blk_frozen BK107.out 2
             go_wp2
             repeat (go_quiet (fail); try go_wp2)
             go_ret
             exact ⟨by first | rfl | (simp [errW_none, errW_some] <;> rfl) | (simp [*, errW_none, errW_some] <;> rfl), by repeat (first | (with_reducible first | exact HB.out | apply below_alloc | apply pw_below_drewN | apply below_drew1 | refine below_set ?_ GE107.out) | exact HB.out)⟩
            ·rw [if_neg c32] at H
             have c32b0 : decide (0 < a1_2) = false := decide_eq_false c32
             clear c32
             obtain rfl := Option.some.inj H
             have hcz34_0 : wc.cell? ⟨gb107, 0, none⟩ = some (.int .i64 a1_0) := (blk_cell BK107.out 0).trans rfl
             have hcz34_1 : wc.cell? ⟨gb107, 1, none⟩ = some (.int .i64 a1_1) := (blk_cell BK107.out 1).trans rfl
             have hcz34_2 : wc.cell? ⟨gb107, 2, none⟩ = some (.int .i64 a1_2) := (blk_cell BK107.out 2).trans rfl
             have hfz34_0 := blk_frozen BK107.out 0
             have hfz34_1 := blk_frozen BK107.out 1
             have hfz34_2 := blk_frozen BK107.out 2
             go_wp2
             repeat (go_quiet (fail); try go_wp2)
             go_ret
             exact ⟨by first | rfl | (simp [errW_none, errW_some] <;> rfl) | (simp [*, errW_none, errW_some] <;> rfl), by repeat (first | (with_reducible first | exact HB.out | apply below_alloc | apply pw_below_drewN | apply below_drew1 | refine below_set ?_ GE107.out) | exact HB.out)⟩
           ·rw [if_neg c31] at H
            have c31b0 : (a1_0 == 3) = false := beq_eq_false_iff_ne.mpr c31
            have c31b1 : (a1_0 != 3) = true := bne_iff_ne.mpr c31
            by_cases c35 : a1_0 = 4
            ·rw [if_pos c35] at H
             have c35b0 : (a1_0 == 4) = true := beq_iff_eq.mpr c35
             have c35b1 : (a1_0 != 4) = false := bne_eq_false_iff_eq.mpr c35
             clear c35
             by_cases c36 : a1_2 > 0
             ·rw [if_pos c36] at H
              have c36b0 : decide (0 < a1_2) = true := decide_eq_true c36
              clear c36
              obtain rfl := Option.some.inj H
              have hcz37_0 : wc.cell? ⟨gb107, 0, none⟩ = some (.int .i64 a1_0) := (blk_cell BK107.out 0).trans rfl
              have hcz37_1 : wc.cell? ⟨gb107, 1, none⟩ = some (.int .i64 a1_1) := (blk_cell BK107.out 1).trans rfl
              have hcz37_2 : wc.cell? ⟨gb107, 2, none⟩ = some (.int .i64 a1_2) := (blk_cell BK107.out 2).trans rfl
              have hfz37_0 := blk_frozen BK107.out 0
              have hfz37_1 := blk_frozen BK107.out 1
              have hfz37_2 := blk_frozen BK107.out 2
              go_wp2
              repeat (go_quiet (fail); try go_wp2)
              go_ret
              exact ⟨by first | rfl | (simp [errW_none, errW_some] <;> rfl) | (simp [*, errW_none, errW_some] <;> rfl), by repeat (first | (with_reducible first | exact HB.out | apply below_alloc | apply pw_below_drewN | apply below_drew1 | refine below_set ?_ GE107.out) | exact HB.out)⟩
             ·rw [if_neg c36] at H
              have c36b0 : decide (0 < a1_2) = false := decide_eq_false c36
              clear c36
              obtain rfl := Option.some.inj H
              have hcz38_0 : wc.cell? ⟨gb107, 0, none⟩ = some (.int .i64 a1_0) := (blk_cell BK107.out 0).trans rfl
              have hcz38_1 : wc.cell? ⟨gb107, 1, none⟩ = some (.int .i64 a1_1) := (blk_cell BK107.out 1).trans rfl
              have hcz38_2 : wc.cell? ⟨gb107, 2, none⟩ = some (.int .i64 a1_2) := (blk_cell BK107.out 2).trans rfl
              have hfz38_0 := blk_frozen BK107.out 0
              have hfz38_1 := blk_frozen BK107.out 1
              have hfz38_2 := blk_frozen BK107.out 2
              go_wp2
              repeat (go_quiet (fail); try go_wp2)
              go_ret
              exact ⟨by first | rfl | (simp [errW_none, errW_some] <;> rfl) | (simp [*, errW_none, errW_some] <;> rfl), by repeat (first | (with_reducible first | exact HB.out | apply below_alloc | apply pw_below_drewN | apply below_drew1 | refine below_set ?_ GE107.out) | exact HB.out)⟩
            ·rw [if_neg c35] at H
             have c35b0 : (a1_0 == 4) = false := beq_eq_false_iff_ne.mpr c35
             have c35b1 : (a1_0 != 4) = true := bne_iff_ne.mpr c35
             obtain rfl := Option.some.inj H
             go_wp2
             repeat (go_quiet (fail); try go_wp2)
             go_ret
             exact ⟨by first | rfl | (simp [errW_none, errW_some] <;> rfl) | (simp [*, errW_none, errW_some] <;> rfl), by repeat (first | (with_reducible first | exact HB.out | apply below_alloc | apply pw_below_drewN | apply below_drew1 | refine below_set ?_ GE107.out) | exact HB.out)⟩
     ·rw [if_neg c15] at H
      exact absurd H (by simp)
    ·rw [if_neg c14] at H
     exact absurd H (by simp)

end Go.Proofs.Ytepllkdlnajbjaa.G
