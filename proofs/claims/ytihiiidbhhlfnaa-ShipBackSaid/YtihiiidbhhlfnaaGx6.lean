/- Contracts of the functions of this seat: what each call computes, as a plain Lean function. Made by this session's own generator. -/
import Derived.Test.YtihiiidbhhlfnaaGx0
namespace Go.Proofs.Ytihiiidbhhlfnaa.G
open Go.RowKit Go.Proofs.YtihiiidbhhlfnaaMy Go.Proofs.YtihiiidbhhlfnaaW.PrintWords Go.Proofs.YtihiiidbhhlfnaaW.PrintLast Go.Proofs.YtihiiidbhhlfnaaW.PrintMore
attribute [local go_sem] max2_int min2_int max_two min_two max_three min_three max_four min_four   -- for this text's walks alone
set_option linter.unusedVariables false
set_option linter.unusedSimpArgs false

/-! ### ship_Report: function 11 -/
def ship_Report.l0 : Nat → List Int → List Int → List (S41) → Int → Int → Option (List Int × List Int)
 | 0, _, _, _, _, _ => none
 | k + 1, x2, x3, x6, x7, x8 => if x8 < x7 then (if 0 ≤ x8 then (if x8 < (x6.length : Int) then (if ((rd_T41 x6 x8).f3) < 0 then (if x2.length < 17592186044416 then (ship_Report.l0 k (x2 ++ [wrap64 (x8 + 1)]) x3 x6 x7 (wrap64 (x8 + 1))) else (none)) else (if ((rd_T41 x6 x8).f3) > 0 then (if x3.length < 17592186044416 then (ship_Report.l0 k x2 (x3 ++ [wrap64 (x8 + 1)]) x6 x7 (wrap64 (x8 + 1))) else (none)) else (ship_Report.l0 k x2 x3 x6 x7 (wrap64 (x8 + 1))))) else (none)) else (none)) else (some (x2, x3))
def ship_Report.f (k : Nat) (l0 : List (S41)) : Option (List Int × List Int) := ship_Report.l0 k ([] : List Int) ([] : List Int) l0 (l0.length : Int) 0
theorem ship_Report.mono_l : ∀ k, (∀ y0 y1 y2 y3 y4, LeO (ship_Report.l0 k y0 y1 y2 y3 y4) (ship_Report.l0 (k + 1) y0 y1 y2 y3 y4))
 | 0 => fun _ _ _ _ _ r h => by simp [ship_Report.l0] at h
 | k + 1 => by
  have ih0 := ship_Report.mono_l k
  ·intro y0 y1 y2 y3 y4
   unfold ship_Report.l0
   repeat' first
   | (with_reducible exact ih0 _ _ _ _ _)
   | (with_reducible exact LeO.refl _)
   | (with_reducible exact LeO.none _)
   | (with_reducible refine LeO.ite ?_ ?_)
   | (with_reducible refine LeO.bind ?_ (fun _ => ?_))
   | exact ih0 _ _ _ _ _
   | exact LeO.none _
   | refine LeO.ite ?_ ?_
   | refine LeO.bind ?_ (fun _ => ?_)
theorem ship_Report.mono : ∀ a0 k, LeO (ship_Report.f k a0) (ship_Report.f (k + 1) a0) := by
 intro a0 k
 have ih0 := ship_Report.mono_l k
 unfold ship_Report.f
 repeat' first
   | (with_reducible exact ih0 _ _ _ _ _)
   | (with_reducible exact LeO.refl _)
   | (with_reducible exact LeO.none _)
   | (with_reducible refine LeO.ite ?_ ?_)
   | (with_reducible refine LeO.bind ?_ (fun _ => ?_))
   | exact ih0 _ _ _ _ _
   | exact LeO.none _
   | refine LeO.ite ?_ ?_
   | refine LeO.bind ?_ (fun _ => ?_)
set_option maxHeartbeats 8000000 in
set_option maxRecDepth 100000 in
theorem ship_Report.calls (k : Nat) (A0 : Option Addr) (c0 : Nat) (l0 : List (S41)) (r1 : List Int) (r2 : List Int) (w : World) (hr0 : Kd.C k41 w A0 l0.length l0) (hc0 : l0.length ≤ c0) (h : ship_Report.f k l0 = some (r1, r2)) :
  Calls Try.prog 11 #[.slice A0 l0.length c0] w fun e w' => ∃ v0_ v1_ : Value, e = .returned (.tuple #[v0_, v1_]) ∧ Kd.R (Kd.int .i64) 3 w' w.heap.size (fun k_ => some k_ ≠ (v1_ : Value).ownBlock) v0_ r1 ∧ Kd.R (Kd.int .i64) 3 w' w.heap.size (fun k_ => some k_ ≠ (v0_ : Value).ownBlock) v1_ r2 ∧ Below w.heap.size w w' := by
 have hu41 := Try.underlying41
 have HR0 := Aside0.mk hr0
 have HC0 := Aside0.mk hc0
 clear hr0 hc0
 have HB := Aside0.mk (Below.refl w.heap.size w)
 have H : (ship_Report.l0 k ([] : List Int) ([] : List Int) l0 (l0.length : Int) 0) = some (r1, r2) := h
 clear h
 have H' := Aside0.mk H
 clear H
 go_enter Try.func11, Try.ntmps11
 go_wp2
 go_loopg [2, 3, 8] k (fun kq v2 v3 v8 w' => ∃ (x2_1 : List Int) (x3_1 : List Int) (x8_1 : Int), v8 = .int .i64 x8_1 ∧ Aside0 (ship_Report.l0 kq x2_1 x3_1 l0 (l0.length : Int) x8_1 = some (r1, r2)) ∧ Aside0 (kq ≤ k) ∧ Aside0 (Kd.R (Kd.int .i64) 3 w' w.heap.size (fun k_ => some k_ ≠ (v3 : Value).ownBlock) v2 x2_1) ∧ Aside0 (Kd.R (Kd.int .i64) 3 w' w.heap.size (fun k_ => some k_ ≠ (v2 : Value).ownBlock) v3 x3_1) ∧ Aside0 (Below w.heap.size w w'))
 case atStart => exact ⟨(([] : List Int)), (([] : List Int)), (0), (by first | rfl | (simp; done) | (simp [*]; done)), H', ⟨Nat.le_refl _⟩, ⟨by first | exact Kd.R_nil _ _ _ _ _ | exact Kd.N_nil _ _ _ _ _ | exact Kd.V_nil _ _ _ _ _ | exact Kd.Q_nil _ _ _ _ _ | exact Kd.S_nil _ _ _ _ _⟩, ⟨by first | exact Kd.R_nil _ _ _ _ _ | exact Kd.N_nil _ _ _ _ _ | exact Kd.V_nil _ _ _ _ _ | exact Kd.Q_nil _ _ _ _ _ | exact Kd.S_nil _ _ _ _ _⟩, ⟨by repeat (first | (with_reducible first | exact HB.out | apply below_alloc | apply pw_below_drewN | apply below_drew1) | exact HB.out)⟩⟩
 case round =>
  clear H'
  try clear c1
  obtain ⟨x2_1, x3_1, x8_1, rfl, HA, HK1, HO_2, HO_3, HB⟩ := hrel
  cases gk with
  | zero => exact absurd HA.out (by simp [ship_Report.l0])
  | succ k1 =>
   have H := HA.out
   clear HA
   simp only [ship_Report.l0] at H
   by_cases c2 : x8_1 < (l0.length : Int)
   ·rw [if_pos c2] at H
    have c2b0 : decide (x8_1 < (l0.length : Int)) = true := decide_eq_true c2
    clear c2
    by_cases c3 : 0 ≤ x8_1
    ·rw [if_pos c3] at H
     have c3b0 : decide (0 ≤ x8_1) = true := decide_eq_true c3
     clear c3
     by_cases c4 : x8_1 < (l0.length : Int)
     ·rw [if_pos c4] at H
      have c4b0 : decide (x8_1 < (l0.length : Int)) = true := decide_eq_true c4
      clear c4
      by_cases c5 : ((rd_T41 l0 x8_1).f3) < 0
      ·rw [if_pos c5] at H
       have c5b0 : decide (((rd_T41 l0 x8_1).f3) < 0) = true := decide_eq_true c5
       clear c5
       by_cases c6 : x2_1.length < 17592186044416
       ·rw [if_pos c6] at H
        have LMc6 := Aside0.mk c6
        clear c6
        obtain ⟨y119, hy119⟩ : ∃ y_ : List Int, y_ = (x2_1 ++ [wrap64 (x8_1 + 1)]) := ⟨_, rfl⟩
        replace H : (ship_Report.l0 k1 y119 x3_1 l0 (l0.length : Int) (wrap64 (x8_1 + 1))) = some (r1, r2) := by first | (rw [hy119]; with_reducible exact H) | (have H2_ := (Option.bind_some _ _).symm.trans H; rw [hy119]; with_reducible exact H2_) | (have H2_ := (Option.bind_some _ _).symm.trans H; with_reducible exact H2_) | with_reducible exact H | (rw [hy119]; exact H) | exact H
        have Ny119 := Aside0.mk hy119
        clear hy119
        have H' := Aside0.mk H
        clear H
        have p117 : 0 ≤ (x8_1 : Int) := odt
        have q117 : x8_1 < (l0.length : Int) := odt
        obtain ⟨ad117, A117_4, c117_4, e117, hx117_0, hx117_1, hx117_2, hx117_3, hx117_4, hl117_4, hi117_4⟩ := at_T41 HR0.out x8_1 p117 q117
        cases e117
        replace hx117_0 := (HB.out.cell (World.block_lt_of_cell? w _ hx117_0)).trans hx117_0
        replace hx117_1 := (HB.out.cell (World.block_lt_of_cell? w _ hx117_1)).trans hx117_1
        replace hx117_2 := (HB.out.cell (World.block_lt_of_cell? w _ hx117_2)).trans hx117_2
        replace hx117_3 := (HB.out.cell (World.block_lt_of_cell? w _ hx117_3)).trans hx117_3
        replace hx117_4 := (HB.out.cell (World.block_lt_of_cell? w _ hx117_4)).trans hx117_4
        have HR117_4 := Aside0.mk hi117_4
        have HC117_4 := Aside0.mk hl117_4
        clear hi117_4 hl117_4
        replace p117 := eq_true p117
        replace q117 := eq_true q117
        go_wp2_with (first | ((with_reducible refine gate_dst (N := 5) rfl ?_); refine box_event ?hg (N := 5) ?hd (cs := #[.int .i64 0, .int .i64 0, .int .i64 0, .int .i64 0, .slice none 0 0]) (t := 41) ?hr ?_; (case hd => rfl); (case hg => rfl); (case hr => first | (go_simp; done) | (go_simp; rfl)); intro gb118 hg w7 hbox hb; have n0_ := Aside0.mk (Kd.R_below (by (with_reducible repeat (first | apply Kd.R_alloc | apply Kd.R_drewN | apply Kd.R_drew)); exact HO_2.out) hb); have n1_ := Aside0.mk (Kd.R_below (by (with_reducible repeat (first | apply Kd.R_alloc | apply Kd.R_drewN | apply Kd.R_drew)); exact HO_3.out) hb); have n2_ := Aside0.mk (below_step (by repeat (first | (with_reducible first | exact HB.out | apply below_alloc | apply pw_below_drewN | apply below_drew1) | exact HB.out)) hb); have n3_ := Aside0.mk (hbox); have n4_ := Aside0.mk ((by rw [hg]; exact (below_size (by repeat (first | (with_reducible first | exact HB.out | apply below_alloc | apply pw_below_drewN | apply below_drew1) | exact HB.out))) : w.heap.size ≤ gb118)); have n5_ := Aside0.mk ((by rw [hg]; exact (below_size (by repeat (first | (with_reducible first | exact HB.out | apply below_alloc | apply pw_below_drewN | apply below_drew1) | exact HB.out))) : w.heap.size ≤ gb118)); clear HO_2; clear HO_3; clear HB; have HO_2 := n0_; have HO_3 := n1_; have HB := n2_; have BK118 := n3_; have GW118 := n4_; have GE118 := n5_; clear n0_ n1_ n2_ n3_ n4_ n5_; clear hb hbox hg; have hcz8_0 : w7.cell? ⟨gb118, 0, none⟩ = some (.int .i64 0) := (blk_cell BK118.out 0).trans rfl; have hcz8_1 : w7.cell? ⟨gb118, 1, none⟩ = some (.int .i64 0) := (blk_cell BK118.out 1).trans rfl; have hcz8_2 : w7.cell? ⟨gb118, 2, none⟩ = some (.int .i64 0) := (blk_cell BK118.out 2).trans rfl; have hcz8_3 : w7.cell? ⟨gb118, 3, none⟩ = some (.int .i64 0) := (blk_cell BK118.out 3).trans rfl; have hcz8_4 : w7.cell? ⟨gb118, 4, none⟩ = some (.slice none 0 0) := (blk_cell BK118.out 4).trans rfl; have hfz8_0 := blk_frozen BK118.out 0; have hfz8_1 := blk_frozen BK118.out 1; have hfz8_2 := blk_frozen BK118.out 2; have hfz8_3 := blk_frozen BK118.out 3; have hfz8_4 := blk_frozen BK118.out 4) | ((with_reducible refine gate_builtin (b := .append) (xs := #[.tmp 17, .tmp 20]) rfl ?_); at_builtin; refine Kd.R_append (Kd.int .i64) (w0 := w) w.heap.size rfl (.tmp 17) (.tmp 20) 29 3 (.int .i64 0) 8 rfl Try.underlying29 info3 rfl (by decide) (by omega) u2 x2_1 (wrap64 (x8_1 + 1)) [.int .i64 (wrap64 (x8_1 + 1))] (fun k_ => some k_ ≠ (u3 : Value).ownBlock) (fun _ => False) rfl (by first | (go_simp; done) | (go_simp; rfl)) ?aP (fun _ hk => hk.elim) ?aF ?aO ?aB ?aS ?aL ?_; (case aP => exact rfl); (case aB => exact (by repeat (first | (with_reducible first | exact HB.out | apply below_alloc | apply pw_below_drewN | apply below_drew1 | refine below_set ?_ GE118.out) | exact HB.out))); (case aF => exact (fun k_ hk => Kd.fresh' (Kd.R_lt (by (with_reducible repeat (first | apply Kd.R_alloc | apply Kd.R_drewN | apply Kd.R_drew)); exact (Kd.R_mono (Kd.R_far (p := ⟨gb118, 4, none⟩) (Kd.R_far (p := ⟨gb118, 3, none⟩) (Kd.R_far (p := ⟨gb118, 2, none⟩) (Kd.R_far (p := ⟨gb118, 1, none⟩) (Kd.R_far (p := ⟨gb118, 0, none⟩) (Kd.R_types HO_3.out BK118.out (by decide)) (fun _ hk => hk.2) (.int .i64 ((rd_T41 l0 x8_1).f0))) (fun _ hk => hk.2) (.int .i64 ((rd_T41 l0 x8_1).f1))) (fun _ hk => hk.2) (.int .i64 ((rd_T41 l0 x8_1).f2))) (fun _ hk => hk.2) (.int .i64 ((rd_T41 l0 x8_1).f3))) (fun _ hk => hk.2) (.slice A117_4 ((rd_T41 l0 x8_1).f4).length c117_4)) (fun _ h_ => h_.1)))) k_ hk)); (case aO => exact (by (with_reducible repeat (first | apply Kd.R_alloc | apply Kd.R_drewN | apply Kd.R_drew)); exact Kd.R_mono (Kd.R_far (p := ⟨gb118, 4, none⟩) (Kd.R_far (p := ⟨gb118, 3, none⟩) (Kd.R_far (p := ⟨gb118, 2, none⟩) (Kd.R_far (p := ⟨gb118, 1, none⟩) (Kd.R_far (p := ⟨gb118, 0, none⟩) (Kd.R_types HO_2.out BK118.out (by decide)) (fun _ hk => hk.2) (.int .i64 ((rd_T41 l0 x8_1).f0))) (fun _ hk => hk.2) (.int .i64 ((rd_T41 l0 x8_1).f1))) (fun _ hk => hk.2) (.int .i64 ((rd_T41 l0 x8_1).f2))) (fun _ hk => hk.2) (.int .i64 ((rd_T41 l0 x8_1).f3))) (fun _ hk => hk.2) (.slice A117_4 ((rd_T41 l0 x8_1).f4).length c117_4)) (fun _ hk => hk.1))); (case aS => exact (below_size (by repeat (first | (with_reducible first | exact HB.out | apply below_alloc | apply pw_below_drewN | apply below_drew1 | refine below_set ?_ GE118.out) | exact HB.out)))); (case aL => have := LMc6.out; omega); intro v120 w9 ho hb hg hat; rw [← Ny119.out] at ho; have n0_ := Aside0.mk (Kd.R_after (ok := (fun _ => True)) (by (with_reducible repeat (first | apply Kd.R_alloc | apply Kd.R_drewN | apply Kd.R_drew)); exact Kd.R_mono (Kd.R_far (p := ⟨gb118, 4, none⟩) (Kd.R_far (p := ⟨gb118, 3, none⟩) (Kd.R_far (p := ⟨gb118, 2, none⟩) (Kd.R_far (p := ⟨gb118, 1, none⟩) (Kd.R_far (p := ⟨gb118, 0, none⟩) (Kd.R_types HO_3.out BK118.out (by decide)) (fun _ hk => hk.2) (.int .i64 ((rd_T41 l0 x8_1).f0))) (fun _ hk => hk.2) (.int .i64 ((rd_T41 l0 x8_1).f1))) (fun _ hk => hk.2) (.int .i64 ((rd_T41 l0 x8_1).f2))) (fun _ hk => hk.2) (.int .i64 ((rd_T41 l0 x8_1).f3))) (fun _ hk => hk.2) (.slice A117_4 ((rd_T41 l0 x8_1).f4).length c117_4)) (fun _ hk => ⟨trivial, hk.1⟩)) hg hat); have n1_ := Aside0.mk (blk_grown (g := gb118) (o := .cells #[.int .i64 ((rd_T41 l0 x8_1).f0), .int .i64 ((rd_T41 l0 x8_1).f1), .int .i64 ((rd_T41 l0 x8_1).f2), .int .i64 ((rd_T41 l0 x8_1).f3), .slice A117_4 ((rd_T41 l0 x8_1).f4).length c117_4] 41 (0, 0)) (by (with_reducible repeat (first | refine blk_drewN ?_ _ | refine blk_drew ?_ | refine blk_alloc ?_ _)); refine blk_put (cs := #[.int .i64 ((rd_T41 l0 x8_1).f0), .int .i64 ((rd_T41 l0 x8_1).f1), .int .i64 ((rd_T41 l0 x8_1).f2), .int .i64 ((rd_T41 l0 x8_1).f3), .slice none 0 0]) ?_ 4 _ rfl; (with_reducible repeat (first | refine blk_drewN ?_ _ | refine blk_drew ?_ | refine blk_alloc ?_ _)); refine blk_put (cs := #[.int .i64 ((rd_T41 l0 x8_1).f0), .int .i64 ((rd_T41 l0 x8_1).f1), .int .i64 ((rd_T41 l0 x8_1).f2), .int .i64 0, .slice none 0 0]) ?_ 3 _ rfl; (with_reducible repeat (first | refine blk_drewN ?_ _ | refine blk_drew ?_ | refine blk_alloc ?_ _)); refine blk_put (cs := #[.int .i64 ((rd_T41 l0 x8_1).f0), .int .i64 ((rd_T41 l0 x8_1).f1), .int .i64 0, .int .i64 0, .slice none 0 0]) ?_ 2 _ rfl; (with_reducible repeat (first | refine blk_drewN ?_ _ | refine blk_drew ?_ | refine blk_alloc ?_ _)); refine blk_put (cs := #[.int .i64 ((rd_T41 l0 x8_1).f0), .int .i64 0, .int .i64 0, .int .i64 0, .slice none 0 0]) ?_ 1 _ rfl; (with_reducible repeat (first | refine blk_drewN ?_ _ | refine blk_drew ?_ | refine blk_alloc ?_ _)); refine blk_put (cs := #[.int .i64 0, .int .i64 0, .int .i64 0, .int .i64 0, .slice none 0 0]) ?_ 0 _ rfl; (with_reducible repeat (first | refine blk_drewN ?_ _ | refine blk_drew ?_ | refine blk_alloc ?_ _)); exact BK118.out) hg (Kd.R_ne HO_2.out BK118.out (by decide))); have n2_ := Aside0.mk (hb); have n3_ := Aside0.mk (ho); clear HO_3; clear BK118; clear HB; clear HO_2; have HO_3 := n0_; have BK118 := n1_; have HB := n2_; have HO121 := n3_; clear n0_ n1_ n2_ n3_; clear ho hb hg hat))
        go_roundg k1
        case measure => have := HK1.out; omega
        case rel => exact ⟨(y119), (x3_1), (wrap64 (x8_1 + 1)), (by first | rfl | (simp; done) | (simp [*]; done)), H', ⟨by have := HK1.out; omega⟩, ⟨by (with_reducible repeat (first | apply Kd.R_alloc | apply Kd.R_drewN | apply Kd.R_drew)); exact HO121.out⟩, ⟨by (with_reducible repeat (first | apply Kd.R_alloc | apply Kd.R_drewN | apply Kd.R_drew)); exact Kd.R_mono HO_3.out (fun _ hk => hk.2)⟩, ⟨by repeat (first | (with_reducible first | exact HB.out | apply below_alloc | apply pw_below_drewN | apply below_drew1 | refine below_set ?_ GE118.out) | exact HB.out)⟩⟩
       ·rw [if_neg c6] at H
        exact absurd H (by simp)
      ·rw [if_neg c5] at H
       have c5b0 : decide (((rd_T41 l0 x8_1).f3) < 0) = false := decide_eq_false c5
       clear c5
       by_cases c10 : ((rd_T41 l0 x8_1).f3) > 0
       ·rw [if_pos c10] at H
        have c10b0 : decide (0 < ((rd_T41 l0 x8_1).f3)) = true := decide_eq_true c10
        clear c10
        by_cases c11 : x3_1.length < 17592186044416
        ·rw [if_pos c11] at H
         have LMc11 := Aside0.mk c11
         clear c11
         obtain ⟨y122, hy122⟩ : ∃ y_ : List Int, y_ = (x3_1 ++ [wrap64 (x8_1 + 1)]) := ⟨_, rfl⟩
         replace H : (ship_Report.l0 k1 x2_1 y122 l0 (l0.length : Int) (wrap64 (x8_1 + 1))) = some (r1, r2) := by first | (rw [hy122]; with_reducible exact H) | (have H2_ := (Option.bind_some _ _).symm.trans H; rw [hy122]; with_reducible exact H2_) | (have H2_ := (Option.bind_some _ _).symm.trans H; with_reducible exact H2_) | with_reducible exact H | (rw [hy122]; exact H) | exact H
         have Ny122 := Aside0.mk hy122
         clear hy122
         have H' := Aside0.mk H
         clear H
         have p117 : 0 ≤ (x8_1 : Int) := odt
         have q117 : x8_1 < (l0.length : Int) := odt
         obtain ⟨ad117, A117_4, c117_4, e117, hx117_0, hx117_1, hx117_2, hx117_3, hx117_4, hl117_4, hi117_4⟩ := at_T41 HR0.out x8_1 p117 q117
         cases e117
         replace hx117_0 := (HB.out.cell (World.block_lt_of_cell? w _ hx117_0)).trans hx117_0
         replace hx117_1 := (HB.out.cell (World.block_lt_of_cell? w _ hx117_1)).trans hx117_1
         replace hx117_2 := (HB.out.cell (World.block_lt_of_cell? w _ hx117_2)).trans hx117_2
         replace hx117_3 := (HB.out.cell (World.block_lt_of_cell? w _ hx117_3)).trans hx117_3
         replace hx117_4 := (HB.out.cell (World.block_lt_of_cell? w _ hx117_4)).trans hx117_4
         have HR117_4 := Aside0.mk hi117_4
         have HC117_4 := Aside0.mk hl117_4
         clear hi117_4 hl117_4
         replace p117 := eq_true p117
         replace q117 := eq_true q117
         go_wp2_with (first | ((with_reducible refine gate_dst (N := 5) rfl ?_); refine box_event ?hg (N := 5) ?hd (cs := #[.int .i64 0, .int .i64 0, .int .i64 0, .int .i64 0, .slice none 0 0]) (t := 41) ?hr ?_; (case hd => rfl); (case hg => rfl); (case hr => first | (go_simp; done) | (go_simp; rfl)); intro gb118 hg w12 hbox hb; have n0_ := Aside0.mk (Kd.R_below (by (with_reducible repeat (first | apply Kd.R_alloc | apply Kd.R_drewN | apply Kd.R_drew)); exact HO_2.out) hb); have n1_ := Aside0.mk (Kd.R_below (by (with_reducible repeat (first | apply Kd.R_alloc | apply Kd.R_drewN | apply Kd.R_drew)); exact HO_3.out) hb); have n2_ := Aside0.mk (below_step (by repeat (first | (with_reducible first | exact HB.out | apply below_alloc | apply pw_below_drewN | apply below_drew1) | exact HB.out)) hb); have n3_ := Aside0.mk (hbox); have n4_ := Aside0.mk ((by rw [hg]; exact (below_size (by repeat (first | (with_reducible first | exact HB.out | apply below_alloc | apply pw_below_drewN | apply below_drew1) | exact HB.out))) : w.heap.size ≤ gb118)); have n5_ := Aside0.mk ((by rw [hg]; exact (below_size (by repeat (first | (with_reducible first | exact HB.out | apply below_alloc | apply pw_below_drewN | apply below_drew1) | exact HB.out))) : w.heap.size ≤ gb118)); clear HO_2; clear HO_3; clear HB; have HO_2 := n0_; have HO_3 := n1_; have HB := n2_; have BK118 := n3_; have GW118 := n4_; have GE118 := n5_; clear n0_ n1_ n2_ n3_ n4_ n5_; clear hb hbox hg; have hcz13_0 : w12.cell? ⟨gb118, 0, none⟩ = some (.int .i64 0) := (blk_cell BK118.out 0).trans rfl; have hcz13_1 : w12.cell? ⟨gb118, 1, none⟩ = some (.int .i64 0) := (blk_cell BK118.out 1).trans rfl; have hcz13_2 : w12.cell? ⟨gb118, 2, none⟩ = some (.int .i64 0) := (blk_cell BK118.out 2).trans rfl; have hcz13_3 : w12.cell? ⟨gb118, 3, none⟩ = some (.int .i64 0) := (blk_cell BK118.out 3).trans rfl; have hcz13_4 : w12.cell? ⟨gb118, 4, none⟩ = some (.slice none 0 0) := (blk_cell BK118.out 4).trans rfl; have hfz13_0 := blk_frozen BK118.out 0; have hfz13_1 := blk_frozen BK118.out 1; have hfz13_2 := blk_frozen BK118.out 2; have hfz13_3 := blk_frozen BK118.out 3; have hfz13_4 := blk_frozen BK118.out 4) | ((with_reducible refine gate_builtin (b := .append) (xs := #[.tmp 26, .tmp 29]) rfl ?_); at_builtin; refine Kd.R_append (Kd.int .i64) (w0 := w) w.heap.size rfl (.tmp 26) (.tmp 29) 29 3 (.int .i64 0) 8 rfl Try.underlying29 info3 rfl (by decide) (by omega) u3 x3_1 (wrap64 (x8_1 + 1)) [.int .i64 (wrap64 (x8_1 + 1))] (fun k_ => some k_ ≠ (u2 : Value).ownBlock) (fun _ => False) rfl (by first | (go_simp; done) | (go_simp; rfl)) ?aP (fun _ hk => hk.elim) ?aF ?aO ?aB ?aS ?aL ?_; (case aP => exact rfl); (case aB => exact (by repeat (first | (with_reducible first | exact HB.out | apply below_alloc | apply pw_below_drewN | apply below_drew1 | refine below_set ?_ GE118.out) | exact HB.out))); (case aF => exact (fun k_ hk => Kd.fresh' (Kd.R_lt (by (with_reducible repeat (first | apply Kd.R_alloc | apply Kd.R_drewN | apply Kd.R_drew)); exact (Kd.R_mono (Kd.R_far (p := ⟨gb118, 4, none⟩) (Kd.R_far (p := ⟨gb118, 3, none⟩) (Kd.R_far (p := ⟨gb118, 2, none⟩) (Kd.R_far (p := ⟨gb118, 1, none⟩) (Kd.R_far (p := ⟨gb118, 0, none⟩) (Kd.R_types HO_2.out BK118.out (by decide)) (fun _ hk => hk.2) (.int .i64 ((rd_T41 l0 x8_1).f0))) (fun _ hk => hk.2) (.int .i64 ((rd_T41 l0 x8_1).f1))) (fun _ hk => hk.2) (.int .i64 ((rd_T41 l0 x8_1).f2))) (fun _ hk => hk.2) (.int .i64 ((rd_T41 l0 x8_1).f3))) (fun _ hk => hk.2) (.slice A117_4 ((rd_T41 l0 x8_1).f4).length c117_4)) (fun _ h_ => h_.1)))) k_ hk)); (case aO => exact (by (with_reducible repeat (first | apply Kd.R_alloc | apply Kd.R_drewN | apply Kd.R_drew)); exact Kd.R_mono (Kd.R_far (p := ⟨gb118, 4, none⟩) (Kd.R_far (p := ⟨gb118, 3, none⟩) (Kd.R_far (p := ⟨gb118, 2, none⟩) (Kd.R_far (p := ⟨gb118, 1, none⟩) (Kd.R_far (p := ⟨gb118, 0, none⟩) (Kd.R_types HO_3.out BK118.out (by decide)) (fun _ hk => hk.2) (.int .i64 ((rd_T41 l0 x8_1).f0))) (fun _ hk => hk.2) (.int .i64 ((rd_T41 l0 x8_1).f1))) (fun _ hk => hk.2) (.int .i64 ((rd_T41 l0 x8_1).f2))) (fun _ hk => hk.2) (.int .i64 ((rd_T41 l0 x8_1).f3))) (fun _ hk => hk.2) (.slice A117_4 ((rd_T41 l0 x8_1).f4).length c117_4)) (fun _ hk => hk.1))); (case aS => exact (below_size (by repeat (first | (with_reducible first | exact HB.out | apply below_alloc | apply pw_below_drewN | apply below_drew1 | refine below_set ?_ GE118.out) | exact HB.out)))); (case aL => have := LMc11.out; omega); intro v123 w14 ho hb hg hat; rw [← Ny122.out] at ho; have n0_ := Aside0.mk (Kd.R_after (ok := (fun _ => True)) (by (with_reducible repeat (first | apply Kd.R_alloc | apply Kd.R_drewN | apply Kd.R_drew)); exact Kd.R_mono (Kd.R_far (p := ⟨gb118, 4, none⟩) (Kd.R_far (p := ⟨gb118, 3, none⟩) (Kd.R_far (p := ⟨gb118, 2, none⟩) (Kd.R_far (p := ⟨gb118, 1, none⟩) (Kd.R_far (p := ⟨gb118, 0, none⟩) (Kd.R_types HO_2.out BK118.out (by decide)) (fun _ hk => hk.2) (.int .i64 ((rd_T41 l0 x8_1).f0))) (fun _ hk => hk.2) (.int .i64 ((rd_T41 l0 x8_1).f1))) (fun _ hk => hk.2) (.int .i64 ((rd_T41 l0 x8_1).f2))) (fun _ hk => hk.2) (.int .i64 ((rd_T41 l0 x8_1).f3))) (fun _ hk => hk.2) (.slice A117_4 ((rd_T41 l0 x8_1).f4).length c117_4)) (fun _ hk => ⟨trivial, hk.1⟩)) hg hat); have n1_ := Aside0.mk (blk_grown (g := gb118) (o := .cells #[.int .i64 ((rd_T41 l0 x8_1).f0), .int .i64 ((rd_T41 l0 x8_1).f1), .int .i64 ((rd_T41 l0 x8_1).f2), .int .i64 ((rd_T41 l0 x8_1).f3), .slice A117_4 ((rd_T41 l0 x8_1).f4).length c117_4] 41 (0, 0)) (by (with_reducible repeat (first | refine blk_drewN ?_ _ | refine blk_drew ?_ | refine blk_alloc ?_ _)); refine blk_put (cs := #[.int .i64 ((rd_T41 l0 x8_1).f0), .int .i64 ((rd_T41 l0 x8_1).f1), .int .i64 ((rd_T41 l0 x8_1).f2), .int .i64 ((rd_T41 l0 x8_1).f3), .slice none 0 0]) ?_ 4 _ rfl; (with_reducible repeat (first | refine blk_drewN ?_ _ | refine blk_drew ?_ | refine blk_alloc ?_ _)); refine blk_put (cs := #[.int .i64 ((rd_T41 l0 x8_1).f0), .int .i64 ((rd_T41 l0 x8_1).f1), .int .i64 ((rd_T41 l0 x8_1).f2), .int .i64 0, .slice none 0 0]) ?_ 3 _ rfl; (with_reducible repeat (first | refine blk_drewN ?_ _ | refine blk_drew ?_ | refine blk_alloc ?_ _)); refine blk_put (cs := #[.int .i64 ((rd_T41 l0 x8_1).f0), .int .i64 ((rd_T41 l0 x8_1).f1), .int .i64 0, .int .i64 0, .slice none 0 0]) ?_ 2 _ rfl; (with_reducible repeat (first | refine blk_drewN ?_ _ | refine blk_drew ?_ | refine blk_alloc ?_ _)); refine blk_put (cs := #[.int .i64 ((rd_T41 l0 x8_1).f0), .int .i64 0, .int .i64 0, .int .i64 0, .slice none 0 0]) ?_ 1 _ rfl; (with_reducible repeat (first | refine blk_drewN ?_ _ | refine blk_drew ?_ | refine blk_alloc ?_ _)); refine blk_put (cs := #[.int .i64 0, .int .i64 0, .int .i64 0, .int .i64 0, .slice none 0 0]) ?_ 0 _ rfl; (with_reducible repeat (first | refine blk_drewN ?_ _ | refine blk_drew ?_ | refine blk_alloc ?_ _)); exact BK118.out) hg (Kd.R_ne HO_3.out BK118.out (by decide))); have n2_ := Aside0.mk (hb); have n3_ := Aside0.mk (ho); clear HO_2; clear BK118; clear HB; clear HO_3; have HO_2 := n0_; have BK118 := n1_; have HB := n2_; have HO124 := n3_; clear n0_ n1_ n2_ n3_; clear ho hb hg hat))
         go_roundg k1
         case measure => have := HK1.out; omega
         case rel => exact ⟨(x2_1), (y122), (wrap64 (x8_1 + 1)), (by first | rfl | (simp; done) | (simp [*]; done)), H', ⟨by have := HK1.out; omega⟩, ⟨by (with_reducible repeat (first | apply Kd.R_alloc | apply Kd.R_drewN | apply Kd.R_drew)); exact Kd.R_mono HO_2.out (fun _ hk => hk.2)⟩, ⟨by (with_reducible repeat (first | apply Kd.R_alloc | apply Kd.R_drewN | apply Kd.R_drew)); exact HO124.out⟩, ⟨by repeat (first | (with_reducible first | exact HB.out | apply below_alloc | apply pw_below_drewN | apply below_drew1 | refine below_set ?_ GE118.out) | exact HB.out)⟩⟩
        ·rw [if_neg c11] at H
         exact absurd H (by simp)
       ·rw [if_neg c10] at H
        have c10b0 : decide (0 < ((rd_T41 l0 x8_1).f3)) = false := decide_eq_false c10
        clear c10
        have H' := Aside0.mk H
        clear H
        have p117 : 0 ≤ (x8_1 : Int) := odt
        have q117 : x8_1 < (l0.length : Int) := odt
        obtain ⟨ad117, A117_4, c117_4, e117, hx117_0, hx117_1, hx117_2, hx117_3, hx117_4, hl117_4, hi117_4⟩ := at_T41 HR0.out x8_1 p117 q117
        cases e117
        replace hx117_0 := (HB.out.cell (World.block_lt_of_cell? w _ hx117_0)).trans hx117_0
        replace hx117_1 := (HB.out.cell (World.block_lt_of_cell? w _ hx117_1)).trans hx117_1
        replace hx117_2 := (HB.out.cell (World.block_lt_of_cell? w _ hx117_2)).trans hx117_2
        replace hx117_3 := (HB.out.cell (World.block_lt_of_cell? w _ hx117_3)).trans hx117_3
        replace hx117_4 := (HB.out.cell (World.block_lt_of_cell? w _ hx117_4)).trans hx117_4
        have HR117_4 := Aside0.mk hi117_4
        have HC117_4 := Aside0.mk hl117_4
        clear hi117_4 hl117_4
        replace p117 := eq_true p117
        replace q117 := eq_true q117
        go_wp2_with (first | ((with_reducible refine gate_dst (N := 5) rfl ?_); refine box_event ?hg (N := 5) ?hd (cs := #[.int .i64 0, .int .i64 0, .int .i64 0, .int .i64 0, .slice none 0 0]) (t := 41) ?hr ?_; (case hd => rfl); (case hg => rfl); (case hr => first | (go_simp; done) | (go_simp; rfl)); intro gb118 hg w15 hbox hb; have n0_ := Aside0.mk (Kd.R_below (by (with_reducible repeat (first | apply Kd.R_alloc | apply Kd.R_drewN | apply Kd.R_drew)); exact HO_2.out) hb); have n1_ := Aside0.mk (Kd.R_below (by (with_reducible repeat (first | apply Kd.R_alloc | apply Kd.R_drewN | apply Kd.R_drew)); exact HO_3.out) hb); have n2_ := Aside0.mk (below_step (by repeat (first | (with_reducible first | exact HB.out | apply below_alloc | apply pw_below_drewN | apply below_drew1) | exact HB.out)) hb); have n3_ := Aside0.mk (hbox); have n4_ := Aside0.mk ((by rw [hg]; exact (below_size (by repeat (first | (with_reducible first | exact HB.out | apply below_alloc | apply pw_below_drewN | apply below_drew1) | exact HB.out))) : w.heap.size ≤ gb118)); have n5_ := Aside0.mk ((by rw [hg]; exact (below_size (by repeat (first | (with_reducible first | exact HB.out | apply below_alloc | apply pw_below_drewN | apply below_drew1) | exact HB.out))) : w.heap.size ≤ gb118)); clear HO_2; clear HO_3; clear HB; have HO_2 := n0_; have HO_3 := n1_; have HB := n2_; have BK118 := n3_; have GW118 := n4_; have GE118 := n5_; clear n0_ n1_ n2_ n3_ n4_ n5_; clear hb hbox hg; have hcz16_0 : w15.cell? ⟨gb118, 0, none⟩ = some (.int .i64 0) := (blk_cell BK118.out 0).trans rfl; have hcz16_1 : w15.cell? ⟨gb118, 1, none⟩ = some (.int .i64 0) := (blk_cell BK118.out 1).trans rfl; have hcz16_2 : w15.cell? ⟨gb118, 2, none⟩ = some (.int .i64 0) := (blk_cell BK118.out 2).trans rfl; have hcz16_3 : w15.cell? ⟨gb118, 3, none⟩ = some (.int .i64 0) := (blk_cell BK118.out 3).trans rfl; have hcz16_4 : w15.cell? ⟨gb118, 4, none⟩ = some (.slice none 0 0) := (blk_cell BK118.out 4).trans rfl; have hfz16_0 := blk_frozen BK118.out 0; have hfz16_1 := blk_frozen BK118.out 1; have hfz16_2 := blk_frozen BK118.out 2; have hfz16_3 := blk_frozen BK118.out 3; have hfz16_4 := blk_frozen BK118.out 4))
        go_roundg k1
        case measure => have := HK1.out; omega
        case rel => exact ⟨(x2_1), (x3_1), (wrap64 (x8_1 + 1)), (by first | rfl | (simp; done) | (simp [*]; done)), H', ⟨by have := HK1.out; omega⟩, ⟨by (with_reducible repeat (first | apply Kd.R_alloc | apply Kd.R_drewN | apply Kd.R_drew)); exact Kd.R_mono (Kd.R_far (p := ⟨gb118, 4, none⟩) (Kd.R_far (p := ⟨gb118, 3, none⟩) (Kd.R_far (p := ⟨gb118, 2, none⟩) (Kd.R_far (p := ⟨gb118, 1, none⟩) (Kd.R_far (p := ⟨gb118, 0, none⟩) (Kd.R_types HO_2.out BK118.out (by decide)) (fun _ hk => hk.2) (.int .i64 ((rd_T41 l0 x8_1).f0))) (fun _ hk => hk.2) (.int .i64 ((rd_T41 l0 x8_1).f1))) (fun _ hk => hk.2) (.int .i64 ((rd_T41 l0 x8_1).f2))) (fun _ hk => hk.2) (.int .i64 ((rd_T41 l0 x8_1).f3))) (fun _ hk => hk.2) (.slice A117_4 ((rd_T41 l0 x8_1).f4).length c117_4)) (fun _ hk => hk.1)⟩, ⟨by (with_reducible repeat (first | apply Kd.R_alloc | apply Kd.R_drewN | apply Kd.R_drew)); exact Kd.R_mono (Kd.R_far (p := ⟨gb118, 4, none⟩) (Kd.R_far (p := ⟨gb118, 3, none⟩) (Kd.R_far (p := ⟨gb118, 2, none⟩) (Kd.R_far (p := ⟨gb118, 1, none⟩) (Kd.R_far (p := ⟨gb118, 0, none⟩) (Kd.R_types HO_3.out BK118.out (by decide)) (fun _ hk => hk.2) (.int .i64 ((rd_T41 l0 x8_1).f0))) (fun _ hk => hk.2) (.int .i64 ((rd_T41 l0 x8_1).f1))) (fun _ hk => hk.2) (.int .i64 ((rd_T41 l0 x8_1).f2))) (fun _ hk => hk.2) (.int .i64 ((rd_T41 l0 x8_1).f3))) (fun _ hk => hk.2) (.slice A117_4 ((rd_T41 l0 x8_1).f4).length c117_4)) (fun _ hk => hk.1)⟩, ⟨by repeat (first | (with_reducible first | exact HB.out | apply below_alloc | apply pw_below_drewN | apply below_drew1 | refine below_set ?_ GE118.out) | exact HB.out)⟩⟩
     ·rw [if_neg c4] at H
      exact absurd H (by simp)
    ·rw [if_neg c3] at H
     exact absurd H (by simp)
   ·rw [if_neg c2] at H
    have c2b0 : decide (x8_1 < (l0.length : Int)) = false := decide_eq_false c2
    clear c2
    simp only [Option.some.injEq, Prod.mk.injEq] at H
    obtain ⟨rfl, rfl⟩ := H
    go_wp2
    go_ret2
    exact ⟨_, _, by first | rfl | (simp [errW_none, errW_some] <;> rfl) | (simp [*, errW_none, errW_some] <;> rfl), by (with_reducible repeat (first | apply Kd.R_alloc | apply Kd.R_drewN | apply Kd.R_drew)); exact HO_2.out, by (with_reducible repeat (first | apply Kd.R_alloc | apply Kd.R_drewN | apply Kd.R_drew)); exact HO_3.out, by repeat (first | (with_reducible first | exact HB.out | apply below_alloc | apply pw_below_drewN | apply below_drew1) | exact HB.out)⟩

/-! ### ship_in_take: function 44 -/
-- by hand
/-- Bytes that are taken: block g holds what is left; the bytes lie where they lay at first (in w). -/
def ship_in_take.Holds (w u : World) (g : Nat) (xs : List Int) : Prop :=
 ∃ A c, u.heap[g]? = some (.cells #[.slice A xs.length c] 63 (0, 0)) ∧ xs.length ≤ c ∧ Kd.C (Kd.int .u8) w A xs.length xs
/-- All that lies stays, block g apart. -/
def ship_in_take.Stays (g : Nat) (w w' : World) : Prop := ∀ k o, w.heap[k]? = some o → k ≠ g → w'.heap[k]? = some o
theorem ship_in_take.stays_t {g : Nat} {a b c : World} (h : ship_in_take.Stays g a b) (k : ship_in_take.Stays g b c) : ship_in_take.Stays g a c := fun i o hi hn => k i o (h i o hi hn) hn
theorem ship_in_take.stays_below {g : Nat} {w w' : World} (hb : Below w.heap.size w w') : ship_in_take.Stays g w w' := fun k o hk _ => (hb.block k (Array.getElem?_eq_some_iff.1 hk).1).trans hk
theorem ship_in_take.stays_w {g : Nat} {w w1 w2 : World} (h : ship_in_take.Stays g w w1) (hb : Below w.heap.size w1 w2) : ship_in_take.Stays g w w2 := fun k o hk hn =>
 (hb.block k (Array.getElem?_eq_some_iff.1 hk).1).trans (h k o hk hn)
theorem ship_in_take.holds_below {w u u' : World} {g : Nat} {xs : List Int} (h : ship_in_take.Holds w u g xs) (hb : Below u.heap.size u u') : ship_in_take.Holds w u' g xs := by
 obtain ⟨A, c, h1, h2, h3⟩ := h
 exact ⟨A, c, blk_below h1 hb, h2, h3⟩
theorem ship_in_take.holds_other {w u u2 : World} {g ga : Nat} {xs : List Int} (h : ship_in_take.Holds w u g xs) (hne : ga ≠ g) (hk : ∀ k, k ≠ ga → u2.heap[k]? = u.heap[k]?) : ship_in_take.Holds w u2 g xs := by
 obtain ⟨A, c, h1, h2, h3⟩ := h
 exact ⟨A, c, (hk g (Ne.symm hne)).trans h1, h2, h3⟩
theorem ship_in_take.holds_grown {w u u2 : World} {g : Nat} {row : Option Nat} {xs : List Int} (h : ship_in_take.Holds w u g xs) (hg : u.grownBy u2 row) (hr : some g ≠ row) : ship_in_take.Holds w u2 g xs := by
 obtain ⟨A, c, h1, h2, h3⟩ := h
 exact ⟨A, c, (hg.block g (Array.getElem?_eq_some_iff.1 h1).1 hr).trans h1, h2, h3⟩
theorem ship_in_take.holds_lt {w u : World} {g : Nat} {xs : List Int} (h : ship_in_take.Holds w u g xs) : g < u.heap.size := by
 obtain ⟨_, _, h1, _⟩ := h
 exact (Array.getElem?_eq_some_iff.1 h1).1
theorem ship_in_take.R_stays {α : Type} {d : Kd α} {e base g : Nat} {ok : Nat → Prop} {v : Value} {xs : List α} {ys : List Int} {w0 w w2 : World} (h : Kd.R d e w base ok v xs) (hi : ship_in_take.Holds w0 w g ys) (hs : ship_in_take.Stays g w w2) (hE : ∀ q ∈ e :: d.E, q ≠ 63) : Kd.R d e w2 base ok v xs :=
 Kd.R_mono (Kd.R_step (Kd.R_bound h) (fun k hk hl => by
  obtain ⟨_, _, _, q, hq, cells, hc⟩ := hk
  have hkg : k ≠ g := fun e2 => by
   obtain ⟨_, _, h1, _⟩ := hi
   subst e2
   rw [hc] at h1
   simp only [Option.some.injEq, Obj.cells.injEq] at h1
   exact hE q hq h1.2.1
  exact (hs k _ hc hkg).trans hc.symm)) (fun _ hk => hk.1)
theorem ship_in_take.R_other {α : Type} {d : Kd α} {e base ga t : Nat} {ok : Nat → Prop} {v : Value} {xs : List α} {w w2 : World} {cs : Array Value} (h : Kd.R d e w base ok v xs) (hg : w.heap[ga]? = some (.cells cs t (0, 0))) (hE : ∀ q ∈ e :: d.E, q ≠ t) (hk : ∀ k, k ≠ ga → w2.heap[k]? = w.heap[k]?) : Kd.R d e w2 base ok v xs :=
 Kd.R_mono (Kd.R_step (Kd.R_bound h) (fun k hk2 hl => hk k (fun e2 => by
  obtain ⟨_, _, _, q, hq, cells, hc⟩ := hk2
  subst e2
  rw [hc] at hg
  simp only [Option.some.injEq, Obj.cells.injEq] at hg
  exact hE q hq hg.2.1))) (fun _ hk => hk.1)
def ship_in_take.lost : List PanicEntry := [{ v := .iface 58 (.agg #[]), recovered := false }]
theorem ship_in_take.run_panic {P : Program} (t : TypeId) (v : Value) (w : World) : (Instr.panic (.iface t v)).run P w = .halt (.panic (.iface t v)) w := rfl
attribute [local go_sem] ship_in_take.run_panic
set_option maxHeartbeats 4000000 in
theorem ship_in_take.calls (n : Nat) (xs : List Int) (g : Nat) (w u : World) (hB : Below w.heap.size w u) (hb : w.heap.size ≤ g) (h : ship_in_take.Holds w u g xs) (hn : n < 1000000) :
  Calls Try.prog 44 #[.pointer (some ⟨g, 0, none⟩), .int .i64 (n : Int)] u fun e u' => (n ≤ xs.length ∧ (∃ A c, e = .returned (.slice A (xs.take n).length c) ∧ (xs.take n).length ≤ c ∧ Kd.C (Kd.int .u8) u' A (xs.take n).length (xs.take n)) ∧ ship_in_take.Holds w u' g (xs.drop n) ∧ Below w.heap.size w u' ∧ ship_in_take.Stays g u u') ∨ (xs.length < n ∧ e = .panicked ship_in_take.lost ∧ Below w.heap.size w u' ∧ ship_in_take.Stays g u u') := by
 obtain ⟨A, c, h1, h2, h3⟩ := h
 have hu := Try.underlying63
 have hu2 := Try.underlying58
 have H1 := Aside0.mk h1
 have H2 := Aside0.mk h2
 have H3 := Aside0.mk h3
 have HG := Aside0.mk hb
 have HB := Aside0.mk hB
 have HN := Aside0.mk hn
 have hx := blk_cell h1 0
 have hf := blk_frozen h1
 have hm := h3.2.1
 clear h1 h2 h3 hb hn hB
 by_cases hlt : xs.length < n
 ·have hlz : decide ((xs.length : Int) < (n : Int)) = true := decide_eq_true (by omega)
  have hlz2 : decide (xs.length < n) = true := decide_eq_true (by omega)
  have HL := Aside0.mk hlt
  go_enter Try.func44, Try.ntmps44
  go_wp2
  refine ⟨rfl, ?_⟩
  exact .inr ⟨HL.out, rfl, HB.out, fun k o hk _ => hk⟩
 ·have hlz : decide ((xs.length : Int) < (n : Int)) = false := decide_eq_false (by omega)
  have hlz2 : decide (xs.length < n) = false := decide_eq_false (by omega)
  have HL := Aside0.mk hlt
  obtain ⟨ys, hys⟩ : ∃ ys, ys = xs.take n := ⟨_, rfl⟩
  obtain ⟨zs, hzs⟩ : ∃ zs, zs = xs.drop n := ⟨_, rfl⟩
  obtain ⟨i0, hi0, _, hsz0, _⟩ := info_parts info5
  obtain ⟨T1, T2, T3⟩ := print_take_of (P := Try.prog) (Value.int .u8) 0 25 5 .i64 Try.underlying25 hi0 hsz0 A c xs (n : Int) (by omega) (by omega) H2.out
  obtain ⟨A2, D1, D2, D3⟩ := print_drop_of (P := Try.prog) (Value.int .u8) 0 25 5 .i64 Try.underlying25 hi0 hsz0 A c xs (n : Int) (by omega) (by omega) H2.out
  simp only [Int.toNat_natCast] at T1 T2 T3 D1 D2 D3
  rw [← hys] at T1 T2 T3 ⊢
  rw [← hzs] at D1 D2 D3 ⊢
  have HCy := Aside0.mk (show Kd.C (Kd.int .u8) w A ys.length ys from Kd.C_of_reads (h1 := fun _ => rfl) (T2 _ (Kd.reads_of_C H3.out)))
  have HCz := Aside0.mk (show Kd.C (Kd.int .u8) w A2 zs.length zs from Kd.C_of_reads (h1 := fun _ => rfl) (D2 _ (Kd.reads_of_C H3.out)))
  have HT3 := Aside0.mk T3
  have HD3 := Aside0.mk D3
  have HYZ := Aside0.mk (show ys.length = n ∧ zs.length = xs.length - n from by rw [hys, hzs]; simp; omega)
  clear hlt T2 D2 T3 D3 hys hzs
  go_enter Try.func44, Try.ntmps44
  go_wp2
  go_ret
  have hb3 : Below w.heap.size w (u.setCell ⟨g, 0, none⟩ (.slice A2 zs.length (c - n))) := HB.out.setCell (p := ⟨g, 0, none⟩) HG.out _
  refine .inl ⟨by have := HYZ.out; have := HL.out; omega, ⟨A, c, rfl, HT3.out, Kd.C_below HCy.out hb3⟩, ⟨A2, c - n, ?_, HD3.out, HCz.out⟩, hb3, fun k o hk hn => (Below.heap_setCell u ⟨g, 0, none⟩ _ k hn).trans hk⟩
  have := blk_put (cs' := #[.slice A2 zs.length (c - n)]) H1.out 0 (.slice A2 zs.length (c - n)) rfl
  exact this

/-! ### ship_Read_1: function 30 -/
-- by hand
set_option maxHeartbeats 4000000 in
theorem ship_Read_1.lost (gl ge base : Nat) (v x : Value) (w : World) (hl : w.heap[gl]? = some (.cells #[v] 22 (0, 0))) (he : w.heap[ge]? = some (.cells #[x] 26 (0, 0))) (bl : base ≤ gl) (be : base ≤ ge) (bw : base ≤ w.heap.size) :
  CallsD Try.prog 30 #[.pointer (some ⟨gl, 0, none⟩), .pointer (some ⟨ge, 0, none⟩)] (.panicking ship_in_take.lost) w fun e u' w' =>
   e = .returned (.tuple #[]) ∧ u' = .panicking [{ v := .iface 58 (.agg #[]), recovered := true }] ∧ w'.heap[gl]? = some (.cells #[.slice none 0 0] 22 (0, 0)) ∧ w'.heap[ge]? = some (.cells #[.int .i64 230] 26 (0, 0)) ∧ Below base w w' := by
 have hu := Try.underlying58
 have hne : gl ≠ ge := fun e => by subst e; rw [hl] at he; simp at he
 have hl1 := blk_cell hl 0
 have he1 := blk_cell he 0
 refine callsD_of_wpS Try.func30 rfl fun c₀ cs hum => ?_
 apply wpS_seq
 apply wpS_region
 simp [wpOpsS, go_sem, recoverD, hum, Try.ntmps30, Exit.thenS, ship_in_take.lost]
 apply wpS_seq
 apply wpS_region
 simp [wpOpsS, go_sem, Try.ntmps30, Exit.thenS]
 refine wpS_cond (t := true) (by simp [Act.eval, Array.replicate]) ?_
 simp only [if_true]
 refine wpS_of_wp ?_
 have hfl := blk_frozen hl
 have hfe := blk_frozen he
 have HL := Aside0.mk hl
 have HE := Aside0.mk he
 have HBL := Aside0.mk bl
 have HBE := Aside0.mk be
 have HBW := Aside0.mk bw
 have hal : Below w.heap.size w (w.alloc (.cells #[] 58)) := below_alloc (Below.refl _ _) _
 have hl2 := blk_below hl hal
 have he2 := blk_below he hal
 have hxl2 := (blk_cell hl2 0).trans rfl
 have hxe2 := (blk_cell he2 0).trans rfl
 have hfl2 := blk_frozen hl2 0
 have hfe2 := blk_frozen he2 0
 have hne2 := Ne.symm hne
 have HL2 := Aside0.mk hl2
 have HE2 := Aside0.mk he2
 have HAL := Aside0.mk hal
 clear hfl hfe hl2 he2 hal
 have hta : ∀ w : World, (Instr.typeAssert (.iface 58 (.agg #[])) 20 58 true).run Try.prog w = .ok (.tuple #[.agg #[], .bool true]) w := fun _ => rfl
 clear hl he bl be bw
 go_wp2
 have p1 : ((w.alloc (.cells #[] 58)).setCell ⟨gl, 0, none⟩ (.slice none 0 0)).heap[gl]? = some (.cells #[.slice none 0 0] 22 (0, 0)) := by have := blk_put (cs' := #[.slice none 0 0]) HL2.out 0 (.slice none 0 0) rfl; exact this
 have p2 : ((w.alloc (.cells #[] 58)).setCell ⟨gl, 0, none⟩ (.slice none 0 0)).heap[ge]? = some (.cells #[x] 26 (0, 0)) := (Below.heap_setCell _ ⟨gl, 0, none⟩ _ ge hne2).trans HE2.out
 have p3 := (Below.heap_setCell ((w.alloc (.cells #[] 58)).setCell ⟨gl, 0, none⟩ (.slice none 0 0)) ⟨ge, 0, none⟩ (.int .i64 230) gl hne).trans p1
 have p4 : (((w.alloc (.cells #[] 58)).setCell ⟨gl, 0, none⟩ (.slice none 0 0)).setCell ⟨ge, 0, none⟩ (.int .i64 230)).heap[ge]? = some (.cells #[.int .i64 230] 26 (0, 0)) := by have := blk_put (cs' := #[.int .i64 230]) p2 0 (.int .i64 230) rfl; exact this
 exact ⟨rfl, _, rfl, _, results_none rfl _ _ _, rfl, rfl, p3, p4, ((HAL.out.mono HBW.out).setCell (p := ⟨gl, 0, none⟩) HBL.out _).setCell (p := ⟨ge, 0, none⟩) HBE.out _⟩
theorem ship_Read_1.idle (gl ge : Nat) (w : World) :
  CallsD Try.prog 30 #[.pointer (some ⟨gl, 0, none⟩), .pointer (some ⟨ge, 0, none⟩)] .returning w fun e u' w' => e = .returned (.tuple #[]) ∧ u' = .returning ∧ w' = w := by
 refine callsD_of_wpS Try.func30 rfl fun c₀ cs hu => ?_
 apply wpS_seq
 apply wpS_region
 simp [wpOpsS, go_sem, recoverD, hu, Try.ntmps30, Exit.thenS]
 apply wpS_seq
 apply wpS_region
 simp [wpOpsS, go_sem, Try.ntmps30, Exit.thenS]
 refine wpS_cond (t := false) (by simp [Act.eval, Array.replicate]) ?_
 simp only [Bool.false_eq_true, if_false]
 refine wpS_of_wp (wp_skip ?_)
 cases c₀
 simp_all [bodyPostS, results, Try.results30]

end Go.Proofs.Ytihiiidbhhlfnaa.G
