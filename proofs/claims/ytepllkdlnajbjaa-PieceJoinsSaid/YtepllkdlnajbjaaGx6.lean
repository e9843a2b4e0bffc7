/- Contracts of the functions of this seat: what each call computes, as a plain Lean function. Made by this session's own generator. -/
import Derived.Test.YtepllkdlnajbjaaGx0
import Derived.Test.YtepllkdlnajbjaaGx1
import Derived.Test.YtepllkdlnajbjaaGx2
import Derived.Test.YtepllkdlnajbjaaGx4
import Derived.Test.YtepllkdlnajbjaaGx5
namespace Go.Proofs.Ytepllkdlnajbjaa.G
open Go.RowKit Go.Proofs.YtepllkdlnajbjaaMy Go.Proofs.YtepllkdlnajbjaaW.PrintWords Go.Proofs.YtepllkdlnajbjaaW.PrintLast Go.Proofs.YtepllkdlnajbjaaW.PrintMore
attribute [local go_sem] max2_int min2_int max_two min_two max_three min_three max_four min_four   -- for this text's walks alone
set_option linter.unusedVariables false
set_option linter.unusedSimpArgs false

/-! ### piece_Pieces: function 8 -/
def piece_Pieces.l0 : Nat → List (S41) → List (List Int) → Int → Int → Int → Int → Int → Int → Int → Option ((List (List Int)) × Int)
 | 0, _, _, _, _, _, _, _, _, _ => none
 | k + 1, x0, x8, x9, x10, x49, x50, x124000, x124001, x124002 => if x50 < x49 then (if 0 ≤ (wrap64 (x9 + x50)) then (if (wrap64 (x9 + x50)) < (x0.length : Int) then (if (wrap64 (x9 + x50)) = x124001 then (if 0 ≤ x124002 then (if x124002 ≤ (((rd_T41 x0 (wrap64 (x9 + x50))).f0).length : Int) then ((some (((rd_T41 x0 (wrap64 (x9 + x50))).f0).take (x124002 : Int).toNat : List Int)).bind fun y131 => (if 0 ≤ x10 then (if x10 ≤ (y131.length : Int) then ((slices_Clone_int_int.f (y131.drop (x10 : Int).toNat)).bind fun t139 => (if x8.length < 5864062014805 then (piece_Pieces.l0 k x0 (x8 ++ [t139]) x9 0 x49 (wrap64 (x50 + 1)) x124000 x124001 x124002) else (none))) else (none)) else (none))) else (none)) else (none)) else (if 0 ≤ x10 then (if x10 ≤ (((rd_T41 x0 (wrap64 (x9 + x50))).f0).length : Int) then ((slices_Clone_int_int.f (((rd_T41 x0 (wrap64 (x9 + x50))).f0).drop (x10 : Int).toNat)).bind fun t149 => (if x8.length < 5864062014805 then (piece_Pieces.l0 k x0 (x8 ++ [t149]) x9 0 x49 (wrap64 (x50 + 1)) x124000 x124001 x124002) else (none))) else (none)) else (none))) else (none)) else (none)) else ((piece_hyphened.f x124000).bind fun t155 => (if t155 = true then (if 0 ≤ (wrap64 ((x8.length : Int) - 1)) then (if (wrap64 ((x8.length : Int) - 1)) < (x8.length : Int) then (if (rd_L1 x8 (wrap64 ((x8.length : Int) - 1))).length < 17592186044416 then (some ((x8.set ((wrap64 ((x8.length : Int) - 1)) : Int).toNat ((rd_L1 x8 (wrap64 ((x8.length : Int) - 1))) ++ [45])), 0)) else (none)) else (none)) else (none)) else (some (x8, 0))))
def piece_Pieces.f (k : Nat) (l0 : List (S41)) (a1_0 : Int) (a1_1 : Int) (a1_2 : Int) (a2_0 : Int) (a2_1 : Int) (a2_2 : Int) : Option ((List (List Int)) × Int) := (text_Check.f k l0).bind fun t124 => (if t124 = true then ((piece_Stands.f k l0 a1_0 a1_1 a1_2).bind fun t125 => (if t125 = true then ((piece_Stands.f k l0 a2_0 a2_1 a2_2).bind fun t126 => (if t126 = true then (if a1_0 = 5 then (some (([] : List (List Int)), 1)) else ((para_Before.f k a1_0 a1_1 a1_2 a2_0 a2_1 a2_2).bind fun t127 => (if t127 = true then ((piece_first.f a1_0 a1_1 a1_2).bind fun bt128 => (piece_Pieces.l0 k l0 ([] : List (List Int)) bt128.1 bt128.2 (wrap64 ((wrap64 (a2_1 - bt128.1)) + 1)) 0 a2_0 a2_1 a2_2)) else (some (([] : List (List Int)), 1))))) else (some (([] : List (List Int)), 1)))) else (some (([] : List (List Int)), 1)))) else (some (([] : List (List Int)), 130)))
theorem piece_Pieces.mono_l : ∀ k, (∀ y0 y1 y2 y3 y4 y5 y6 y7 y8, LeO (piece_Pieces.l0 k y0 y1 y2 y3 y4 y5 y6 y7 y8) (piece_Pieces.l0 (k + 1) y0 y1 y2 y3 y4 y5 y6 y7 y8))
 | 0 => fun _ _ _ _ _ _ _ _ _ r h => by simp [piece_Pieces.l0] at h
 | k + 1 => by
  have ih0 := piece_Pieces.mono_l k
  ·intro y0 y1 y2 y3 y4 y5 y6 y7 y8
   unfold piece_Pieces.l0
   repeat' first
   | (with_reducible exact ih0 _ _ _ _ _ _ _ _ _)
   | (with_reducible exact para_Before.mono _ _ _ _ _ _ _)
   | (with_reducible exact piece_Stands.mono _ _ _ _ _)
   | (with_reducible exact text_Check.mono _ _)
   | (with_reducible exact LeO.refl _)
   | (with_reducible exact LeO.none _)
   | (with_reducible refine LeO.ite ?_ ?_)
   | (with_reducible refine LeO.bind ?_ (fun _ => ?_))
   | exact ih0 _ _ _ _ _ _ _ _ _
   | exact para_Before.mono _ _ _ _ _ _ _
   | exact piece_Stands.mono _ _ _ _ _
   | exact text_Check.mono _ _
   | exact LeO.none _
   | refine LeO.ite ?_ ?_
   | refine LeO.bind ?_ (fun _ => ?_)
theorem piece_Pieces.mono : ∀ a0 a1 a2 a3 a4 a5 a6 k, LeO (piece_Pieces.f k a0 a1 a2 a3 a4 a5 a6) (piece_Pieces.f (k + 1) a0 a1 a2 a3 a4 a5 a6) := by
 intro a0 a1 a2 a3 a4 a5 a6 k
 have ih0 := piece_Pieces.mono_l k
 unfold piece_Pieces.f
 repeat' first
   | (with_reducible exact ih0 _ _ _ _ _ _ _ _ _)
   | (with_reducible exact para_Before.mono _ _ _ _ _ _ _)
   | (with_reducible exact piece_Stands.mono _ _ _ _ _)
   | (with_reducible exact text_Check.mono _ _)
   | (with_reducible exact LeO.refl _)
   | (with_reducible exact LeO.none _)
   | (with_reducible refine LeO.ite ?_ ?_)
   | (with_reducible refine LeO.bind ?_ (fun _ => ?_))
   | exact ih0 _ _ _ _ _ _ _ _ _
   | exact para_Before.mono _ _ _ _ _ _ _
   | exact piece_Stands.mono _ _ _ _ _
   | exact text_Check.mono _ _
   | exact LeO.none _
   | refine LeO.ite ?_ ?_
   | refine LeO.bind ?_ (fun _ => ?_)
set_option maxHeartbeats 8000000 in
set_option maxRecDepth 100000 in
theorem piece_Pieces.calls (k : Nat) (A0 : Option Addr) (c0 : Nat) (l0 : List (S41)) (a1_0 : Int) (a1_1 : Int) (a1_2 : Int) (a2_0 : Int) (a2_1 : Int) (a2_2 : Int) (r1 : List (List Int)) (r2 : Int) (w : World) (hr0 : Kd.C k41 w A0 l0.length l0) (hc0 : l0.length ≤ c0) (h : piece_Pieces.f k l0 a1_0 a1_1 a1_2 a2_0 a2_1 a2_2 = some (r1, r2)) :
  Calls Try.prog 8 #[.slice A0 l0.length c0, .agg #[.int .i64 a1_0, .int .i64 a1_1, .int .i64 a1_2], .agg #[.int .i64 a2_0, .int .i64 a2_1, .int .i64 a2_2]] w fun e w' => ∃ v0_ : Value, e = .returned (.tuple #[v0_, .int .i64 r2]) ∧ Kd.S (Kd.slice 3 (Kd.int .i64)) 36 w' w.heap.size (fun _ => True) v0_ r1 ∧ Below w.heap.size w w' := by
 have hu24 := Try.underlying24
 have HR0 := Aside0.mk hr0
 have HC0 := Aside0.mk hc0
 clear hr0 hc0
 have HB := Aside0.mk (Below.refl w.heap.size w)
 have H : ((text_Check.f k l0).bind fun t124 => (if t124 = true then ((piece_Stands.f k l0 a1_0 a1_1 a1_2).bind fun t125 => (if t125 = true then ((piece_Stands.f k l0 a2_0 a2_1 a2_2).bind fun t126 => (if t126 = true then (if a1_0 = 5 then (some (([] : List (List Int)), 1)) else ((para_Before.f k a1_0 a1_1 a1_2 a2_0 a2_1 a2_2).bind fun t127 => (if t127 = true then ((piece_first.f a1_0 a1_1 a1_2).bind fun bt128 => (piece_Pieces.l0 k l0 ([] : List (List Int)) bt128.1 bt128.2 (wrap64 ((wrap64 (a2_1 - bt128.1)) + 1)) 0 a2_0 a2_1 a2_2)) else (some (([] : List (List Int)), 1))))) else (some (([] : List (List Int)), 1)))) else (some (([] : List (List Int)), 1)))) else (some (([] : List (List Int)), 130)))) = some (r1, r2) := h
 clear h
 replace H := Option.bind_eq_some_iff.mp H
 obtain ⟨t124, A40, H⟩ := H
 replace H : (if t124 = true then ((piece_Stands.f k l0 a1_0 a1_1 a1_2).bind fun t125 => (if t125 = true then ((piece_Stands.f k l0 a2_0 a2_1 a2_2).bind fun t126 => (if t126 = true then (if a1_0 = 5 then (some (([] : List (List Int)), 1)) else ((para_Before.f k a1_0 a1_1 a1_2 a2_0 a2_1 a2_2).bind fun t127 => (if t127 = true then ((piece_first.f a1_0 a1_1 a1_2).bind fun bt128 => (piece_Pieces.l0 k l0 ([] : List (List Int)) bt128.1 bt128.2 (wrap64 ((wrap64 (a2_1 - bt128.1)) + 1)) 0 a2_0 a2_1 a2_2)) else (some (([] : List (List Int)), 1))))) else (some (([] : List (List Int)), 1)))) else (some (([] : List (List Int)), 1)))) else (some (([] : List (List Int)), 130))) = some (r1, r2) := H
 have A4 := Aside0.mk A40
 clear A40
 by_cases c5 : t124 = true
 ·subst c5
  have H1 : ((piece_Stands.f k l0 a1_0 a1_1 a1_2).bind fun t125 => (if t125 = true then ((piece_Stands.f k l0 a2_0 a2_1 a2_2).bind fun t126 => (if t126 = true then (if a1_0 = 5 then (some (([] : List (List Int)), 1)) else ((para_Before.f k a1_0 a1_1 a1_2 a2_0 a2_1 a2_2).bind fun t127 => (if t127 = true then ((piece_first.f a1_0 a1_1 a1_2).bind fun bt128 => (piece_Pieces.l0 k l0 ([] : List (List Int)) bt128.1 bt128.2 (wrap64 ((wrap64 (a2_1 - bt128.1)) + 1)) 0 a2_0 a2_1 a2_2)) else (some (([] : List (List Int)), 1))))) else (some (([] : List (List Int)), 1)))) else (some (([] : List (List Int)), 1)))) = some (r1, r2) := by rw [if_pos rfl] at H; exact H
  clear H
  have H := H1
  clear H1
  replace H := Option.bind_eq_some_iff.mp H
  obtain ⟨t125, A60, H⟩ := H
  replace H : (if t125 = true then ((piece_Stands.f k l0 a2_0 a2_1 a2_2).bind fun t126 => (if t126 = true then (if a1_0 = 5 then (some (([] : List (List Int)), 1)) else ((para_Before.f k a1_0 a1_1 a1_2 a2_0 a2_1 a2_2).bind fun t127 => (if t127 = true then ((piece_first.f a1_0 a1_1 a1_2).bind fun bt128 => (piece_Pieces.l0 k l0 ([] : List (List Int)) bt128.1 bt128.2 (wrap64 ((wrap64 (a2_1 - bt128.1)) + 1)) 0 a2_0 a2_1 a2_2)) else (some (([] : List (List Int)), 1))))) else (some (([] : List (List Int)), 1)))) else (some (([] : List (List Int)), 1))) = some (r1, r2) := H
  have A6 := Aside0.mk A60
  clear A60
  by_cases c7 : t125 = true
  ·subst c7
   have H1 : ((piece_Stands.f k l0 a2_0 a2_1 a2_2).bind fun t126 => (if t126 = true then (if a1_0 = 5 then (some (([] : List (List Int)), 1)) else ((para_Before.f k a1_0 a1_1 a1_2 a2_0 a2_1 a2_2).bind fun t127 => (if t127 = true then ((piece_first.f a1_0 a1_1 a1_2).bind fun bt128 => (piece_Pieces.l0 k l0 ([] : List (List Int)) bt128.1 bt128.2 (wrap64 ((wrap64 (a2_1 - bt128.1)) + 1)) 0 a2_0 a2_1 a2_2)) else (some (([] : List (List Int)), 1))))) else (some (([] : List (List Int)), 1)))) = some (r1, r2) := by rw [if_pos rfl] at H; exact H
   clear H
   have H := H1
   clear H1
   replace H := Option.bind_eq_some_iff.mp H
   obtain ⟨t126, A80, H⟩ := H
   replace H : (if t126 = true then (if a1_0 = 5 then (some (([] : List (List Int)), 1)) else ((para_Before.f k a1_0 a1_1 a1_2 a2_0 a2_1 a2_2).bind fun t127 => (if t127 = true then ((piece_first.f a1_0 a1_1 a1_2).bind fun bt128 => (piece_Pieces.l0 k l0 ([] : List (List Int)) bt128.1 bt128.2 (wrap64 ((wrap64 (a2_1 - bt128.1)) + 1)) 0 a2_0 a2_1 a2_2)) else (some (([] : List (List Int)), 1))))) else (some (([] : List (List Int)), 1))) = some (r1, r2) := H
   have A8 := Aside0.mk A80
   clear A80
   by_cases c9 : t126 = true
   ·subst c9
    have H1 : (if a1_0 = 5 then (some (([] : List (List Int)), 1)) else ((para_Before.f k a1_0 a1_1 a1_2 a2_0 a2_1 a2_2).bind fun t127 => (if t127 = true then ((piece_first.f a1_0 a1_1 a1_2).bind fun bt128 => (piece_Pieces.l0 k l0 ([] : List (List Int)) bt128.1 bt128.2 (wrap64 ((wrap64 (a2_1 - bt128.1)) + 1)) 0 a2_0 a2_1 a2_2)) else (some (([] : List (List Int)), 1))))) = some (r1, r2) := by rw [if_pos rfl] at H; exact H
    clear H
    have H := H1
    clear H1
    by_cases c10 : a1_0 = 5
    ·rw [if_pos c10] at H
     have c10b0 : (a1_0 == 5) = true := beq_iff_eq.mpr c10
     have c10b1 : (a1_0 != 5) = false := bne_eq_false_iff_eq.mpr c10
     clear c10
     simp only [Option.some.injEq, Prod.mk.injEq] at H
     obtain ⟨rfl, rfl⟩ := H
     go_enter Try.func8, Try.ntmps8
     have tk_ : True := trivial
     go_wp2_with (first | ((with_reducible refine gate_dst (N := 4) rfl ?_); refine box_event ?hg (N := 4) ?hd (cs := #[.int .i64 a1_0, .int .i64 a1_1, .int .i64 a1_2]) (t := 24) ?hr ?_; (case hd => rfl); (case hg => rfl); (case hr => first | (go_simp; done) | (go_simp; rfl)); intro gb122 hg w11 hbox hb; have n0_ := Aside0.mk (below_step (by repeat (first | (with_reducible first | exact HB.out | apply below_alloc | apply pw_below_drewN | apply below_drew1) | exact HB.out)) hb); have n1_ := Aside0.mk (hbox); have n2_ := Aside0.mk ((by rw [hg]; exact (below_size (by repeat (first | (with_reducible first | exact HB.out | apply below_alloc | apply pw_below_drewN | apply below_drew1) | exact HB.out))) : w.heap.size ≤ gb122)); have n3_ := Aside0.mk ((by rw [hg]; exact (below_size (by repeat (first | (with_reducible first | exact HB.out | apply below_alloc | apply pw_below_drewN | apply below_drew1) | exact HB.out))) : w.heap.size ≤ gb122)); clear HB; have HB := n0_; have BK122 := n1_; have GW122 := n2_; have GE122 := n3_; clear n0_ n1_ n2_ n3_; clear hb hbox hg) | ((with_reducible refine gate_dst (N := 5) rfl ?_); refine box_event ?hg (N := 5) ?hd (cs := #[.int .i64 a2_0, .int .i64 a2_1, .int .i64 a2_2]) (t := 24) ?hr ?_; (case hd => rfl); (case hg => rfl); (case hr => first | (go_simp; done) | (go_simp; rfl)); intro gb123 hg w12 hbox hb; have n0_ := Aside0.mk (blk_below (g := gb122) (o := .cells #[.int .i64 a1_0, .int .i64 a1_1, .int .i64 a1_2] 24 (0, 0)) (by (with_reducible repeat (first | refine blk_drewN ?_ _ | refine blk_drew ?_ | refine blk_alloc ?_ _)); exact BK122.out) hb); have n1_ := Aside0.mk (below_step (by repeat (first | (with_reducible first | exact HB.out | apply below_alloc | apply pw_below_drewN | apply below_drew1 | refine below_set ?_ GE122.out) | exact HB.out)) hb); have n2_ := Aside0.mk (hbox); have n3_ := Aside0.mk ((by rw [hg]; exact (below_size (by repeat (first | (with_reducible first | exact HB.out | apply below_alloc | apply pw_below_drewN | apply below_drew1 | refine below_set ?_ GE122.out) | exact HB.out))) : w.heap.size ≤ gb123)); have n4_ := Aside0.mk ((by rw [hg]; exact (below_size (by repeat (first | (with_reducible first | exact HB.out | apply below_alloc | apply pw_below_drewN | apply below_drew1 | refine below_set ?_ GE122.out) | exact HB.out))) : w.heap.size ≤ gb123)); have n5_ := Aside0.mk ((by rw [hg]; exact Nat.ne_of_lt (blk_lt (g := gb122) (o := .cells #[.int .i64 a1_0, .int .i64 a1_1, .int .i64 a1_2] 24 (0, 0)) (by (with_reducible repeat (first | refine blk_drewN ?_ _ | refine blk_drew ?_ | refine blk_alloc ?_ _)); exact BK122.out)) : gb122 ≠ gb123)); have n6_ := Aside0.mk ((by rw [hg]; exact Nat.ne_of_gt (blk_lt (g := gb122) (o := .cells #[.int .i64 a1_0, .int .i64 a1_1, .int .i64 a1_2] 24 (0, 0)) (by (with_reducible repeat (first | refine blk_drewN ?_ _ | refine blk_drew ?_ | refine blk_alloc ?_ _)); exact BK122.out)) : gb123 ≠ gb122)); clear BK122; clear HB; have BK122 := n0_; have HB := n1_; have BK123 := n2_; have GW123 := n3_; have GE123 := n4_; have NB122_123 := n5_; have NB123_122 := n6_; clear n0_ n1_ n2_ n3_ n4_ n5_ n6_; clear hb hbox hg) | (go_at_call 15; clear tk_; (with_reducible refine (text_Check.calls k _ _ l0 true _ ?side1 ?side2 A4.out).mono ?_); (case side1 => repeat (first | exact (Kd.C_below HR0.out HB.out) | (with_reducible refine Kd.C_alloc ?_ _) | (with_reducible refine Kd.C_drewN ?_ _) | (with_reducible refine Kd.C_drew ?_))); (case side2 => exact HC0.out); rintro e w13 ⟨rfl, hb⟩; have n0_ := Aside0.mk (blk_below (g := gb122) (o := .cells #[.int .i64 a1_0, .int .i64 a1_1, .int .i64 a1_2] 24 (0, 0)) (by (with_reducible repeat (first | refine blk_drewN ?_ _ | refine blk_drew ?_ | refine blk_alloc ?_ _)); exact BK122.out) hb); have n1_ := Aside0.mk (blk_below (g := gb123) (o := .cells #[.int .i64 a2_0, .int .i64 a2_1, .int .i64 a2_2] 24 (0, 0)) (by (with_reducible repeat (first | refine blk_drewN ?_ _ | refine blk_drew ?_ | refine blk_alloc ?_ _)); exact BK123.out) hb); have n2_ := Aside0.mk (below_step (by repeat (first | (with_reducible first | exact HB.out | apply below_alloc | apply pw_below_drewN | apply below_drew1 | refine below_set ?_ GE122.out | refine below_set ?_ GE123.out) | exact HB.out)) hb); clear BK122; clear BK123; clear HB; have BK122 := n0_; have BK123 := n1_; have HB := n2_; clear n0_ n1_ n2_; (try clear hb); (try clear hb2); (try clear hk); (try clear hi); have hnb14 := NB122_123.out; have hnc14 := NB123_122.out; have hcz15_0 : w13.cell? ⟨gb122, 0, none⟩ = some (.int .i64 a1_0) := (blk_cell BK122.out 0).trans rfl; have hcz15_1 : w13.cell? ⟨gb122, 1, none⟩ = some (.int .i64 a1_1) := (blk_cell BK122.out 1).trans rfl; have hcz15_2 : w13.cell? ⟨gb122, 2, none⟩ = some (.int .i64 a1_2) := (blk_cell BK122.out 2).trans rfl; have hfz15_0 := blk_frozen BK122.out 0; have hfz15_1 := blk_frozen BK122.out 1; have hfz15_2 := blk_frozen BK122.out 2))
     as_aux_lemma =>
     have tk_ : True := trivial
     go_wp2_with (first | (go_at_call 10; clear tk_; (with_reducible refine (piece_Stands.calls k _ _ l0 a1_0 a1_1 a1_2 true _ ?side1 ?side2 A6.out).mono ?_); (case side1 => repeat (first | exact (Kd.C_below HR0.out HB.out) | (with_reducible refine Kd.C_alloc ?_ _) | (with_reducible refine Kd.C_drewN ?_ _) | (with_reducible refine Kd.C_drew ?_))); (case side2 => exact HC0.out); rintro e w16 ⟨rfl, hb⟩; have n0_ := Aside0.mk (blk_below (g := gb122) (o := .cells #[.int .i64 a1_0, .int .i64 a1_1, .int .i64 a1_2] 24 (0, 0)) (by (with_reducible repeat (first | refine blk_drewN ?_ _ | refine blk_drew ?_ | refine blk_alloc ?_ _)); exact BK122.out) hb); have n1_ := Aside0.mk (blk_below (g := gb123) (o := .cells #[.int .i64 a2_0, .int .i64 a2_1, .int .i64 a2_2] 24 (0, 0)) (by (with_reducible repeat (first | refine blk_drewN ?_ _ | refine blk_drew ?_ | refine blk_alloc ?_ _)); exact BK123.out) hb); have n2_ := Aside0.mk (below_step (by repeat (first | (with_reducible first | exact HB.out | apply below_alloc | apply pw_below_drewN | apply below_drew1 | refine below_set ?_ GE122.out | refine below_set ?_ GE123.out) | exact HB.out)) hb); clear BK122; clear BK123; clear HB; have BK122 := n0_; have BK123 := n1_; have HB := n2_; clear n0_ n1_ n2_; (try clear hb); (try clear hb2); (try clear hk); (try clear hi); have hcz17_0 : w16.cell? ⟨gb123, 0, none⟩ = some (.int .i64 a2_0) := (blk_cell BK123.out 0).trans rfl; have hcz17_1 : w16.cell? ⟨gb123, 1, none⟩ = some (.int .i64 a2_1) := (blk_cell BK123.out 1).trans rfl; have hcz17_2 : w16.cell? ⟨gb123, 2, none⟩ = some (.int .i64 a2_2) := (blk_cell BK123.out 2).trans rfl; have hfz17_0 := blk_frozen BK123.out 0; have hfz17_1 := blk_frozen BK123.out 1; have hfz17_2 := blk_frozen BK123.out 2))
     as_aux_lemma =>
     have tk_ : True := trivial
     go_wp2_with (first | (go_at_call 10; clear tk_; (with_reducible refine (piece_Stands.calls k _ _ l0 a2_0 a2_1 a2_2 true _ ?side1 ?side2 A8.out).mono ?_); (case side1 => repeat (first | exact (Kd.C_below HR0.out HB.out) | (with_reducible refine Kd.C_alloc ?_ _) | (with_reducible refine Kd.C_drewN ?_ _) | (with_reducible refine Kd.C_drew ?_))); (case side2 => exact HC0.out); rintro e w18 ⟨rfl, hb⟩; have n0_ := Aside0.mk (blk_below (g := gb122) (o := .cells #[.int .i64 a1_0, .int .i64 a1_1, .int .i64 a1_2] 24 (0, 0)) (by (with_reducible repeat (first | refine blk_drewN ?_ _ | refine blk_drew ?_ | refine blk_alloc ?_ _)); exact BK122.out) hb); have n1_ := Aside0.mk (blk_below (g := gb123) (o := .cells #[.int .i64 a2_0, .int .i64 a2_1, .int .i64 a2_2] 24 (0, 0)) (by (with_reducible repeat (first | refine blk_drewN ?_ _ | refine blk_drew ?_ | refine blk_alloc ?_ _)); exact BK123.out) hb); have n2_ := Aside0.mk (below_step (by repeat (first | (with_reducible first | exact HB.out | apply below_alloc | apply pw_below_drewN | apply below_drew1 | refine below_set ?_ GE122.out | refine below_set ?_ GE123.out) | exact HB.out)) hb); clear BK122; clear BK123; clear HB; have BK122 := n0_; have BK123 := n1_; have HB := n2_; clear n0_ n1_ n2_; (try clear hb); (try clear hb2); (try clear hk); (try clear hi); have hcz19_0 : w18.cell? ⟨gb122, 0, none⟩ = some (.int .i64 a1_0) := (blk_cell BK122.out 0).trans rfl; have hcz19_1 : w18.cell? ⟨gb122, 1, none⟩ = some (.int .i64 a1_1) := (blk_cell BK122.out 1).trans rfl; have hcz19_2 : w18.cell? ⟨gb122, 2, none⟩ = some (.int .i64 a1_2) := (blk_cell BK122.out 2).trans rfl; have hfz19_0 := blk_frozen BK122.out 0; have hfz19_1 := blk_frozen BK122.out 1; have hfz19_2 := blk_frozen BK122.out 2))
     go_ret2
     exact ⟨_, by first | rfl | (simp [errW_none, errW_some] <;> rfl) | (simp [*, errW_none, errW_some] <;> rfl), by first | exact Kd.S_nil _ _ _ _ _ | exact Kd.N_nil _ _ _ _ _ | exact Kd.V_nil _ _ _ _ _ | exact Kd.Q_nil _ _ _ _ _ | exact Kd.R_nil _ _ _ _ _, by repeat (first | (with_reducible first | exact HB.out | apply below_alloc | apply pw_below_drewN | apply below_drew1 | refine below_set ?_ GE122.out | refine below_set ?_ GE123.out) | exact HB.out)⟩
    ·rw [if_neg c10] at H
     have c10b0 : (a1_0 == 5) = false := beq_eq_false_iff_ne.mpr c10
     have c10b1 : (a1_0 != 5) = true := bne_iff_ne.mpr c10
     replace H := Option.bind_eq_some_iff.mp H
     obtain ⟨t127, A200, H⟩ := H
     replace H : (if t127 = true then ((piece_first.f a1_0 a1_1 a1_2).bind fun bt128 => (piece_Pieces.l0 k l0 ([] : List (List Int)) bt128.1 bt128.2 (wrap64 ((wrap64 (a2_1 - bt128.1)) + 1)) 0 a2_0 a2_1 a2_2)) else (some (([] : List (List Int)), 1))) = some (r1, r2) := H
     have A20 := Aside0.mk A200
     clear A200
     by_cases c21 : t127 = true
     ·subst c21
      have H1 : ((piece_first.f a1_0 a1_1 a1_2).bind fun bt128 => (piece_Pieces.l0 k l0 ([] : List (List Int)) bt128.1 bt128.2 (wrap64 ((wrap64 (a2_1 - bt128.1)) + 1)) 0 a2_0 a2_1 a2_2)) = some (r1, r2) := by rw [if_pos rfl] at H; exact H
      clear H
      have H := H1
      clear H1
      replace H := Option.bind_eq_some_iff.mp H
      obtain ⟨⟨t128, t129⟩, A220, H⟩ := H
      replace H : (piece_Pieces.l0 k l0 ([] : List (List Int)) t128 t129 (wrap64 ((wrap64 (a2_1 - t128)) + 1)) 0 a2_0 a2_1 a2_2) = some (r1, r2) := H
      have A22 := Aside0.mk A220
      clear A220
      have H' := Aside0.mk H
      clear H
      go_enter Try.func8, Try.ntmps8
      have tk_ : True := trivial
      go_wp2_with (first | ((with_reducible refine gate_dst (N := 4) rfl ?_); refine box_event ?hg (N := 4) ?hd (cs := #[.int .i64 a1_0, .int .i64 a1_1, .int .i64 a1_2]) (t := 24) ?hr ?_; (case hd => rfl); (case hg => rfl); (case hr => first | (go_simp; done) | (go_simp; rfl)); intro gb122 hg w23 hbox hb; have n0_ := Aside0.mk (below_step (by repeat (first | (with_reducible first | exact HB.out | apply below_alloc | apply pw_below_drewN | apply below_drew1) | exact HB.out)) hb); have n1_ := Aside0.mk (hbox); have n2_ := Aside0.mk ((by rw [hg]; exact (below_size (by repeat (first | (with_reducible first | exact HB.out | apply below_alloc | apply pw_below_drewN | apply below_drew1) | exact HB.out))) : w.heap.size ≤ gb122)); have n3_ := Aside0.mk ((by rw [hg]; exact (below_size (by repeat (first | (with_reducible first | exact HB.out | apply below_alloc | apply pw_below_drewN | apply below_drew1) | exact HB.out))) : w.heap.size ≤ gb122)); clear HB; have HB := n0_; have BK122 := n1_; have GW122 := n2_; have GE122 := n3_; clear n0_ n1_ n2_ n3_; clear hb hbox hg) | ((with_reducible refine gate_dst (N := 5) rfl ?_); refine box_event ?hg (N := 5) ?hd (cs := #[.int .i64 a2_0, .int .i64 a2_1, .int .i64 a2_2]) (t := 24) ?hr ?_; (case hd => rfl); (case hg => rfl); (case hr => first | (go_simp; done) | (go_simp; rfl)); intro gb123 hg w24 hbox hb; have n0_ := Aside0.mk (blk_below (g := gb122) (o := .cells #[.int .i64 a1_0, .int .i64 a1_1, .int .i64 a1_2] 24 (0, 0)) (by (with_reducible repeat (first | refine blk_drewN ?_ _ | refine blk_drew ?_ | refine blk_alloc ?_ _)); exact BK122.out) hb); have n1_ := Aside0.mk (below_step (by repeat (first | (with_reducible first | exact HB.out | apply below_alloc | apply pw_below_drewN | apply below_drew1 | refine below_set ?_ GE122.out) | exact HB.out)) hb); have n2_ := Aside0.mk (hbox); have n3_ := Aside0.mk ((by rw [hg]; exact (below_size (by repeat (first | (with_reducible first | exact HB.out | apply below_alloc | apply pw_below_drewN | apply below_drew1 | refine below_set ?_ GE122.out) | exact HB.out))) : w.heap.size ≤ gb123)); have n4_ := Aside0.mk ((by rw [hg]; exact (below_size (by repeat (first | (with_reducible first | exact HB.out | apply below_alloc | apply pw_below_drewN | apply below_drew1 | refine below_set ?_ GE122.out) | exact HB.out))) : w.heap.size ≤ gb123)); have n5_ := Aside0.mk ((by rw [hg]; exact Nat.ne_of_lt (blk_lt (g := gb122) (o := .cells #[.int .i64 a1_0, .int .i64 a1_1, .int .i64 a1_2] 24 (0, 0)) (by (with_reducible repeat (first | refine blk_drewN ?_ _ | refine blk_drew ?_ | refine blk_alloc ?_ _)); exact BK122.out)) : gb122 ≠ gb123)); have n6_ := Aside0.mk ((by rw [hg]; exact Nat.ne_of_gt (blk_lt (g := gb122) (o := .cells #[.int .i64 a1_0, .int .i64 a1_1, .int .i64 a1_2] 24 (0, 0)) (by (with_reducible repeat (first | refine blk_drewN ?_ _ | refine blk_drew ?_ | refine blk_alloc ?_ _)); exact BK122.out)) : gb123 ≠ gb122)); clear BK122; clear HB; have BK122 := n0_; have HB := n1_; have BK123 := n2_; have GW123 := n3_; have GE123 := n4_; have NB122_123 := n5_; have NB123_122 := n6_; clear n0_ n1_ n2_ n3_ n4_ n5_ n6_; clear hb hbox hg) | (go_at_call 15; clear tk_; (with_reducible refine (text_Check.calls k _ _ l0 true _ ?side1 ?side2 A4.out).mono ?_); (case side1 => repeat (first | exact (Kd.C_below HR0.out HB.out) | (with_reducible refine Kd.C_alloc ?_ _) | (with_reducible refine Kd.C_drewN ?_ _) | (with_reducible refine Kd.C_drew ?_))); (case side2 => exact HC0.out); rintro e w25 ⟨rfl, hb⟩; have n0_ := Aside0.mk (blk_below (g := gb122) (o := .cells #[.int .i64 a1_0, .int .i64 a1_1, .int .i64 a1_2] 24 (0, 0)) (by (with_reducible repeat (first | refine blk_drewN ?_ _ | refine blk_drew ?_ | refine blk_alloc ?_ _)); exact BK122.out) hb); have n1_ := Aside0.mk (blk_below (g := gb123) (o := .cells #[.int .i64 a2_0, .int .i64 a2_1, .int .i64 a2_2] 24 (0, 0)) (by (with_reducible repeat (first | refine blk_drewN ?_ _ | refine blk_drew ?_ | refine blk_alloc ?_ _)); exact BK123.out) hb); have n2_ := Aside0.mk (below_step (by repeat (first | (with_reducible first | exact HB.out | apply below_alloc | apply pw_below_drewN | apply below_drew1 | refine below_set ?_ GE122.out | refine below_set ?_ GE123.out) | exact HB.out)) hb); clear BK122; clear BK123; clear HB; have BK122 := n0_; have BK123 := n1_; have HB := n2_; clear n0_ n1_ n2_; (try clear hb); (try clear hb2); (try clear hk); (try clear hi); have hnb26 := NB122_123.out; have hnc26 := NB123_122.out; have hcz27_0 : w25.cell? ⟨gb122, 0, none⟩ = some (.int .i64 a1_0) := (blk_cell BK122.out 0).trans rfl; have hcz27_1 : w25.cell? ⟨gb122, 1, none⟩ = some (.int .i64 a1_1) := (blk_cell BK122.out 1).trans rfl; have hcz27_2 : w25.cell? ⟨gb122, 2, none⟩ = some (.int .i64 a1_2) := (blk_cell BK122.out 2).trans rfl; have hfz27_0 := blk_frozen BK122.out 0; have hfz27_1 := blk_frozen BK122.out 1; have hfz27_2 := blk_frozen BK122.out 2))
      as_aux_lemma =>
      have tk_ : True := trivial
      go_wp2_with (first | (go_at_call 10; clear tk_; (with_reducible refine (piece_Stands.calls k _ _ l0 a1_0 a1_1 a1_2 true _ ?side1 ?side2 A6.out).mono ?_); (case side1 => repeat (first | exact (Kd.C_below HR0.out HB.out) | (with_reducible refine Kd.C_alloc ?_ _) | (with_reducible refine Kd.C_drewN ?_ _) | (with_reducible refine Kd.C_drew ?_))); (case side2 => exact HC0.out); rintro e w28 ⟨rfl, hb⟩; have n0_ := Aside0.mk (blk_below (g := gb122) (o := .cells #[.int .i64 a1_0, .int .i64 a1_1, .int .i64 a1_2] 24 (0, 0)) (by (with_reducible repeat (first | refine blk_drewN ?_ _ | refine blk_drew ?_ | refine blk_alloc ?_ _)); exact BK122.out) hb); have n1_ := Aside0.mk (blk_below (g := gb123) (o := .cells #[.int .i64 a2_0, .int .i64 a2_1, .int .i64 a2_2] 24 (0, 0)) (by (with_reducible repeat (first | refine blk_drewN ?_ _ | refine blk_drew ?_ | refine blk_alloc ?_ _)); exact BK123.out) hb); have n2_ := Aside0.mk (below_step (by repeat (first | (with_reducible first | exact HB.out | apply below_alloc | apply pw_below_drewN | apply below_drew1 | refine below_set ?_ GE122.out | refine below_set ?_ GE123.out) | exact HB.out)) hb); clear BK122; clear BK123; clear HB; have BK122 := n0_; have BK123 := n1_; have HB := n2_; clear n0_ n1_ n2_; (try clear hb); (try clear hb2); (try clear hk); (try clear hi); have hcz29_0 : w28.cell? ⟨gb123, 0, none⟩ = some (.int .i64 a2_0) := (blk_cell BK123.out 0).trans rfl; have hcz29_1 : w28.cell? ⟨gb123, 1, none⟩ = some (.int .i64 a2_1) := (blk_cell BK123.out 1).trans rfl; have hcz29_2 : w28.cell? ⟨gb123, 2, none⟩ = some (.int .i64 a2_2) := (blk_cell BK123.out 2).trans rfl; have hfz29_0 := blk_frozen BK123.out 0; have hfz29_1 := blk_frozen BK123.out 1; have hfz29_2 := blk_frozen BK123.out 2))
      as_aux_lemma =>
      have tk_ : True := trivial
      go_wp2_with (first | (go_at_call 10; clear tk_; (with_reducible refine (piece_Stands.calls k _ _ l0 a2_0 a2_1 a2_2 true _ ?side1 ?side2 A8.out).mono ?_); (case side1 => repeat (first | exact (Kd.C_below HR0.out HB.out) | (with_reducible refine Kd.C_alloc ?_ _) | (with_reducible refine Kd.C_drewN ?_ _) | (with_reducible refine Kd.C_drew ?_))); (case side2 => exact HC0.out); rintro e w30 ⟨rfl, hb⟩; have n0_ := Aside0.mk (blk_below (g := gb122) (o := .cells #[.int .i64 a1_0, .int .i64 a1_1, .int .i64 a1_2] 24 (0, 0)) (by (with_reducible repeat (first | refine blk_drewN ?_ _ | refine blk_drew ?_ | refine blk_alloc ?_ _)); exact BK122.out) hb); have n1_ := Aside0.mk (blk_below (g := gb123) (o := .cells #[.int .i64 a2_0, .int .i64 a2_1, .int .i64 a2_2] 24 (0, 0)) (by (with_reducible repeat (first | refine blk_drewN ?_ _ | refine blk_drew ?_ | refine blk_alloc ?_ _)); exact BK123.out) hb); have n2_ := Aside0.mk (below_step (by repeat (first | (with_reducible first | exact HB.out | apply below_alloc | apply pw_below_drewN | apply below_drew1 | refine below_set ?_ GE122.out | refine below_set ?_ GE123.out) | exact HB.out)) hb); clear BK122; clear BK123; clear HB; have BK122 := n0_; have BK123 := n1_; have HB := n2_; clear n0_ n1_ n2_; (try clear hb); (try clear hb2); (try clear hk); (try clear hi); have hcz31_0 : w30.cell? ⟨gb122, 0, none⟩ = some (.int .i64 a1_0) := (blk_cell BK122.out 0).trans rfl; have hcz31_1 : w30.cell? ⟨gb122, 1, none⟩ = some (.int .i64 a1_1) := (blk_cell BK122.out 1).trans rfl; have hcz31_2 : w30.cell? ⟨gb122, 2, none⟩ = some (.int .i64 a1_2) := (blk_cell BK122.out 2).trans rfl; have hfz31_0 := blk_frozen BK122.out 0; have hfz31_1 := blk_frozen BK122.out 1; have hfz31_2 := blk_frozen BK122.out 2; have hcz32_0 : w30.cell? ⟨gb123, 0, none⟩ = some (.int .i64 a2_0) := (blk_cell BK123.out 0).trans rfl; have hcz32_1 : w30.cell? ⟨gb123, 1, none⟩ = some (.int .i64 a2_1) := (blk_cell BK123.out 1).trans rfl; have hcz32_2 : w30.cell? ⟨gb123, 2, none⟩ = some (.int .i64 a2_2) := (blk_cell BK123.out 2).trans rfl; have hfz32_0 := blk_frozen BK123.out 0; have hfz32_1 := blk_frozen BK123.out 1; have hfz32_2 := blk_frozen BK123.out 2))
      as_aux_lemma =>
      have tk_ : True := trivial
      go_wp2_with (first | (go_at_call 16; clear tk_; (with_reducible refine (para_Before.calls k a1_0 a1_1 a1_2 a2_0 a2_1 a2_2 true _ A20.out).mono ?_); rintro e w33 ⟨rfl, hb⟩; have n0_ := Aside0.mk (blk_below (g := gb122) (o := .cells #[.int .i64 a1_0, .int .i64 a1_1, .int .i64 a1_2] 24 (0, 0)) (by (with_reducible repeat (first | refine blk_drewN ?_ _ | refine blk_drew ?_ | refine blk_alloc ?_ _)); exact BK122.out) hb); have n1_ := Aside0.mk (blk_below (g := gb123) (o := .cells #[.int .i64 a2_0, .int .i64 a2_1, .int .i64 a2_2] 24 (0, 0)) (by (with_reducible repeat (first | refine blk_drewN ?_ _ | refine blk_drew ?_ | refine blk_alloc ?_ _)); exact BK123.out) hb); have n2_ := Aside0.mk (below_step (by repeat (first | (with_reducible first | exact HB.out | apply below_alloc | apply pw_below_drewN | apply below_drew1 | refine below_set ?_ GE122.out | refine below_set ?_ GE123.out) | exact HB.out)) hb); clear BK122; clear BK123; clear HB; have BK122 := n0_; have BK123 := n1_; have HB := n2_; clear n0_ n1_ n2_; (try clear hb); (try clear hb2); (try clear hk); (try clear hi); have hcz34_0 : w33.cell? ⟨gb122, 0, none⟩ = some (.int .i64 a1_0) := (blk_cell BK122.out 0).trans rfl; have hcz34_1 : w33.cell? ⟨gb122, 1, none⟩ = some (.int .i64 a1_1) := (blk_cell BK122.out 1).trans rfl; have hcz34_2 : w33.cell? ⟨gb122, 2, none⟩ = some (.int .i64 a1_2) := (blk_cell BK122.out 2).trans rfl; have hfz34_0 := blk_frozen BK122.out 0; have hfz34_1 := blk_frozen BK122.out 1; have hfz34_2 := blk_frozen BK122.out 2))
      as_aux_lemma =>
      have tk_ : True := trivial
      go_wp2_with (first | (go_at_call 17; clear tk_; (with_reducible refine (piece_first.calls a1_0 a1_1 a1_2 t128 t129 _ A22.out).mono ?_); rintro e w35 ⟨rfl, hb⟩; have n0_ := Aside0.mk (blk_below (g := gb122) (o := .cells #[.int .i64 a1_0, .int .i64 a1_1, .int .i64 a1_2] 24 (0, 0)) (by (with_reducible repeat (first | refine blk_drewN ?_ _ | refine blk_drew ?_ | refine blk_alloc ?_ _)); exact BK122.out) hb); have n1_ := Aside0.mk (blk_below (g := gb123) (o := .cells #[.int .i64 a2_0, .int .i64 a2_1, .int .i64 a2_2] 24 (0, 0)) (by (with_reducible repeat (first | refine blk_drewN ?_ _ | refine blk_drew ?_ | refine blk_alloc ?_ _)); exact BK123.out) hb); have n2_ := Aside0.mk (below_step (by repeat (first | (with_reducible first | exact HB.out | apply below_alloc | apply pw_below_drewN | apply below_drew1 | refine below_set ?_ GE122.out | refine below_set ?_ GE123.out) | exact HB.out)) hb); clear BK122; clear BK123; clear HB; have BK122 := n0_; have BK123 := n1_; have HB := n2_; clear n0_ n1_ n2_; (try clear hb); (try clear hb2); (try clear hk); (try clear hi); have hcz36_0 : w35.cell? ⟨gb123, 0, none⟩ = some (.int .i64 a2_0) := (blk_cell BK123.out 0).trans rfl; have hcz36_1 : w35.cell? ⟨gb123, 1, none⟩ = some (.int .i64 a2_1) := (blk_cell BK123.out 1).trans rfl; have hcz36_2 : w35.cell? ⟨gb123, 2, none⟩ = some (.int .i64 a2_2) := (blk_cell BK123.out 2).trans rfl; have hfz36_0 := blk_frozen BK123.out 0; have hfz36_1 := blk_frozen BK123.out 1; have hfz36_2 := blk_frozen BK123.out 2))
      go_loopg [8, 10, 50] k (fun kq v8 v10 v50 w' => ∃ (x8_1 : List (List Int)) (x10_1 : Int) (x50_1 : Int), v10 = .int .i64 x10_1 ∧ v50 = .int .i64 x50_1 ∧ Aside0 (piece_Pieces.l0 kq l0 x8_1 t128 x10_1 (wrap64 ((wrap64 (a2_1 - t128)) + 1)) x50_1 a2_0 a2_1 a2_2 = some (r1, r2)) ∧ Aside0 (kq ≤ k) ∧ Aside0 (Kd.S (Kd.slice 3 (Kd.int .i64)) 36 w' w.heap.size (fun _ => True) v8 x8_1) ∧ Aside0 (w'.heap[gb122]? = some (.cells #[.int .i64 a1_0, .int .i64 a1_1, .int .i64 a1_2] 24 (0, 0))) ∧ Aside0 (w'.heap[gb123]? = some (.cells #[.int .i64 a2_0, .int .i64 a2_1, .int .i64 a2_2] 24 (0, 0))) ∧ Aside0 (Below w.heap.size w w'))
      case atStart => exact ⟨(([] : List (List Int))), (t129), (0), (by first | rfl | (simp; done) | (simp [*]; done)), (by first | rfl | (simp; done) | (simp [*]; done)), H', ⟨Nat.le_refl _⟩, ⟨by first | exact Kd.S_nil _ _ _ _ _ | exact Kd.N_nil _ _ _ _ _ | exact Kd.V_nil _ _ _ _ _ | exact Kd.Q_nil _ _ _ _ _ | exact Kd.R_nil _ _ _ _ _⟩, ⟨by (with_reducible repeat (first | refine blk_drewN ?_ _ | refine blk_drew ?_ | refine blk_alloc ?_ _)); exact BK122.out⟩, ⟨by (with_reducible repeat (first | refine blk_drewN ?_ _ | refine blk_drew ?_ | refine blk_alloc ?_ _)); exact BK123.out⟩, ⟨by repeat (first | (with_reducible first | exact HB.out | apply below_alloc | apply pw_below_drewN | apply below_drew1 | refine below_set ?_ GE122.out | refine below_set ?_ GE123.out) | exact HB.out)⟩⟩
      case round =>
       clear H'
       try clear c1
       try clear c2
       try clear p2
       try clear c5
       try clear p6
       try clear c7
       try clear c8
       try clear c9
       try clear c10
       try clear c10b0
       try clear c10b1
       try clear c14
       try clear c15
       try clear c17
       try clear c21
       try clear c26
       try clear hcz15_0
       try clear hcz15_1
       try clear hcz15_2
       try clear hcz17_0
       try clear hcz17_1
       try clear hcz17_2
       try clear hcz19_0
       try clear hcz19_1
       try clear hcz19_2
       try clear hcz27_0
       try clear hcz27_1
       try clear hcz27_2
       try clear hcz29_0
       try clear hcz29_1
       try clear hcz29_2
       try clear hcz31_0
       try clear hcz31_1
       try clear hcz31_2
       try clear hcz32_0
       try clear hcz32_1
       try clear hcz32_2
       try clear hcz34_0
       try clear hcz34_1
       try clear hcz34_2
       try clear hcz36_0
       try clear hcz36_1
       try clear hcz36_2
       try clear hfz15_0
       try clear hfz15_1
       try clear hfz15_2
       try clear hfz17_0
       try clear hfz17_1
       try clear hfz17_2
       try clear hfz19_0
       try clear hfz19_1
       try clear hfz19_2
       try clear hfz27_0
       try clear hfz27_1
       try clear hfz27_2
       try clear hfz29_0
       try clear hfz29_1
       try clear hfz29_2
       try clear hfz31_0
       try clear hfz31_1
       try clear hfz31_2
       try clear hfz32_0
       try clear hfz32_1
       try clear hfz32_2
       try clear hfz34_0
       try clear hfz34_1
       try clear hfz34_2
       try clear hfz36_0
       try clear hfz36_1
       try clear hfz36_2
       obtain ⟨x8_1, x10_1, x50_1, rfl, rfl, HA, HK1, HO_8, BK122, BK123, HB⟩ := hrel
       cases gk with
       | zero => exact absurd HA.out (by simp [piece_Pieces.l0])
       | succ k1 =>
        have H := HA.out
        clear HA
        simp only [piece_Pieces.l0] at H
        by_cases c37 : x50_1 < (wrap64 ((wrap64 (a2_1 - t128)) + 1))
        ·rw [if_pos c37] at H
         have c37b0 : decide (x50_1 < (wrap64 ((wrap64 (a2_1 - t128)) + 1))) = true := decide_eq_true c37
         (try (have c37b1 : decide (x50_1 < (IntKind.i64.wrap ((IntKind.i64.wrap (a2_1 - t128)) + 1))) = true := by simp only [i64_w]; exact (decide_eq_true c37)))
         clear c37
         obtain ⟨ji38, hji38⟩ : ∃ j_ : Int, (wrap64 (t128 + x50_1)) = j_ := ⟨_, rfl⟩
         replace H : (if 0 ≤ (ji38) then (if (ji38) < (l0.length : Int) then (if (ji38) = a2_1 then (if 0 ≤ a2_2 then (if a2_2 ≤ (((rd_T41 l0 (ji38)).f0).length : Int) then ((some (((rd_T41 l0 (ji38)).f0).take (a2_2 : Int).toNat : List Int)).bind fun y131 => (if 0 ≤ x10_1 then (if x10_1 ≤ (y131.length : Int) then ((slices_Clone_int_int.f (y131.drop (x10_1 : Int).toNat)).bind fun t139 => (if x8_1.length < 5864062014805 then (piece_Pieces.l0 k1 l0 (x8_1 ++ [t139]) t128 0 (wrap64 ((wrap64 (a2_1 - t128)) + 1)) (wrap64 (x50_1 + 1)) a2_0 a2_1 a2_2) else (none))) else (none)) else (none))) else (none)) else (none)) else (if 0 ≤ x10_1 then (if x10_1 ≤ (((rd_T41 l0 (ji38)).f0).length : Int) then ((slices_Clone_int_int.f (((rd_T41 l0 (ji38)).f0).drop (x10_1 : Int).toNat)).bind fun t149 => (if x8_1.length < 5864062014805 then (piece_Pieces.l0 k1 l0 (x8_1 ++ [t149]) t128 0 (wrap64 ((wrap64 (a2_1 - t128)) + 1)) (wrap64 (x50_1 + 1)) a2_0 a2_1 a2_2) else (none))) else (none)) else (none))) else (none)) else (none)) = some (r1, r2) := by first | (rw [hji38] at H; exact H) | (simp only [hji38] at H ⊢; exact H)
         have hji38w : (IntKind.i64.wrap (t128 + x50_1)) = ji38 := (i64_w _).trans hji38
         by_cases c39 : 0 ≤ (ji38)
         ·rw [if_pos c39] at H
          have c39b0 : decide (0 ≤ (ji38)) = true := decide_eq_true c39
          clear c39
          by_cases c40 : (ji38) < (l0.length : Int)
          ·rw [if_pos c40] at H
           have c40b0 : decide ((ji38) < (l0.length : Int)) = true := decide_eq_true c40
           clear c40
           by_cases c41 : (ji38) = a2_1
           ·rw [if_pos c41] at H
            have c41b0 : ((ji38) == a2_1) = true := beq_iff_eq.mpr c41
            have c41b1 : ((ji38) != a2_1) = false := bne_eq_false_iff_eq.mpr c41
            clear c41
            by_cases c42 : 0 ≤ a2_2
            ·rw [if_pos c42] at H
             have c42b0 := eq_true c42
             have c42b1 : decide (0 ≤ a2_2) = true := decide_eq_true c42
             clear c42
             by_cases c43 : a2_2 ≤ (((rd_T41 l0 (ji38)).f0).length : Int)
             ·rw [if_pos c43] at H
              have c43b0 := eq_true c43
              have c43b1 : decide (a2_2 ≤ (((rd_T41 l0 (ji38)).f0).length : Int)) = true := decide_eq_true c43
              clear c43
              obtain ⟨y131, hy131⟩ : ∃ y_ : List Int, y_ = (((rd_T41 l0 (ji38)).f0).take (a2_2 : Int).toNat) := ⟨_, rfl⟩
              replace H : (if 0 ≤ x10_1 then (if x10_1 ≤ (y131.length : Int) then ((slices_Clone_int_int.f (y131.drop (x10_1 : Int).toNat)).bind fun t139 => (if x8_1.length < 5864062014805 then (piece_Pieces.l0 k1 l0 (x8_1 ++ [t139]) t128 0 (wrap64 ((wrap64 (a2_1 - t128)) + 1)) (wrap64 (x50_1 + 1)) a2_0 a2_1 a2_2) else (none))) else (none)) else (none)) = some (r1, r2) := by first | (rw [hy131]; with_reducible exact H) | (have H2_ := (Option.bind_some _ _).symm.trans H; rw [hy131]; with_reducible exact H2_) | (have H2_ := (Option.bind_some _ _).symm.trans H; with_reducible exact H2_) | with_reducible exact H | (rw [hy131]; exact H) | exact H
              have Ny131 := Aside0.mk hy131
              clear hy131
              by_cases c44 : 0 ≤ x10_1
              ·rw [if_pos c44] at H
               have c44b0 := eq_true c44
               have c44b1 : decide (0 ≤ x10_1) = true := decide_eq_true c44
               clear c44
               by_cases c45 : x10_1 ≤ (y131.length : Int)
               ·rw [if_pos c45] at H
                have c45b0 := eq_true c45
                have c45b1 : decide (x10_1 ≤ (y131.length : Int)) = true := decide_eq_true c45
                clear c45
                obtain ⟨y135, hy135⟩ : ∃ y_ : List Int, y_ = (y131.drop (x10_1 : Int).toNat) := ⟨_, rfl⟩
                replace H : ((slices_Clone_int_int.f y135).bind fun t139 => (if x8_1.length < 5864062014805 then (piece_Pieces.l0 k1 l0 (x8_1 ++ [t139]) t128 0 (wrap64 ((wrap64 (a2_1 - t128)) + 1)) (wrap64 (x50_1 + 1)) a2_0 a2_1 a2_2) else (none))) = some (r1, r2) := by first | (rw [hy135]; with_reducible exact H) | (have H2_ := (Option.bind_some _ _).symm.trans H; rw [hy135]; with_reducible exact H2_) | (have H2_ := (Option.bind_some _ _).symm.trans H; with_reducible exact H2_) | with_reducible exact H | (rw [hy135]; exact H) | exact H
                have Ny135 := Aside0.mk hy135
                clear hy135
                replace H := Option.bind_eq_some_iff.mp H
                obtain ⟨t139, A460, H⟩ := H
                replace H : (if x8_1.length < 5864062014805 then (piece_Pieces.l0 k1 l0 (x8_1 ++ [t139]) t128 0 (wrap64 ((wrap64 (a2_1 - t128)) + 1)) (wrap64 (x50_1 + 1)) a2_0 a2_1 a2_2) else (none)) = some (r1, r2) := H
                have A46 := Aside0.mk A460
                clear A460
                by_cases c47 : x8_1.length < 5864062014805
                ·rw [if_pos c47] at H
                 have LMc47 := Aside0.mk c47
                 clear c47
                 obtain ⟨y142, hy142⟩ : ∃ y_ : List (List Int), y_ = (x8_1 ++ [t139]) := ⟨_, rfl⟩
                 replace H : (piece_Pieces.l0 k1 l0 y142 t128 0 (wrap64 ((wrap64 (a2_1 - t128)) + 1)) (wrap64 (x50_1 + 1)) a2_0 a2_1 a2_2) = some (r1, r2) := by first | (rw [hy142]; with_reducible exact H) | (have H2_ := (Option.bind_some _ _).symm.trans H; rw [hy142]; with_reducible exact H2_) | (have H2_ := (Option.bind_some _ _).symm.trans H; with_reducible exact H2_) | with_reducible exact H | (rw [hy142]; exact H) | exact H
                 have Ny142 := Aside0.mk hy142
                 clear hy142
                 have H' := Aside0.mk H
                 clear H
                 have p130 : 0 ≤ ((ji38) : Int) := odt
                 have q130 : (ji38) < (l0.length : Int) := odt
                 obtain ⟨ad130, A130_0, c130_0, A130_1, c130_1, e130, hx130_0, hx130_1, hl130_0, hi130_0, hl130_1, hi130_1⟩ := at_T41 HR0.out (ji38) p130 q130
                 cases e130
                 replace hx130_0 := (HB.out.cell (World.block_lt_of_cell? w _ hx130_0)).trans hx130_0
                 replace hx130_1 := (HB.out.cell (World.block_lt_of_cell? w _ hx130_1)).trans hx130_1
                 have HR130_0 := Aside0.mk hi130_0
                 have HC130_0 := Aside0.mk hl130_0
                 clear hi130_0 hl130_0
                 have HR130_1 := Aside0.mk hi130_1
                 have HC130_1 := Aside0.mk hl130_1
                 clear hi130_1 hl130_1
                 replace p130 := eq_true p130
                 replace q130 := eq_true q130
                 have hnb48 := NB123_122.out
                 have hnc48 := NB122_123.out
                 have hcz49_0 : wr.cell? ⟨gb123, 0, none⟩ = some (.int .i64 a2_0) := (blk_cell BK123.out 0).trans rfl
                 have hcz49_1 : wr.cell? ⟨gb123, 1, none⟩ = some (.int .i64 a2_1) := (blk_cell BK123.out 1).trans rfl
                 have hcz49_2 : wr.cell? ⟨gb123, 2, none⟩ = some (.int .i64 a2_2) := (blk_cell BK123.out 2).trans rfl
                 have hfz49_0 := blk_frozen BK123.out 0
                 have hfz49_1 := blk_frozen BK123.out 1
                 have hfz49_2 := blk_frozen BK123.out 2
                 have q50 : (a2_2 : Int) ≤ ((((rd_T41 l0 (ji38)).f0).length : Int) : Int) := odt
                 obtain ⟨i050, hi050, _, hsz50, _⟩ := info_parts info3
                 have hroom50 : ((rd_T41 l0 (ji38)).f0).length ≤ c130_0 := HC130_0.out
                 have hC50 : Kd.C (Kd.int .i64) _ A130_0 ((rd_T41 l0 (ji38)).f0).length ((rd_T41 l0 (ji38)).f0) := HR130_0.out
                 have hcut50 := cut_to (P := Try.prog) 36 3 .i64 Try.underlying36 hi050 A130_0 ((rd_T41 l0 (ji38)).f0).length c130_0 a2_2 (odt) q50 hroom50
                 have hr50 := Kd.C_take (m := (a2_2 : Int).toNat) hC50 (by omega)
                 have hy50 : y131.length = (a2_2 : Int).toNat := (by rw [Ny131.out, List.length_take]; omega)
                 rw [← Ny131.out] at hr50
                 rw [← hy50] at hcut50
                 have HR134 := Aside0.mk hr50
                 have HC134 := Aside0.mk (show y131.length ≤ c130_0 from by omega)
                 clear hr50 hC50 hroom50 hi050 hsz50
                 have KY50 := Aside0.mk hy50
                 clear hy50
                 replace q50 := eq_true q50
                 have q51 : (x10_1 : Int) ≤ ((y131.length : Int) : Int) := odt
                 obtain ⟨i051, hi051, _, hsz51, _⟩ := info_parts info3
                 have hroom51 : y131.length ≤ c130_0 := HC134.out
                 have hC51 : Kd.C (Kd.int .i64) _ A130_0 y131.length y131 := HR134.out
                 have q051 : (0 : Int) ≤ (x10_1 : Int) := odt
                 have hcut51 := cut_from (P := Try.prog) 36 3 .i64 Try.underlying36 hi051 1 hsz51 A130_0 y131.length c130_0 x10_1 q051 q51
                 have hr51 := Kd.C_drop (m := (x10_1 : Int).toNat) (c := c130_0) hC51 (by omega) hroom51
                 obtain ⟨A51, hA51⟩ : ∃ A1, A1 = (if c130_0 = (x10_1 : Int).toNat then A130_0 else (A130_0 : Option Addr).map (·.add ((x10_1 : Int).toNat * 1))) := ⟨_, rfl⟩
                 obtain ⟨c51, hc51⟩ : ∃ c1, c1 = c130_0 - (x10_1 : Int).toNat := ⟨_, rfl⟩
                 have hy51 : y135.length = y131.length - (x10_1 : Int).toNat := (by rw [Ny135.out, List.length_drop] <;> omega)
                 rw [show (y131).drop (x10_1 : Int).toNat = y135 from Ny135.out.symm] at hr51
                 replace hr51 : Kd.C (Kd.int .i64) _ A51 y135.length y135 := (by rw [hA51]; exact hr51)
                 rw [← hy51, ← hA51, ← hc51] at hcut51
                 have HR138 := Aside0.mk hr51
                 have HC138 := Aside0.mk (show y135.length ≤ c51 from by rw [hy51, hc51]; exact Nat.sub_le_sub_right hroom51 _)
                 clear hr51 hC51 hroom51 hi051 hsz51 hc51
                 have KY51 := Aside0.mk hy51
                 have KA51 := Aside0.mk hA51
                 clear hy51 hA51
                 replace q51 := eq_true q51
                 go_wp2_with (first | ((with_reducible refine gate_callee (f := 18) rfl ?_); refine goesL_ (some 74) rfl rfl Try.func18 (by kernel_rfl) rfl #[.slice A51 y135.length c51] rfl (by (try simp only [List.map_toArray, List.map_cons, List.map_nil]); first | done | rfl | (simp only [List.length_drop, List.length_take]; rfl)) ?_; (with_reducible refine (slices_Clone_int_int.calls _ _ y135 t139 _ ?side1 ?side2 A46.out).mono ?_); (case side1 => repeat (first | exact (Kd.C_below HR138.out HB.out) | (with_reducible refine Kd.C_alloc ?_ _) | (with_reducible refine Kd.C_drewN ?_ _) | (with_reducible refine Kd.C_drew ?_))); (case side2 => exact HC138.out); rintro e w52 ⟨v140, rfl, ho0, hb⟩; refine ⟨_, rfl, ?_⟩; have n0_ := Aside0.mk (Kd.S_elder' (by (with_reducible repeat (first | apply Kd.S_alloc | apply Kd.S_drewN | apply Kd.S_drew)); exact HO_8.out) (Kd.R_base ho0) hb); have n1_ := Aside0.mk (Kd.R_lower ho0 (below_size (by repeat (first | (with_reducible first | exact HB.out | apply below_alloc | apply pw_below_drewN | apply below_drew1 | refine below_set ?_ GE122.out | refine below_set ?_ GE123.out) | exact HB.out)))); have n2_ := Aside0.mk (blk_below (g := gb122) (o := .cells #[.int .i64 a1_0, .int .i64 a1_1, .int .i64 a1_2] 24 (0, 0)) (by (with_reducible repeat (first | refine blk_drewN ?_ _ | refine blk_drew ?_ | refine blk_alloc ?_ _)); exact BK122.out) hb); have n3_ := Aside0.mk (blk_below (g := gb123) (o := .cells #[.int .i64 a2_0, .int .i64 a2_1, .int .i64 a2_2] 24 (0, 0)) (by (with_reducible repeat (first | refine blk_drewN ?_ _ | refine blk_drew ?_ | refine blk_alloc ?_ _)); exact BK123.out) hb); have n4_ := Aside0.mk (below_step (by repeat (first | (with_reducible first | exact HB.out | apply below_alloc | apply pw_below_drewN | apply below_drew1 | refine below_set ?_ GE122.out | refine below_set ?_ GE123.out) | exact HB.out)) hb); clear HO_8; clear BK122; clear BK123; clear HB; have HO_8 := n0_; have HO141 := n1_; have BK122 := n2_; have BK123 := n3_; have HB := n4_; clear n0_ n1_ n2_ n3_ n4_; (try clear hb); (try clear hb2); (try clear hk); (try clear hi); (try clear ho0); obtain ⟨Ao54, co54, eo54⟩ := Kd.R_slice HO141.out; subst eo54) | ((with_reducible refine gate_builtin (b := .append) (xs := #[.tmp 70, .tmp 75]) rfl ?_); at_builtin; refine Kd.S_append (Kd.slice 3 (Kd.int .i64)) (w0 := w) w.heap.size rfl (.tmp 70) (.tmp 75) 27 36 (.slice none 0 0) 24 rfl Try.underlying27 info36 rfl (by decide) (by omega) u8 x8_1 t139 [.slice Ao54 t139.length co54] (fun _ => True) (fun k_ => some k_ = (.slice Ao54 t139.length co54 : Value).ownBlock) rfl rfl ?aP (fun k_ hk_ => ((Kd.R_mono (ok' := fun k_ => ((fun _ => True)) k_ ∧ some k_ ≠ (u8 : Value).ownBlock) (Kd.R_apart' (HO141.out) (Kd.S_typed HO_8.out) (by decide)) (fun k_ hk => ⟨trivial, hk.2⟩))).1 k_ hk_.symm) ?aF ?aO ?aB ?aS ?aL ?_; (case aP => exact Kd.M_row (Kd.R_mono (Kd.R_tight rfl (Kd.R_mono (ok' := fun k_ => ((fun _ => True)) k_ ∧ some k_ ≠ (u8 : Value).ownBlock) (Kd.R_apart' (HO141.out) (Kd.S_typed HO_8.out) (by decide)) (fun k_ hk => ⟨trivial, hk.2⟩))) (fun _ h_ => h_))); (case aB => exact (by repeat (first | (with_reducible first | exact HB.out | apply below_alloc | apply pw_below_drewN | apply below_drew1 | refine below_set ?_ GE122.out | refine below_set ?_ GE123.out) | exact HB.out))); (case aF => exact (fun _ _ => trivial)); (case aO => exact (by (with_reducible repeat (first | apply Kd.S_alloc | apply Kd.S_drewN | apply Kd.S_drew)); exact Kd.S_mono HO_8.out (fun k_ hk => ⟨trivial, fun e_ => hk.2 e_⟩))); (case aS => exact (below_size (by repeat (first | (with_reducible first | exact HB.out | apply below_alloc | apply pw_below_drewN | apply below_drew1 | refine below_set ?_ GE122.out | refine below_set ?_ GE123.out) | exact HB.out)))); (case aL => have := LMc47.out; omega); intro v143 w53 ho hb hg hat; rw [← Ny142.out] at ho; have n0_ := Aside0.mk (blk_grown (g := gb122) (o := .cells #[.int .i64 a1_0, .int .i64 a1_1, .int .i64 a1_2] 24 (0, 0)) (by (with_reducible repeat (first | refine blk_drewN ?_ _ | refine blk_drew ?_ | refine blk_alloc ?_ _)); exact BK122.out) hg (Kd.S_ne HO_8.out BK122.out (by decide))); have n1_ := Aside0.mk (blk_grown (g := gb123) (o := .cells #[.int .i64 a2_0, .int .i64 a2_1, .int .i64 a2_2] 24 (0, 0)) (by (with_reducible repeat (first | refine blk_drewN ?_ _ | refine blk_drew ?_ | refine blk_alloc ?_ _)); exact BK123.out) hg (Kd.S_ne HO_8.out BK123.out (by decide))); have n2_ := Aside0.mk (hb); have n3_ := Aside0.mk (ho); clear BK122; clear BK123; clear HB; clear HO_8; clear HO141; have BK122 := n0_; have BK123 := n1_; have HB := n2_; have HO144 := n3_; clear n0_ n1_ n2_ n3_; clear ho hb hg hat))
                 go_roundg k1
                 case measure => have := HK1.out; omega
                 case rel => exact ⟨(y142), (0), (wrap64 (x50_1 + 1)), (by first | rfl | (simp; done) | (simp [*]; done)), (by first | rfl | (simp; done) | (simp [*]; done)), H', ⟨by have := HK1.out; omega⟩, ⟨by (with_reducible repeat (first | apply Kd.S_alloc | apply Kd.S_drewN | apply Kd.S_drew)); exact HO144.out⟩, ⟨by (with_reducible repeat (first | refine blk_drewN ?_ _ | refine blk_drew ?_ | refine blk_alloc ?_ _)); exact BK122.out⟩, ⟨by (with_reducible repeat (first | refine blk_drewN ?_ _ | refine blk_drew ?_ | refine blk_alloc ?_ _)); exact BK123.out⟩, ⟨by repeat (first | (with_reducible first | exact HB.out | apply below_alloc | apply pw_below_drewN | apply below_drew1 | refine below_set ?_ GE122.out | refine below_set ?_ GE123.out) | exact HB.out)⟩⟩
                ·rw [if_neg c47] at H
                 exact absurd H (by simp)
               ·rw [if_neg c45] at H
                exact absurd H (by simp)
              ·rw [if_neg c44] at H
               exact absurd H (by simp)
             ·rw [if_neg c43] at H
              exact absurd H (by simp)
            ·rw [if_neg c42] at H
             exact absurd H (by simp)
           ·rw [if_neg c41] at H
            have c41b0 : ((ji38) == a2_1) = false := beq_eq_false_iff_ne.mpr c41
            have c41b1 : ((ji38) != a2_1) = true := bne_iff_ne.mpr c41
            by_cases c55 : 0 ≤ x10_1
            ·rw [if_pos c55] at H
             have c55b0 := eq_true c55
             have c55b1 : decide (0 ≤ x10_1) = true := decide_eq_true c55
             clear c55
             by_cases c56 : x10_1 ≤ (((rd_T41 l0 (ji38)).f0).length : Int)
             ·rw [if_pos c56] at H
              have c56b0 := eq_true c56
              have c56b1 : decide (x10_1 ≤ (((rd_T41 l0 (ji38)).f0).length : Int)) = true := decide_eq_true c56
              clear c56
              obtain ⟨y145, hy145⟩ : ∃ y_ : List Int, y_ = (((rd_T41 l0 (ji38)).f0).drop (x10_1 : Int).toNat) := ⟨_, rfl⟩
              replace H : ((slices_Clone_int_int.f y145).bind fun t149 => (if x8_1.length < 5864062014805 then (piece_Pieces.l0 k1 l0 (x8_1 ++ [t149]) t128 0 (wrap64 ((wrap64 (a2_1 - t128)) + 1)) (wrap64 (x50_1 + 1)) a2_0 a2_1 a2_2) else (none))) = some (r1, r2) := by first | (rw [hy145]; with_reducible exact H) | (have H2_ := (Option.bind_some _ _).symm.trans H; rw [hy145]; with_reducible exact H2_) | (have H2_ := (Option.bind_some _ _).symm.trans H; with_reducible exact H2_) | with_reducible exact H | (rw [hy145]; exact H) | exact H
              have Ny145 := Aside0.mk hy145
              clear hy145
              replace H := Option.bind_eq_some_iff.mp H
              obtain ⟨t149, A570, H⟩ := H
              replace H : (if x8_1.length < 5864062014805 then (piece_Pieces.l0 k1 l0 (x8_1 ++ [t149]) t128 0 (wrap64 ((wrap64 (a2_1 - t128)) + 1)) (wrap64 (x50_1 + 1)) a2_0 a2_1 a2_2) else (none)) = some (r1, r2) := H
              have A57 := Aside0.mk A570
              clear A570
              by_cases c58 : x8_1.length < 5864062014805
              ·rw [if_pos c58] at H
               have LMc58 := Aside0.mk c58
               clear c58
               obtain ⟨y152, hy152⟩ : ∃ y_ : List (List Int), y_ = (x8_1 ++ [t149]) := ⟨_, rfl⟩
               replace H : (piece_Pieces.l0 k1 l0 y152 t128 0 (wrap64 ((wrap64 (a2_1 - t128)) + 1)) (wrap64 (x50_1 + 1)) a2_0 a2_1 a2_2) = some (r1, r2) := by first | (rw [hy152]; with_reducible exact H) | (have H2_ := (Option.bind_some _ _).symm.trans H; rw [hy152]; with_reducible exact H2_) | (have H2_ := (Option.bind_some _ _).symm.trans H; with_reducible exact H2_) | with_reducible exact H | (rw [hy152]; exact H) | exact H
               have Ny152 := Aside0.mk hy152
               clear hy152
               have H' := Aside0.mk H
               clear H
               have p130 : 0 ≤ ((ji38) : Int) := odt
               have q130 : (ji38) < (l0.length : Int) := odt
               obtain ⟨ad130, A130_0, c130_0, A130_1, c130_1, e130, hx130_0, hx130_1, hl130_0, hi130_0, hl130_1, hi130_1⟩ := at_T41 HR0.out (ji38) p130 q130
               cases e130
               replace hx130_0 := (HB.out.cell (World.block_lt_of_cell? w _ hx130_0)).trans hx130_0
               replace hx130_1 := (HB.out.cell (World.block_lt_of_cell? w _ hx130_1)).trans hx130_1
               have HR130_0 := Aside0.mk hi130_0
               have HC130_0 := Aside0.mk hl130_0
               clear hi130_0 hl130_0
               have HR130_1 := Aside0.mk hi130_1
               have HC130_1 := Aside0.mk hl130_1
               clear hi130_1 hl130_1
               replace p130 := eq_true p130
               replace q130 := eq_true q130
               have hnb59 := NB123_122.out
               have hnc59 := NB122_123.out
               have hcz60_0 : wr.cell? ⟨gb123, 0, none⟩ = some (.int .i64 a2_0) := (blk_cell BK123.out 0).trans rfl
               have hcz60_1 : wr.cell? ⟨gb123, 1, none⟩ = some (.int .i64 a2_1) := (blk_cell BK123.out 1).trans rfl
               have hcz60_2 : wr.cell? ⟨gb123, 2, none⟩ = some (.int .i64 a2_2) := (blk_cell BK123.out 2).trans rfl
               have hfz60_0 := blk_frozen BK123.out 0
               have hfz60_1 := blk_frozen BK123.out 1
               have hfz60_2 := blk_frozen BK123.out 2
               have q61 : (x10_1 : Int) ≤ ((((rd_T41 l0 (ji38)).f0).length : Int) : Int) := odt
               obtain ⟨i061, hi061, _, hsz61, _⟩ := info_parts info3
               have hroom61 : ((rd_T41 l0 (ji38)).f0).length ≤ c130_0 := HC130_0.out
               have hC61 : Kd.C (Kd.int .i64) _ A130_0 ((rd_T41 l0 (ji38)).f0).length ((rd_T41 l0 (ji38)).f0) := HR130_0.out
               have q061 : (0 : Int) ≤ (x10_1 : Int) := odt
               have hcut61 := cut_from (P := Try.prog) 36 3 .i64 Try.underlying36 hi061 1 hsz61 A130_0 ((rd_T41 l0 (ji38)).f0).length c130_0 x10_1 q061 q61
               have hr61 := Kd.C_drop (m := (x10_1 : Int).toNat) (c := c130_0) hC61 (by omega) hroom61
               obtain ⟨A61, hA61⟩ : ∃ A1, A1 = (if c130_0 = (x10_1 : Int).toNat then A130_0 else (A130_0 : Option Addr).map (·.add ((x10_1 : Int).toNat * 1))) := ⟨_, rfl⟩
               obtain ⟨c61, hc61⟩ : ∃ c1, c1 = c130_0 - (x10_1 : Int).toNat := ⟨_, rfl⟩
               have hy61 : y145.length = ((rd_T41 l0 (ji38)).f0).length - (x10_1 : Int).toNat := (by rw [Ny145.out, List.length_drop] <;> omega)
               rw [show ((rd_T41 l0 (ji38)).f0).drop (x10_1 : Int).toNat = y145 from Ny145.out.symm] at hr61
               replace hr61 : Kd.C (Kd.int .i64) _ A61 y145.length y145 := (by rw [hA61]; exact hr61)
               rw [← hy61, ← hA61, ← hc61] at hcut61
               have HR148 := Aside0.mk hr61
               have HC148 := Aside0.mk (show y145.length ≤ c61 from by rw [hy61, hc61]; exact Nat.sub_le_sub_right hroom61 _)
               clear hr61 hC61 hroom61 hi061 hsz61 hc61
               have KY61 := Aside0.mk hy61
               have KA61 := Aside0.mk hA61
               clear hy61 hA61
               replace q61 := eq_true q61
               go_wp2_with (first | ((with_reducible refine gate_callee (f := 18) rfl ?_); refine goesL_ (some 74) rfl rfl Try.func18 (by kernel_rfl) rfl #[.slice A61 y145.length c61] rfl (by (try simp only [List.map_toArray, List.map_cons, List.map_nil]); first | done | rfl | (simp only [List.length_drop, List.length_take]; rfl)) ?_; (with_reducible refine (slices_Clone_int_int.calls _ _ y145 t149 _ ?side1 ?side2 A57.out).mono ?_); (case side1 => repeat (first | exact (Kd.C_below HR148.out HB.out) | (with_reducible refine Kd.C_alloc ?_ _) | (with_reducible refine Kd.C_drewN ?_ _) | (with_reducible refine Kd.C_drew ?_))); (case side2 => exact HC148.out); rintro e w62 ⟨v150, rfl, ho0, hb⟩; refine ⟨_, rfl, ?_⟩; have n0_ := Aside0.mk (Kd.S_elder' (by (with_reducible repeat (first | apply Kd.S_alloc | apply Kd.S_drewN | apply Kd.S_drew)); exact HO_8.out) (Kd.R_base ho0) hb); have n1_ := Aside0.mk (Kd.R_lower ho0 (below_size (by repeat (first | (with_reducible first | exact HB.out | apply below_alloc | apply pw_below_drewN | apply below_drew1 | refine below_set ?_ GE122.out | refine below_set ?_ GE123.out) | exact HB.out)))); have n2_ := Aside0.mk (blk_below (g := gb122) (o := .cells #[.int .i64 a1_0, .int .i64 a1_1, .int .i64 a1_2] 24 (0, 0)) (by (with_reducible repeat (first | refine blk_drewN ?_ _ | refine blk_drew ?_ | refine blk_alloc ?_ _)); exact BK122.out) hb); have n3_ := Aside0.mk (blk_below (g := gb123) (o := .cells #[.int .i64 a2_0, .int .i64 a2_1, .int .i64 a2_2] 24 (0, 0)) (by (with_reducible repeat (first | refine blk_drewN ?_ _ | refine blk_drew ?_ | refine blk_alloc ?_ _)); exact BK123.out) hb); have n4_ := Aside0.mk (below_step (by repeat (first | (with_reducible first | exact HB.out | apply below_alloc | apply pw_below_drewN | apply below_drew1 | refine below_set ?_ GE122.out | refine below_set ?_ GE123.out) | exact HB.out)) hb); clear HO_8; clear BK122; clear BK123; clear HB; have HO_8 := n0_; have HO151 := n1_; have BK122 := n2_; have BK123 := n3_; have HB := n4_; clear n0_ n1_ n2_ n3_ n4_; (try clear hb); (try clear hb2); (try clear hk); (try clear hi); (try clear ho0); obtain ⟨Ao64, co64, eo64⟩ := Kd.R_slice HO151.out; subst eo64) | ((with_reducible refine gate_builtin (b := .append) (xs := #[.tmp 70, .tmp 75]) rfl ?_); at_builtin; refine Kd.S_append (Kd.slice 3 (Kd.int .i64)) (w0 := w) w.heap.size rfl (.tmp 70) (.tmp 75) 27 36 (.slice none 0 0) 24 rfl Try.underlying27 info36 rfl (by decide) (by omega) u8 x8_1 t149 [.slice Ao64 t149.length co64] (fun _ => True) (fun k_ => some k_ = (.slice Ao64 t149.length co64 : Value).ownBlock) rfl rfl ?aP (fun k_ hk_ => ((Kd.R_mono (ok' := fun k_ => ((fun _ => True)) k_ ∧ some k_ ≠ (u8 : Value).ownBlock) (Kd.R_apart' (HO151.out) (Kd.S_typed HO_8.out) (by decide)) (fun k_ hk => ⟨trivial, hk.2⟩))).1 k_ hk_.symm) ?aF ?aO ?aB ?aS ?aL ?_; (case aP => exact Kd.M_row (Kd.R_mono (Kd.R_tight rfl (Kd.R_mono (ok' := fun k_ => ((fun _ => True)) k_ ∧ some k_ ≠ (u8 : Value).ownBlock) (Kd.R_apart' (HO151.out) (Kd.S_typed HO_8.out) (by decide)) (fun k_ hk => ⟨trivial, hk.2⟩))) (fun _ h_ => h_))); (case aB => exact (by repeat (first | (with_reducible first | exact HB.out | apply below_alloc | apply pw_below_drewN | apply below_drew1 | refine below_set ?_ GE122.out | refine below_set ?_ GE123.out) | exact HB.out))); (case aF => exact (fun _ _ => trivial)); (case aO => exact (by (with_reducible repeat (first | apply Kd.S_alloc | apply Kd.S_drewN | apply Kd.S_drew)); exact Kd.S_mono HO_8.out (fun k_ hk => ⟨trivial, fun e_ => hk.2 e_⟩))); (case aS => exact (below_size (by repeat (first | (with_reducible first | exact HB.out | apply below_alloc | apply pw_below_drewN | apply below_drew1 | refine below_set ?_ GE122.out | refine below_set ?_ GE123.out) | exact HB.out)))); (case aL => have := LMc58.out; omega); intro v153 w63 ho hb hg hat; rw [← Ny152.out] at ho; have n0_ := Aside0.mk (blk_grown (g := gb122) (o := .cells #[.int .i64 a1_0, .int .i64 a1_1, .int .i64 a1_2] 24 (0, 0)) (by (with_reducible repeat (first | refine blk_drewN ?_ _ | refine blk_drew ?_ | refine blk_alloc ?_ _)); exact BK122.out) hg (Kd.S_ne HO_8.out BK122.out (by decide))); have n1_ := Aside0.mk (blk_grown (g := gb123) (o := .cells #[.int .i64 a2_0, .int .i64 a2_1, .int .i64 a2_2] 24 (0, 0)) (by (with_reducible repeat (first | refine blk_drewN ?_ _ | refine blk_drew ?_ | refine blk_alloc ?_ _)); exact BK123.out) hg (Kd.S_ne HO_8.out BK123.out (by decide))); have n2_ := Aside0.mk (hb); have n3_ := Aside0.mk (ho); clear BK122; clear BK123; clear HB; clear HO_8; clear HO151; have BK122 := n0_; have BK123 := n1_; have HB := n2_; have HO154 := n3_; clear n0_ n1_ n2_ n3_; clear ho hb hg hat))
               go_roundg k1
               case measure => have := HK1.out; omega
               case rel => exact ⟨(y152), (0), (wrap64 (x50_1 + 1)), (by first | rfl | (simp; done) | (simp [*]; done)), (by first | rfl | (simp; done) | (simp [*]; done)), H', ⟨by have := HK1.out; omega⟩, ⟨by (with_reducible repeat (first | apply Kd.S_alloc | apply Kd.S_drewN | apply Kd.S_drew)); exact HO154.out⟩, ⟨by (with_reducible repeat (first | refine blk_drewN ?_ _ | refine blk_drew ?_ | refine blk_alloc ?_ _)); exact BK122.out⟩, ⟨by (with_reducible repeat (first | refine blk_drewN ?_ _ | refine blk_drew ?_ | refine blk_alloc ?_ _)); exact BK123.out⟩, ⟨by repeat (first | (with_reducible first | exact HB.out | apply below_alloc | apply pw_below_drewN | apply below_drew1 | refine below_set ?_ GE122.out | refine below_set ?_ GE123.out) | exact HB.out)⟩⟩
              ·rw [if_neg c58] at H
               exact absurd H (by simp)
             ·rw [if_neg c56] at H
              exact absurd H (by simp)
            ·rw [if_neg c55] at H
             exact absurd H (by simp)
          ·rw [if_neg c40] at H
           exact absurd H (by simp)
         ·rw [if_neg c39] at H
          exact absurd H (by simp)
        ·rw [if_neg c37] at H
         have c37b0 : decide (x50_1 < (wrap64 ((wrap64 (a2_1 - t128)) + 1))) = false := decide_eq_false c37
         (try (have c37b1 : decide (x50_1 < (IntKind.i64.wrap ((IntKind.i64.wrap (a2_1 - t128)) + 1))) = false := by simp only [i64_w]; exact (decide_eq_false c37)))
         clear c37
         replace H := Option.bind_eq_some_iff.mp H
         obtain ⟨t155, A650, H⟩ := H
         replace H : (if t155 = true then (if 0 ≤ (wrap64 ((x8_1.length : Int) - 1)) then (if (wrap64 ((x8_1.length : Int) - 1)) < (x8_1.length : Int) then (if (rd_L1 x8_1 (wrap64 ((x8_1.length : Int) - 1))).length < 17592186044416 then (some ((x8_1.set ((wrap64 ((x8_1.length : Int) - 1)) : Int).toNat ((rd_L1 x8_1 (wrap64 ((x8_1.length : Int) - 1))) ++ [45])), 0)) else (none)) else (none)) else (none)) else (some (x8_1, 0))) = some (r1, r2) := H
         have A65 := Aside0.mk A650
         clear A650
         by_cases c66 : t155 = true
         ·subst c66
          have H1 : (if 0 ≤ (wrap64 ((x8_1.length : Int) - 1)) then (if (wrap64 ((x8_1.length : Int) - 1)) < (x8_1.length : Int) then (if (rd_L1 x8_1 (wrap64 ((x8_1.length : Int) - 1))).length < 17592186044416 then (some ((x8_1.set ((wrap64 ((x8_1.length : Int) - 1)) : Int).toNat ((rd_L1 x8_1 (wrap64 ((x8_1.length : Int) - 1))) ++ [45])), 0)) else (none)) else (none)) else (none)) = some (r1, r2) := by rw [if_pos rfl] at H; exact H
          clear H
          have H := H1
          clear H1
          obtain ⟨ji67, hji67⟩ : ∃ j_ : Int, (wrap64 ((x8_1.length : Int) - 1)) = j_ := ⟨_, rfl⟩
          replace H : (if 0 ≤ (ji67) then (if (ji67) < (x8_1.length : Int) then (if (rd_L1 x8_1 (ji67)).length < 17592186044416 then (some ((x8_1.set ((ji67) : Int).toNat ((rd_L1 x8_1 (ji67)) ++ [45])), 0)) else (none)) else (none)) else (none)) = some (r1, r2) := by first | (rw [hji67] at H; exact H) | (simp only [hji67] at H ⊢; exact H)
          (try rw [hji67] at A65)
          have hji67w : (IntKind.i64.wrap ((x8_1.length : Int) - 1)) = ji67 := (i64_w _).trans hji67
          by_cases c68 : 0 ≤ (ji67)
          ·rw [if_pos c68] at H
           have c68b0 : decide (0 ≤ (ji67)) = true := decide_eq_true c68
           clear c68
           by_cases c69 : (ji67) < (x8_1.length : Int)
           ·rw [if_pos c69] at H
            have c69b0 : decide ((ji67) < (x8_1.length : Int)) = true := decide_eq_true c69
            clear c69
            by_cases c70 : (rd_L1 x8_1 (ji67)).length < 17592186044416
            ·rw [if_pos c70] at H
             have LMc70 := Aside0.mk c70
             clear c70
             obtain ⟨y157, hy157⟩ : ∃ y_ : List Int, y_ = ((rd_L1 x8_1 (ji67)) ++ [45]) := ⟨_, rfl⟩
             replace H : (some ((x8_1.set ((ji67) : Int).toNat y157), 0)) = some (r1, r2) := by first | (rw [hy157]; with_reducible exact H) | (have H2_ := (Option.bind_some _ _).symm.trans H; rw [hy157]; with_reducible exact H2_) | (have H2_ := (Option.bind_some _ _).symm.trans H; with_reducible exact H2_) | with_reducible exact H | (rw [hy157]; exact H) | exact H
             have Ny157 := Aside0.mk hy157
             clear hy157
             obtain ⟨y160, hy160⟩ : ∃ y_ : List (List Int), y_ = (x8_1.set ((ji67) : Int).toNat y157) := ⟨_, rfl⟩
             replace H : (some (y160, 0)) = some (r1, r2) := by first | (rw [hy160]; with_reducible exact H) | (have H2_ := (Option.bind_some _ _).symm.trans H; rw [hy160]; with_reducible exact H2_) | (have H2_ := (Option.bind_some _ _).symm.trans H; with_reducible exact H2_) | with_reducible exact H | (rw [hy160]; exact H) | exact H
             have Ny160 := Aside0.mk hy160
             clear hy160
             simp only [Option.some.injEq, Prod.mk.injEq] at H
             obtain ⟨rfl, rfl⟩ := H
             obtain ⟨Ao72, co72, eo72⟩ := Kd.S_slice HO_8.out
             subst eo72
             have hnb73 := NB123_122.out
             have hnc73 := NB122_123.out
             have hcz74_0 : wr.cell? ⟨gb123, 0, none⟩ = some (.int .i64 a2_0) := (blk_cell BK123.out 0).trans rfl
             have hcz74_1 : wr.cell? ⟨gb123, 1, none⟩ = some (.int .i64 a2_1) := (blk_cell BK123.out 1).trans rfl
             have hcz74_2 : wr.cell? ⟨gb123, 2, none⟩ = some (.int .i64 a2_2) := (blk_cell BK123.out 2).trans rfl
             have hfz74_0 := blk_frozen BK123.out 0
             have hfz74_1 := blk_frozen BK123.out 1
             have hfz74_2 := blk_frozen BK123.out 2
             go_wp2_with (first | ((with_reducible refine gate_callee (f := 19) rfl ?_); refine goesL_ (some 83) rfl rfl Try.func19 (by kernel_rfl) rfl #[.int .i64 a2_0] rfl (by (try simp only [List.map_toArray, List.map_cons, List.map_nil]); first | done | rfl | (simp only [List.length_drop, List.length_take]; rfl)) ?_; (with_reducible refine (piece_hyphened.calls a2_0 true _ A65.out).mono ?_); rintro e w' ⟨rfl, ⟨nd, rfl⟩⟩; refine ⟨_, rfl, ?_⟩; (try (rw [drewN_self wr]; generalize hq_ : World.drewN wr _ = wr; have n0_ : Aside0 (Kd.S (Kd.slice 3 (Kd.int .i64)) 36 wr w.heap.size (fun _ => True) (.slice Ao72 x8_1.length co72) x8_1) := ⟨by rw [← hq_]; exact (by (with_reducible repeat (first | apply Kd.S_alloc | apply Kd.S_drewN | apply Kd.S_drew)); exact HO_8.out)⟩; have n1_ : Aside0 (wr.heap[gb122]? = some (.cells #[.int .i64 a1_0, .int .i64 a1_1, .int .i64 a1_2] 24 (0, 0))) := ⟨by rw [← hq_]; exact (by (with_reducible repeat (first | refine blk_drewN ?_ _ | refine blk_drew ?_ | refine blk_alloc ?_ _)); exact BK122.out)⟩; have n2_ : Aside0 (wr.heap[gb123]? = some (.cells #[.int .i64 a2_0, .int .i64 a2_1, .int .i64 a2_2] 24 (0, 0))) := ⟨by rw [← hq_]; exact (by (with_reducible repeat (first | refine blk_drewN ?_ _ | refine blk_drew ?_ | refine blk_alloc ?_ _)); exact BK123.out)⟩; have n3_ : Aside0 (Below w.heap.size w wr) := ⟨by rw [← hq_]; exact (by repeat (first | (with_reducible first | exact HB.out | apply below_alloc | apply pw_below_drewN | apply below_drew1 | refine below_set ?_ GE122.out | refine below_set ?_ GE123.out) | exact HB.out))⟩; clear HO_8 BK122 BK123 HB hq_; have HO_8 := n0_; have BK122 := n1_; have BK123 := n2_; have HB := n3_; clear n0_ n1_ n2_ n3_)); have p156 : 0 ≤ ((ji67) : Int) := odt; have q156 : (ji67) < (x8_1.length : Int) := odt; obtain ⟨ad156, A156_0, c156_0, e156, hx156_0, hl156_0, hi156_0⟩ := at_L1 (Kd.S_reads' HO_8.out).2.2 (ji67) p156 q156; cases e156; obtain ⟨ce156, hce156, hMe156, hcc156⟩ := Kd.S_get HO_8.out [] (ji67) p156 (by first | exact q156 | exact odt | (have e_ := (Kd.S_reads' HO_8.out).1; omega)); obtain ⟨ve156_0, rfl, ge156_0⟩ := hMe156; have hv156_0 := hcc156 0 _ rfl; rw [Nat.add_zero, show ((Kd.slice 3 (Kd.int .i64))).sz = 1 from rfl, Nat.mul_one] at hv156_0; replace hv156_0 := Option.some.inj (hv156_0.symm.trans hx156_0); rw [hv156_0] at ge156_0; have HL156_0 := Aside0.mk (show Kd.R (Kd.int .i64) 3 _ _ _ _ (rd_L1 x8_1 (ji67)) from ge156_0); clear hv156_0 ge156_0; have HX156_0 := Aside0.mk hx156_0; clear hcc156 hce156; have HR156_0 := Aside0.mk hi156_0; have HC156_0 := Aside0.mk hl156_0; clear hi156_0 hl156_0; replace p156 := eq_true p156; replace q156 := eq_true q156; obtain ⟨go75, co75, eo75, gb75, gl75, cl75, HG75⟩ := Kd.S_form HO_8.out (by have h_ : ((ji67) : Int) < ((x8_1.length : Int) : Int) := odt; have h2_ : 0 ≤ ((ji67) : Int) := (odt); omega); (first | cases eo75 | (injection eo75 with ea_ en_ ec_; (first | subst ea_ | (injection ea_ with ea_; subst ea_)); subst ec_; clear en_)); have GB75 := Aside0.mk gb75; have GG75 := Aside0.mk HG75; clear gb75 gl75 HG75; (first | simp only [add_plain] at hx156_0 | skip); obtain ⟨oki75, ce75, hcl75, hM75, hcc75, _, _, hH75⟩ := Kd.S_elem HO_8.out [] ((ji67) : Int) (odt) (by have h_ : ((ji67) : Int) < ((x8_1.length : Int) : Int) := odt; first | exact h_ | (have e_ := (Kd.S_reads' HO_8.out).1; omega) | simpa using h_); obtain ⟨ve75_0, rfl, ge75_0⟩ := hM75; have hv75 := hcc75 0 _ rfl; have hX75 := HX156_0.out; (try simp only [add_plain] at hX75); (try simp only [Nat.add_zero] at hv75); (try rw [show ((Kd.slice 3 (Kd.int .i64))).sz = 1 from rfl, Nat.mul_one] at hv75); replace hv75 := Option.some.inj (hv75.symm.trans hX75); subst hv75; clear hX75 hcc75 hcl75; have UU75 := Aside0.mk (show Kd.R (Kd.int .i64) 3 _ w.heap.size oki75 (.slice A156_0 (rd_L1 x8_1 (ji67)).length c156_0) (rd_L1 x8_1 (ji67)) from ge75_0); have HH75 := Aside0.mk hH75; have HN75 := Aside0.mk (Kd.S_reads' HO_8.out).1; clear hH75 ge75_0) | ((with_reducible refine gate_builtin (b := .append) (xs := #[.tmp 89, .tmp 90]) rfl ?_); at_builtin; refine Kd.R_append (Kd.int .i64) (w0 := w) w.heap.size rfl (.tmp 89) (.tmp 90) 36 3 (.int .i64 0) 8 rfl Try.underlying36 info3 rfl (by decide) (by omega) (.slice A156_0 (rd_L1 x8_1 (ji67)).length c156_0) (rd_L1 x8_1 (ji67)) 45 [.int .i64 45] (fun k_ => oki75 k_ ∨ ((fun _ => True)) k_ ∧ wr.heap.size ≤ k_) (fun _ => False) rfl rfl ?aP (fun _ hk => hk.elim) ?aF ?aO ?aB ?aS ?aL ?_; (case aP => exact rfl); (case aB => exact (by repeat (first | (with_reducible first | exact HB.out | apply below_alloc | apply pw_below_drewN | apply below_drew1 | refine below_set ?_ GE122.out | refine below_set ?_ GE123.out) | exact HB.out))); (case aF => exact (fun k_ hk => .inr ⟨trivial, hk⟩)); (case aO => exact (by (with_reducible repeat (first | apply Kd.R_alloc | apply Kd.R_drewN | apply Kd.R_drew)); exact Kd.R_mono UU75.out (fun _ hk => .inl hk))); (case aS => exact (below_size (by repeat (first | (with_reducible first | exact HB.out | apply below_alloc | apply pw_below_drewN | apply below_drew1 | refine below_set ?_ GE122.out | refine below_set ?_ GE123.out) | exact HB.out)))); (case aL => have := LMc70.out; omega); intro v158 w76 ho hb hg hat; rw [← Ny157.out] at ho; have n0_ := Aside0.mk (blk_grown (g := gb122) (o := .cells #[.int .i64 a1_0, .int .i64 a1_1, .int .i64 a1_2] 24 (0, 0)) (by (with_reducible repeat (first | refine blk_drewN ?_ _ | refine blk_drew ?_ | refine blk_alloc ?_ _)); exact BK122.out) hg (Kd.R_ne HL156_0.out BK122.out (by decide))); have n1_ := Aside0.mk (blk_grown (g := gb123) (o := .cells #[.int .i64 a2_0, .int .i64 a2_1, .int .i64 a2_2] 24 (0, 0)) (by (with_reducible repeat (first | refine blk_drewN ?_ _ | refine blk_drew ?_ | refine blk_alloc ?_ _)); exact BK123.out) hg (Kd.R_ne HL156_0.out BK123.out (by decide))); have n2_ := Aside0.mk (hb); have n3_ := Aside0.mk (Kd.H_grown (Kd.H_widen (by repeat (first | exact HH75.out | refine Kd.H_alloc ?_ _ | refine Kd.H_drewN ?_ _ | refine Kd.H_drew ?_))) hg (fun k_ e_ => .inl (UU75.out.1 k_ e_))); have n4_ := Aside0.mk (ho); clear BK122; clear BK123; clear HB; clear HH75; clear HO_8; clear UU75; clear HL156_0; have BK122 := n0_; have BK123 := n1_; have HB := n2_; have HH75 := n3_; have HO159 := n4_; clear n0_ n1_ n2_ n3_ n4_; clear ho hb hg hat; have p71 : 0 ≤ ((ji67) : Int) := odt; have q71 : ((ji67) : Int) < ((x8_1.length : Int) : Int) := odt; replace p71 := eq_true p71; replace q71 := eq_true q71; obtain ⟨Ao79, co79, eo79⟩ := Kd.R_slice HO159.out; subst eo79; obtain ⟨_, _, hraw77, _, _, hcc77, _⟩ := Kd.H_raw HH75.out (odt) (by have h_ : ((ji67) : Int) < ((x8_1.length : Int) : Int) := odt; first | exact h_ | (have e_ := (HN75.out); omega) | simpa using h_); obtain ⟨_, hfr77⟩ := Kd.H_at HH75.out (odt) (by have h_ : ((ji67) : Int) < ((x8_1.length : Int) : Int) := odt; first | exact h_ | (have e_ := (HN75.out); omega) | simpa using h_); have hx77_0 := hcc77 0 _ rfl; have hf77_0 := hfr77 0; (try simp only [Nat.add_zero] at hx77_0 hf77_0); (try rw [show ((Kd.slice 3 (Kd.int .i64))).sz = 1 from rfl, Nat.mul_one] at hx77_0); (try rw [show ((Kd.slice 3 (Kd.int .i64))).sz = 1 from rfl, Nat.mul_one] at hf77_0); have HP77 := Kd.S_seg0 HH75.out (odt) (by have h_ : ((ji67) : Int) < ((x8_1.length : Int) : Int) := odt; first | exact h_ | (have e_ := (HN75.out); omega) | simpa using h_) (seg := [.slice Ao79 y157.length co79]) (j := 0) (show 1 ≤ 1 from by decide) (x' := y157) (Kd.M_row HO159.out) (fun _ hk => hk); (try simp only [show ((Kd.slice 3 (Kd.int .i64))).sz = 1 from rfl, Nat.mul_one, Nat.add_zero] at HP77); clear hcc77 hfr77) | ((with_reducible refine gate_store (t := 36) (p := 92) rfl ?_); refine store_event (t := 36) (p := 92) (v := ?vo_w78) (w1 := (w76.setCell ⟨go75, ((ji67) : Int).toNat, none⟩ (.slice Ao79 y157.length co79))) ?hg ?ho ?hn ?hr ?_; (case ho => rfl); (case hg => rfl); (case hn => rfl); (case hr => first | (go_simp; done) | (go_simp; rfl)); intro w78 hw; have hg : w76.grownBy w78 (some go75) := (by rw [hw]; exact HP77.2); have hp_ : Kd.S (Kd.slice 3 (Kd.int .i64)) 36 w78 w.heap.size (fun _ => True) (.slice (some ⟨go75, 0, none⟩) x8_1.length co72) y160 := (by rw [hw, Ny160.out]; exact HP77.1); clear HP77; have n0_ := Aside0.mk (blk_grown (g := gb122) (o := .cells #[.int .i64 a1_0, .int .i64 a1_1, .int .i64 a1_2] 24 (0, 0)) (by (with_reducible repeat (first | refine blk_drewN ?_ _ | refine blk_drew ?_ | refine blk_alloc ?_ _)); exact BK122.out) hg (Kd.R_ne hraw77 BK122.out (by decide))); have n1_ := Aside0.mk (blk_grown (g := gb123) (o := .cells #[.int .i64 a2_0, .int .i64 a2_1, .int .i64 a2_2] 24 (0, 0)) (by (with_reducible repeat (first | refine blk_drewN ?_ _ | refine blk_drew ?_ | refine blk_alloc ?_ _)); exact BK123.out) hg (Kd.R_ne hraw77 BK123.out (by decide))); have n2_ := Aside0.mk ((by rw [hw]; exact below_set HB.out GB75.out : Below w.heap.size w w78)); have n3_ := Aside0.mk (hp_); clear BK122; clear BK123; clear HB; clear HO159; clear HH75; have BK122 := n0_; have BK123 := n1_; have HB := n2_; have HO_8 := n3_; clear n0_ n1_ n2_ n3_; clear hg hw hp_ hraw77))
             go_ret2
             exact ⟨_, by first | rfl | (simp [errW_none, errW_some] <;> rfl) | (simp only [← hji67]; first | rfl | (simp [errW_none, errW_some] <;> rfl)) | (simp [*, errW_none, errW_some] <;> rfl), by (with_reducible repeat (first | apply Kd.S_alloc | apply Kd.S_drewN | apply Kd.S_drew)); exact HO_8.out, by repeat (first | (with_reducible first | exact HB.out | apply below_alloc | apply pw_below_drewN | apply below_drew1 | refine below_set ?_ GE122.out | refine below_set ?_ GE123.out) | exact HB.out)⟩
            ·rw [if_neg c70] at H
             exact absurd H (by simp)
           ·rw [if_neg c69] at H
            exact absurd H (by simp)
          ·rw [if_neg c68] at H
           exact absurd H (by simp)
         ·replace c66 := Bool.eq_false_iff.mpr c66
          subst c66
          have H1 : (some (x8_1, 0)) = some (r1, r2) := by rw [if_neg (show ¬ (false = true) by decide)] at H; exact H
          clear H
          have H := H1
          clear H1
          simp only [Option.some.injEq, Prod.mk.injEq] at H
          obtain ⟨rfl, rfl⟩ := H
          obtain ⟨Ao80, co80, eo80⟩ := Kd.S_slice HO_8.out
          subst eo80
          have hnb81 := NB123_122.out
          have hnc81 := NB122_123.out
          have hcz82_0 : wr.cell? ⟨gb123, 0, none⟩ = some (.int .i64 a2_0) := (blk_cell BK123.out 0).trans rfl
          have hcz82_1 : wr.cell? ⟨gb123, 1, none⟩ = some (.int .i64 a2_1) := (blk_cell BK123.out 1).trans rfl
          have hcz82_2 : wr.cell? ⟨gb123, 2, none⟩ = some (.int .i64 a2_2) := (blk_cell BK123.out 2).trans rfl
          have hfz82_0 := blk_frozen BK123.out 0
          have hfz82_1 := blk_frozen BK123.out 1
          have hfz82_2 := blk_frozen BK123.out 2
          go_wp2_with (first | ((with_reducible refine gate_callee (f := 19) rfl ?_); refine goesL_ (some 83) rfl rfl Try.func19 (by kernel_rfl) rfl #[.int .i64 a2_0] rfl (by (try simp only [List.map_toArray, List.map_cons, List.map_nil]); first | done | rfl | (simp only [List.length_drop, List.length_take]; rfl)) ?_; (with_reducible refine (piece_hyphened.calls a2_0 false _ A65.out).mono ?_); rintro e w' ⟨rfl, ⟨nd, rfl⟩⟩; refine ⟨_, rfl, ?_⟩))
          go_ret2
          exact ⟨_, by first | rfl | (simp [errW_none, errW_some] <;> rfl) | (simp [*, errW_none, errW_some] <;> rfl), by (with_reducible repeat (first | apply Kd.S_alloc | apply Kd.S_drewN | apply Kd.S_drew)); exact HO_8.out, by repeat (first | (with_reducible first | exact HB.out | apply below_alloc | apply pw_below_drewN | apply below_drew1 | refine below_set ?_ GE122.out | refine below_set ?_ GE123.out) | exact HB.out)⟩
     ·replace c21 := Bool.eq_false_iff.mpr c21
      subst c21
      have H1 : (some (([] : List (List Int)), 1)) = some (r1, r2) := by rw [if_neg (show ¬ (false = true) by decide)] at H; exact H
      clear H
      have H := H1
      clear H1
      simp only [Option.some.injEq, Prod.mk.injEq] at H
      obtain ⟨rfl, rfl⟩ := H
      go_enter Try.func8, Try.ntmps8
      have tk_ : True := trivial
      go_wp2_with (first | ((with_reducible refine gate_dst (N := 4) rfl ?_); refine box_event ?hg (N := 4) ?hd (cs := #[.int .i64 a1_0, .int .i64 a1_1, .int .i64 a1_2]) (t := 24) ?hr ?_; (case hd => rfl); (case hg => rfl); (case hr => first | (go_simp; done) | (go_simp; rfl)); intro gb122 hg w83 hbox hb; have n0_ := Aside0.mk (below_step (by repeat (first | (with_reducible first | exact HB.out | apply below_alloc | apply pw_below_drewN | apply below_drew1) | exact HB.out)) hb); have n1_ := Aside0.mk (hbox); have n2_ := Aside0.mk ((by rw [hg]; exact (below_size (by repeat (first | (with_reducible first | exact HB.out | apply below_alloc | apply pw_below_drewN | apply below_drew1) | exact HB.out))) : w.heap.size ≤ gb122)); have n3_ := Aside0.mk ((by rw [hg]; exact (below_size (by repeat (first | (with_reducible first | exact HB.out | apply below_alloc | apply pw_below_drewN | apply below_drew1) | exact HB.out))) : w.heap.size ≤ gb122)); clear HB; have HB := n0_; have BK122 := n1_; have GW122 := n2_; have GE122 := n3_; clear n0_ n1_ n2_ n3_; clear hb hbox hg) | ((with_reducible refine gate_dst (N := 5) rfl ?_); refine box_event ?hg (N := 5) ?hd (cs := #[.int .i64 a2_0, .int .i64 a2_1, .int .i64 a2_2]) (t := 24) ?hr ?_; (case hd => rfl); (case hg => rfl); (case hr => first | (go_simp; done) | (go_simp; rfl)); intro gb123 hg w84 hbox hb; have n0_ := Aside0.mk (blk_below (g := gb122) (o := .cells #[.int .i64 a1_0, .int .i64 a1_1, .int .i64 a1_2] 24 (0, 0)) (by (with_reducible repeat (first | refine blk_drewN ?_ _ | refine blk_drew ?_ | refine blk_alloc ?_ _)); exact BK122.out) hb); have n1_ := Aside0.mk (below_step (by repeat (first | (with_reducible first | exact HB.out | apply below_alloc | apply pw_below_drewN | apply below_drew1 | refine below_set ?_ GE122.out) | exact HB.out)) hb); have n2_ := Aside0.mk (hbox); have n3_ := Aside0.mk ((by rw [hg]; exact (below_size (by repeat (first | (with_reducible first | exact HB.out | apply below_alloc | apply pw_below_drewN | apply below_drew1 | refine below_set ?_ GE122.out) | exact HB.out))) : w.heap.size ≤ gb123)); have n4_ := Aside0.mk ((by rw [hg]; exact (below_size (by repeat (first | (with_reducible first | exact HB.out | apply below_alloc | apply pw_below_drewN | apply below_drew1 | refine below_set ?_ GE122.out) | exact HB.out))) : w.heap.size ≤ gb123)); have n5_ := Aside0.mk ((by rw [hg]; exact Nat.ne_of_lt (blk_lt (g := gb122) (o := .cells #[.int .i64 a1_0, .int .i64 a1_1, .int .i64 a1_2] 24 (0, 0)) (by (with_reducible repeat (first | refine blk_drewN ?_ _ | refine blk_drew ?_ | refine blk_alloc ?_ _)); exact BK122.out)) : gb122 ≠ gb123)); have n6_ := Aside0.mk ((by rw [hg]; exact Nat.ne_of_gt (blk_lt (g := gb122) (o := .cells #[.int .i64 a1_0, .int .i64 a1_1, .int .i64 a1_2] 24 (0, 0)) (by (with_reducible repeat (first | refine blk_drewN ?_ _ | refine blk_drew ?_ | refine blk_alloc ?_ _)); exact BK122.out)) : gb123 ≠ gb122)); clear BK122; clear HB; have BK122 := n0_; have HB := n1_; have BK123 := n2_; have GW123 := n3_; have GE123 := n4_; have NB122_123 := n5_; have NB123_122 := n6_; clear n0_ n1_ n2_ n3_ n4_ n5_ n6_; clear hb hbox hg) | (go_at_call 15; clear tk_; (with_reducible refine (text_Check.calls k _ _ l0 true _ ?side1 ?side2 A4.out).mono ?_); (case side1 => repeat (first | exact (Kd.C_below HR0.out HB.out) | (with_reducible refine Kd.C_alloc ?_ _) | (with_reducible refine Kd.C_drewN ?_ _) | (with_reducible refine Kd.C_drew ?_))); (case side2 => exact HC0.out); rintro e w85 ⟨rfl, hb⟩; have n0_ := Aside0.mk (blk_below (g := gb122) (o := .cells #[.int .i64 a1_0, .int .i64 a1_1, .int .i64 a1_2] 24 (0, 0)) (by (with_reducible repeat (first | refine blk_drewN ?_ _ | refine blk_drew ?_ | refine blk_alloc ?_ _)); exact BK122.out) hb); have n1_ := Aside0.mk (blk_below (g := gb123) (o := .cells #[.int .i64 a2_0, .int .i64 a2_1, .int .i64 a2_2] 24 (0, 0)) (by (with_reducible repeat (first | refine blk_drewN ?_ _ | refine blk_drew ?_ | refine blk_alloc ?_ _)); exact BK123.out) hb); have n2_ := Aside0.mk (below_step (by repeat (first | (with_reducible first | exact HB.out | apply below_alloc | apply pw_below_drewN | apply below_drew1 | refine below_set ?_ GE122.out | refine below_set ?_ GE123.out) | exact HB.out)) hb); clear BK122; clear BK123; clear HB; have BK122 := n0_; have BK123 := n1_; have HB := n2_; clear n0_ n1_ n2_; (try clear hb); (try clear hb2); (try clear hk); (try clear hi); have hnb86 := NB122_123.out; have hnc86 := NB123_122.out; have hcz87_0 : w85.cell? ⟨gb122, 0, none⟩ = some (.int .i64 a1_0) := (blk_cell BK122.out 0).trans rfl; have hcz87_1 : w85.cell? ⟨gb122, 1, none⟩ = some (.int .i64 a1_1) := (blk_cell BK122.out 1).trans rfl; have hcz87_2 : w85.cell? ⟨gb122, 2, none⟩ = some (.int .i64 a1_2) := (blk_cell BK122.out 2).trans rfl; have hfz87_0 := blk_frozen BK122.out 0; have hfz87_1 := blk_frozen BK122.out 1; have hfz87_2 := blk_frozen BK122.out 2))
      as_aux_lemma =>
      have tk_ : True := trivial
      go_wp2_with (first | (go_at_call 10; clear tk_; (with_reducible refine (piece_Stands.calls k _ _ l0 a1_0 a1_1 a1_2 true _ ?side1 ?side2 A6.out).mono ?_); (case side1 => repeat (first | exact (Kd.C_below HR0.out HB.out) | (with_reducible refine Kd.C_alloc ?_ _) | (with_reducible refine Kd.C_drewN ?_ _) | (with_reducible refine Kd.C_drew ?_))); (case side2 => exact HC0.out); rintro e w88 ⟨rfl, hb⟩; have n0_ := Aside0.mk (blk_below (g := gb122) (o := .cells #[.int .i64 a1_0, .int .i64 a1_1, .int .i64 a1_2] 24 (0, 0)) (by (with_reducible repeat (first | refine blk_drewN ?_ _ | refine blk_drew ?_ | refine blk_alloc ?_ _)); exact BK122.out) hb); have n1_ := Aside0.mk (blk_below (g := gb123) (o := .cells #[.int .i64 a2_0, .int .i64 a2_1, .int .i64 a2_2] 24 (0, 0)) (by (with_reducible repeat (first | refine blk_drewN ?_ _ | refine blk_drew ?_ | refine blk_alloc ?_ _)); exact BK123.out) hb); have n2_ := Aside0.mk (below_step (by repeat (first | (with_reducible first | exact HB.out | apply below_alloc | apply pw_below_drewN | apply below_drew1 | refine below_set ?_ GE122.out | refine below_set ?_ GE123.out) | exact HB.out)) hb); clear BK122; clear BK123; clear HB; have BK122 := n0_; have BK123 := n1_; have HB := n2_; clear n0_ n1_ n2_; (try clear hb); (try clear hb2); (try clear hk); (try clear hi); have hcz89_0 : w88.cell? ⟨gb123, 0, none⟩ = some (.int .i64 a2_0) := (blk_cell BK123.out 0).trans rfl; have hcz89_1 : w88.cell? ⟨gb123, 1, none⟩ = some (.int .i64 a2_1) := (blk_cell BK123.out 1).trans rfl; have hcz89_2 : w88.cell? ⟨gb123, 2, none⟩ = some (.int .i64 a2_2) := (blk_cell BK123.out 2).trans rfl; have hfz89_0 := blk_frozen BK123.out 0; have hfz89_1 := blk_frozen BK123.out 1; have hfz89_2 := blk_frozen BK123.out 2))
      as_aux_lemma =>
      have tk_ : True := trivial
      go_wp2_with (first | (go_at_call 10; clear tk_; (with_reducible refine (piece_Stands.calls k _ _ l0 a2_0 a2_1 a2_2 true _ ?side1 ?side2 A8.out).mono ?_); (case side1 => repeat (first | exact (Kd.C_below HR0.out HB.out) | (with_reducible refine Kd.C_alloc ?_ _) | (with_reducible refine Kd.C_drewN ?_ _) | (with_reducible refine Kd.C_drew ?_))); (case side2 => exact HC0.out); rintro e w90 ⟨rfl, hb⟩; have n0_ := Aside0.mk (blk_below (g := gb122) (o := .cells #[.int .i64 a1_0, .int .i64 a1_1, .int .i64 a1_2] 24 (0, 0)) (by (with_reducible repeat (first | refine blk_drewN ?_ _ | refine blk_drew ?_ | refine blk_alloc ?_ _)); exact BK122.out) hb); have n1_ := Aside0.mk (blk_below (g := gb123) (o := .cells #[.int .i64 a2_0, .int .i64 a2_1, .int .i64 a2_2] 24 (0, 0)) (by (with_reducible repeat (first | refine blk_drewN ?_ _ | refine blk_drew ?_ | refine blk_alloc ?_ _)); exact BK123.out) hb); have n2_ := Aside0.mk (below_step (by repeat (first | (with_reducible first | exact HB.out | apply below_alloc | apply pw_below_drewN | apply below_drew1 | refine below_set ?_ GE122.out | refine below_set ?_ GE123.out) | exact HB.out)) hb); clear BK122; clear BK123; clear HB; have BK122 := n0_; have BK123 := n1_; have HB := n2_; clear n0_ n1_ n2_; (try clear hb); (try clear hb2); (try clear hk); (try clear hi); have hcz91_0 : w90.cell? ⟨gb122, 0, none⟩ = some (.int .i64 a1_0) := (blk_cell BK122.out 0).trans rfl; have hcz91_1 : w90.cell? ⟨gb122, 1, none⟩ = some (.int .i64 a1_1) := (blk_cell BK122.out 1).trans rfl; have hcz91_2 : w90.cell? ⟨gb122, 2, none⟩ = some (.int .i64 a1_2) := (blk_cell BK122.out 2).trans rfl; have hfz91_0 := blk_frozen BK122.out 0; have hfz91_1 := blk_frozen BK122.out 1; have hfz91_2 := blk_frozen BK122.out 2; have hcz92_0 : w90.cell? ⟨gb123, 0, none⟩ = some (.int .i64 a2_0) := (blk_cell BK123.out 0).trans rfl; have hcz92_1 : w90.cell? ⟨gb123, 1, none⟩ = some (.int .i64 a2_1) := (blk_cell BK123.out 1).trans rfl; have hcz92_2 : w90.cell? ⟨gb123, 2, none⟩ = some (.int .i64 a2_2) := (blk_cell BK123.out 2).trans rfl; have hfz92_0 := blk_frozen BK123.out 0; have hfz92_1 := blk_frozen BK123.out 1; have hfz92_2 := blk_frozen BK123.out 2))
      as_aux_lemma =>
      have tk_ : True := trivial
      go_wp2_with (first | (go_at_call 16; clear tk_; (with_reducible refine (para_Before.calls k a1_0 a1_1 a1_2 a2_0 a2_1 a2_2 false _ A20.out).mono ?_); rintro e w93 ⟨rfl, hb⟩; have n0_ := Aside0.mk (blk_below (g := gb122) (o := .cells #[.int .i64 a1_0, .int .i64 a1_1, .int .i64 a1_2] 24 (0, 0)) (by (with_reducible repeat (first | refine blk_drewN ?_ _ | refine blk_drew ?_ | refine blk_alloc ?_ _)); exact BK122.out) hb); have n1_ := Aside0.mk (blk_below (g := gb123) (o := .cells #[.int .i64 a2_0, .int .i64 a2_1, .int .i64 a2_2] 24 (0, 0)) (by (with_reducible repeat (first | refine blk_drewN ?_ _ | refine blk_drew ?_ | refine blk_alloc ?_ _)); exact BK123.out) hb); have n2_ := Aside0.mk (below_step (by repeat (first | (with_reducible first | exact HB.out | apply below_alloc | apply pw_below_drewN | apply below_drew1 | refine below_set ?_ GE122.out | refine below_set ?_ GE123.out) | exact HB.out)) hb); clear BK122; clear BK123; clear HB; have BK122 := n0_; have BK123 := n1_; have HB := n2_; clear n0_ n1_ n2_; (try clear hb); (try clear hb2); (try clear hk); (try clear hi)))
      go_ret2
      exact ⟨_, by first | rfl | (simp [errW_none, errW_some] <;> rfl) | (simp [*, errW_none, errW_some] <;> rfl), by first | exact Kd.S_nil _ _ _ _ _ | exact Kd.N_nil _ _ _ _ _ | exact Kd.V_nil _ _ _ _ _ | exact Kd.Q_nil _ _ _ _ _ | exact Kd.R_nil _ _ _ _ _, by repeat (first | (with_reducible first | exact HB.out | apply below_alloc | apply pw_below_drewN | apply below_drew1 | refine below_set ?_ GE122.out | refine below_set ?_ GE123.out) | exact HB.out)⟩
   ·replace c9 := Bool.eq_false_iff.mpr c9
    subst c9
    have H1 : (some (([] : List (List Int)), 1)) = some (r1, r2) := by rw [if_neg (show ¬ (false = true) by decide)] at H; exact H
    clear H
    have H := H1
    clear H1
    simp only [Option.some.injEq, Prod.mk.injEq] at H
    obtain ⟨rfl, rfl⟩ := H
    go_enter Try.func8, Try.ntmps8
    have tk_ : True := trivial
    go_wp2_with (first | ((with_reducible refine gate_dst (N := 4) rfl ?_); refine box_event ?hg (N := 4) ?hd (cs := #[.int .i64 a1_0, .int .i64 a1_1, .int .i64 a1_2]) (t := 24) ?hr ?_; (case hd => rfl); (case hg => rfl); (case hr => first | (go_simp; done) | (go_simp; rfl)); intro gb122 hg w94 hbox hb; have n0_ := Aside0.mk (below_step (by repeat (first | (with_reducible first | exact HB.out | apply below_alloc | apply pw_below_drewN | apply below_drew1) | exact HB.out)) hb); have n1_ := Aside0.mk (hbox); have n2_ := Aside0.mk ((by rw [hg]; exact (below_size (by repeat (first | (with_reducible first | exact HB.out | apply below_alloc | apply pw_below_drewN | apply below_drew1) | exact HB.out))) : w.heap.size ≤ gb122)); have n3_ := Aside0.mk ((by rw [hg]; exact (below_size (by repeat (first | (with_reducible first | exact HB.out | apply below_alloc | apply pw_below_drewN | apply below_drew1) | exact HB.out))) : w.heap.size ≤ gb122)); clear HB; have HB := n0_; have BK122 := n1_; have GW122 := n2_; have GE122 := n3_; clear n0_ n1_ n2_ n3_; clear hb hbox hg) | ((with_reducible refine gate_dst (N := 5) rfl ?_); refine box_event ?hg (N := 5) ?hd (cs := #[.int .i64 a2_0, .int .i64 a2_1, .int .i64 a2_2]) (t := 24) ?hr ?_; (case hd => rfl); (case hg => rfl); (case hr => first | (go_simp; done) | (go_simp; rfl)); intro gb123 hg w95 hbox hb; have n0_ := Aside0.mk (blk_below (g := gb122) (o := .cells #[.int .i64 a1_0, .int .i64 a1_1, .int .i64 a1_2] 24 (0, 0)) (by (with_reducible repeat (first | refine blk_drewN ?_ _ | refine blk_drew ?_ | refine blk_alloc ?_ _)); exact BK122.out) hb); have n1_ := Aside0.mk (below_step (by repeat (first | (with_reducible first | exact HB.out | apply below_alloc | apply pw_below_drewN | apply below_drew1 | refine below_set ?_ GE122.out) | exact HB.out)) hb); have n2_ := Aside0.mk (hbox); have n3_ := Aside0.mk ((by rw [hg]; exact (below_size (by repeat (first | (with_reducible first | exact HB.out | apply below_alloc | apply pw_below_drewN | apply below_drew1 | refine below_set ?_ GE122.out) | exact HB.out))) : w.heap.size ≤ gb123)); have n4_ := Aside0.mk ((by rw [hg]; exact (below_size (by repeat (first | (with_reducible first | exact HB.out | apply below_alloc | apply pw_below_drewN | apply below_drew1 | refine below_set ?_ GE122.out) | exact HB.out))) : w.heap.size ≤ gb123)); have n5_ := Aside0.mk ((by rw [hg]; exact Nat.ne_of_lt (blk_lt (g := gb122) (o := .cells #[.int .i64 a1_0, .int .i64 a1_1, .int .i64 a1_2] 24 (0, 0)) (by (with_reducible repeat (first | refine blk_drewN ?_ _ | refine blk_drew ?_ | refine blk_alloc ?_ _)); exact BK122.out)) : gb122 ≠ gb123)); have n6_ := Aside0.mk ((by rw [hg]; exact Nat.ne_of_gt (blk_lt (g := gb122) (o := .cells #[.int .i64 a1_0, .int .i64 a1_1, .int .i64 a1_2] 24 (0, 0)) (by (with_reducible repeat (first | refine blk_drewN ?_ _ | refine blk_drew ?_ | refine blk_alloc ?_ _)); exact BK122.out)) : gb123 ≠ gb122)); clear BK122; clear HB; have BK122 := n0_; have HB := n1_; have BK123 := n2_; have GW123 := n3_; have GE123 := n4_; have NB122_123 := n5_; have NB123_122 := n6_; clear n0_ n1_ n2_ n3_ n4_ n5_ n6_; clear hb hbox hg) | (go_at_call 15; clear tk_; (with_reducible refine (text_Check.calls k _ _ l0 true _ ?side1 ?side2 A4.out).mono ?_); (case side1 => repeat (first | exact (Kd.C_below HR0.out HB.out) | (with_reducible refine Kd.C_alloc ?_ _) | (with_reducible refine Kd.C_drewN ?_ _) | (with_reducible refine Kd.C_drew ?_))); (case side2 => exact HC0.out); rintro e w96 ⟨rfl, hb⟩; have n0_ := Aside0.mk (blk_below (g := gb122) (o := .cells #[.int .i64 a1_0, .int .i64 a1_1, .int .i64 a1_2] 24 (0, 0)) (by (with_reducible repeat (first | refine blk_drewN ?_ _ | refine blk_drew ?_ | refine blk_alloc ?_ _)); exact BK122.out) hb); have n1_ := Aside0.mk (blk_below (g := gb123) (o := .cells #[.int .i64 a2_0, .int .i64 a2_1, .int .i64 a2_2] 24 (0, 0)) (by (with_reducible repeat (first | refine blk_drewN ?_ _ | refine blk_drew ?_ | refine blk_alloc ?_ _)); exact BK123.out) hb); have n2_ := Aside0.mk (below_step (by repeat (first | (with_reducible first | exact HB.out | apply below_alloc | apply pw_below_drewN | apply below_drew1 | refine below_set ?_ GE122.out | refine below_set ?_ GE123.out) | exact HB.out)) hb); clear BK122; clear BK123; clear HB; have BK122 := n0_; have BK123 := n1_; have HB := n2_; clear n0_ n1_ n2_; (try clear hb); (try clear hb2); (try clear hk); (try clear hi); have hnb97 := NB122_123.out; have hnc97 := NB123_122.out; have hcz98_0 : w96.cell? ⟨gb122, 0, none⟩ = some (.int .i64 a1_0) := (blk_cell BK122.out 0).trans rfl; have hcz98_1 : w96.cell? ⟨gb122, 1, none⟩ = some (.int .i64 a1_1) := (blk_cell BK122.out 1).trans rfl; have hcz98_2 : w96.cell? ⟨gb122, 2, none⟩ = some (.int .i64 a1_2) := (blk_cell BK122.out 2).trans rfl; have hfz98_0 := blk_frozen BK122.out 0; have hfz98_1 := blk_frozen BK122.out 1; have hfz98_2 := blk_frozen BK122.out 2))
    as_aux_lemma =>
    have tk_ : True := trivial
    go_wp2_with (first | (go_at_call 10; clear tk_; (with_reducible refine (piece_Stands.calls k _ _ l0 a1_0 a1_1 a1_2 true _ ?side1 ?side2 A6.out).mono ?_); (case side1 => repeat (first | exact (Kd.C_below HR0.out HB.out) | (with_reducible refine Kd.C_alloc ?_ _) | (with_reducible refine Kd.C_drewN ?_ _) | (with_reducible refine Kd.C_drew ?_))); (case side2 => exact HC0.out); rintro e w99 ⟨rfl, hb⟩; have n0_ := Aside0.mk (blk_below (g := gb122) (o := .cells #[.int .i64 a1_0, .int .i64 a1_1, .int .i64 a1_2] 24 (0, 0)) (by (with_reducible repeat (first | refine blk_drewN ?_ _ | refine blk_drew ?_ | refine blk_alloc ?_ _)); exact BK122.out) hb); have n1_ := Aside0.mk (blk_below (g := gb123) (o := .cells #[.int .i64 a2_0, .int .i64 a2_1, .int .i64 a2_2] 24 (0, 0)) (by (with_reducible repeat (first | refine blk_drewN ?_ _ | refine blk_drew ?_ | refine blk_alloc ?_ _)); exact BK123.out) hb); have n2_ := Aside0.mk (below_step (by repeat (first | (with_reducible first | exact HB.out | apply below_alloc | apply pw_below_drewN | apply below_drew1 | refine below_set ?_ GE122.out | refine below_set ?_ GE123.out) | exact HB.out)) hb); clear BK122; clear BK123; clear HB; have BK122 := n0_; have BK123 := n1_; have HB := n2_; clear n0_ n1_ n2_; (try clear hb); (try clear hb2); (try clear hk); (try clear hi); have hcz100_0 : w99.cell? ⟨gb123, 0, none⟩ = some (.int .i64 a2_0) := (blk_cell BK123.out 0).trans rfl; have hcz100_1 : w99.cell? ⟨gb123, 1, none⟩ = some (.int .i64 a2_1) := (blk_cell BK123.out 1).trans rfl; have hcz100_2 : w99.cell? ⟨gb123, 2, none⟩ = some (.int .i64 a2_2) := (blk_cell BK123.out 2).trans rfl; have hfz100_0 := blk_frozen BK123.out 0; have hfz100_1 := blk_frozen BK123.out 1; have hfz100_2 := blk_frozen BK123.out 2))
    as_aux_lemma =>
    have tk_ : True := trivial
    go_wp2_with (first | (go_at_call 10; clear tk_; (with_reducible refine (piece_Stands.calls k _ _ l0 a2_0 a2_1 a2_2 false _ ?side1 ?side2 A8.out).mono ?_); (case side1 => repeat (first | exact (Kd.C_below HR0.out HB.out) | (with_reducible refine Kd.C_alloc ?_ _) | (with_reducible refine Kd.C_drewN ?_ _) | (with_reducible refine Kd.C_drew ?_))); (case side2 => exact HC0.out); rintro e w101 ⟨rfl, hb⟩; have n0_ := Aside0.mk (blk_below (g := gb122) (o := .cells #[.int .i64 a1_0, .int .i64 a1_1, .int .i64 a1_2] 24 (0, 0)) (by (with_reducible repeat (first | refine blk_drewN ?_ _ | refine blk_drew ?_ | refine blk_alloc ?_ _)); exact BK122.out) hb); have n1_ := Aside0.mk (blk_below (g := gb123) (o := .cells #[.int .i64 a2_0, .int .i64 a2_1, .int .i64 a2_2] 24 (0, 0)) (by (with_reducible repeat (first | refine blk_drewN ?_ _ | refine blk_drew ?_ | refine blk_alloc ?_ _)); exact BK123.out) hb); have n2_ := Aside0.mk (below_step (by repeat (first | (with_reducible first | exact HB.out | apply below_alloc | apply pw_below_drewN | apply below_drew1 | refine below_set ?_ GE122.out | refine below_set ?_ GE123.out) | exact HB.out)) hb); clear BK122; clear BK123; clear HB; have BK122 := n0_; have BK123 := n1_; have HB := n2_; clear n0_ n1_ n2_; (try clear hb); (try clear hb2); (try clear hk); (try clear hi)))
    go_ret2
    exact ⟨_, by first | rfl | (simp [errW_none, errW_some] <;> rfl) | (simp [*, errW_none, errW_some] <;> rfl), by first | exact Kd.S_nil _ _ _ _ _ | exact Kd.N_nil _ _ _ _ _ | exact Kd.V_nil _ _ _ _ _ | exact Kd.Q_nil _ _ _ _ _ | exact Kd.R_nil _ _ _ _ _, by repeat (first | (with_reducible first | exact HB.out | apply below_alloc | apply pw_below_drewN | apply below_drew1 | refine below_set ?_ GE122.out | refine below_set ?_ GE123.out) | exact HB.out)⟩
  ·replace c7 := Bool.eq_false_iff.mpr c7
   subst c7
   have H1 : (some (([] : List (List Int)), 1)) = some (r1, r2) := by rw [if_neg (show ¬ (false = true) by decide)] at H; exact H
   clear H
   have H := H1
   clear H1
   simp only [Option.some.injEq, Prod.mk.injEq] at H
   obtain ⟨rfl, rfl⟩ := H
   go_enter Try.func8, Try.ntmps8
   have tk_ : True := trivial
   go_wp2_with (first | ((with_reducible refine gate_dst (N := 4) rfl ?_); refine box_event ?hg (N := 4) ?hd (cs := #[.int .i64 a1_0, .int .i64 a1_1, .int .i64 a1_2]) (t := 24) ?hr ?_; (case hd => rfl); (case hg => rfl); (case hr => first | (go_simp; done) | (go_simp; rfl)); intro gb122 hg w102 hbox hb; have n0_ := Aside0.mk (below_step (by repeat (first | (with_reducible first | exact HB.out | apply below_alloc | apply pw_below_drewN | apply below_drew1) | exact HB.out)) hb); have n1_ := Aside0.mk (hbox); have n2_ := Aside0.mk ((by rw [hg]; exact (below_size (by repeat (first | (with_reducible first | exact HB.out | apply below_alloc | apply pw_below_drewN | apply below_drew1) | exact HB.out))) : w.heap.size ≤ gb122)); have n3_ := Aside0.mk ((by rw [hg]; exact (below_size (by repeat (first | (with_reducible first | exact HB.out | apply below_alloc | apply pw_below_drewN | apply below_drew1) | exact HB.out))) : w.heap.size ≤ gb122)); clear HB; have HB := n0_; have BK122 := n1_; have GW122 := n2_; have GE122 := n3_; clear n0_ n1_ n2_ n3_; clear hb hbox hg) | ((with_reducible refine gate_dst (N := 5) rfl ?_); refine box_event ?hg (N := 5) ?hd (cs := #[.int .i64 a2_0, .int .i64 a2_1, .int .i64 a2_2]) (t := 24) ?hr ?_; (case hd => rfl); (case hg => rfl); (case hr => first | (go_simp; done) | (go_simp; rfl)); intro gb123 hg w103 hbox hb; have n0_ := Aside0.mk (blk_below (g := gb122) (o := .cells #[.int .i64 a1_0, .int .i64 a1_1, .int .i64 a1_2] 24 (0, 0)) (by (with_reducible repeat (first | refine blk_drewN ?_ _ | refine blk_drew ?_ | refine blk_alloc ?_ _)); exact BK122.out) hb); have n1_ := Aside0.mk (below_step (by repeat (first | (with_reducible first | exact HB.out | apply below_alloc | apply pw_below_drewN | apply below_drew1 | refine below_set ?_ GE122.out) | exact HB.out)) hb); have n2_ := Aside0.mk (hbox); have n3_ := Aside0.mk ((by rw [hg]; exact (below_size (by repeat (first | (with_reducible first | exact HB.out | apply below_alloc | apply pw_below_drewN | apply below_drew1 | refine below_set ?_ GE122.out) | exact HB.out))) : w.heap.size ≤ gb123)); have n4_ := Aside0.mk ((by rw [hg]; exact (below_size (by repeat (first | (with_reducible first | exact HB.out | apply below_alloc | apply pw_below_drewN | apply below_drew1 | refine below_set ?_ GE122.out) | exact HB.out))) : w.heap.size ≤ gb123)); have n5_ := Aside0.mk ((by rw [hg]; exact Nat.ne_of_lt (blk_lt (g := gb122) (o := .cells #[.int .i64 a1_0, .int .i64 a1_1, .int .i64 a1_2] 24 (0, 0)) (by (with_reducible repeat (first | refine blk_drewN ?_ _ | refine blk_drew ?_ | refine blk_alloc ?_ _)); exact BK122.out)) : gb122 ≠ gb123)); have n6_ := Aside0.mk ((by rw [hg]; exact Nat.ne_of_gt (blk_lt (g := gb122) (o := .cells #[.int .i64 a1_0, .int .i64 a1_1, .int .i64 a1_2] 24 (0, 0)) (by (with_reducible repeat (first | refine blk_drewN ?_ _ | refine blk_drew ?_ | refine blk_alloc ?_ _)); exact BK122.out)) : gb123 ≠ gb122)); clear BK122; clear HB; have BK122 := n0_; have HB := n1_; have BK123 := n2_; have GW123 := n3_; have GE123 := n4_; have NB122_123 := n5_; have NB123_122 := n6_; clear n0_ n1_ n2_ n3_ n4_ n5_ n6_; clear hb hbox hg) | (go_at_call 15; clear tk_; (with_reducible refine (text_Check.calls k _ _ l0 true _ ?side1 ?side2 A4.out).mono ?_); (case side1 => repeat (first | exact (Kd.C_below HR0.out HB.out) | (with_reducible refine Kd.C_alloc ?_ _) | (with_reducible refine Kd.C_drewN ?_ _) | (with_reducible refine Kd.C_drew ?_))); (case side2 => exact HC0.out); rintro e w104 ⟨rfl, hb⟩; have n0_ := Aside0.mk (blk_below (g := gb122) (o := .cells #[.int .i64 a1_0, .int .i64 a1_1, .int .i64 a1_2] 24 (0, 0)) (by (with_reducible repeat (first | refine blk_drewN ?_ _ | refine blk_drew ?_ | refine blk_alloc ?_ _)); exact BK122.out) hb); have n1_ := Aside0.mk (blk_below (g := gb123) (o := .cells #[.int .i64 a2_0, .int .i64 a2_1, .int .i64 a2_2] 24 (0, 0)) (by (with_reducible repeat (first | refine blk_drewN ?_ _ | refine blk_drew ?_ | refine blk_alloc ?_ _)); exact BK123.out) hb); have n2_ := Aside0.mk (below_step (by repeat (first | (with_reducible first | exact HB.out | apply below_alloc | apply pw_below_drewN | apply below_drew1 | refine below_set ?_ GE122.out | refine below_set ?_ GE123.out) | exact HB.out)) hb); clear BK122; clear BK123; clear HB; have BK122 := n0_; have BK123 := n1_; have HB := n2_; clear n0_ n1_ n2_; (try clear hb); (try clear hb2); (try clear hk); (try clear hi); have hnb105 := NB122_123.out; have hnc105 := NB123_122.out; have hcz106_0 : w104.cell? ⟨gb122, 0, none⟩ = some (.int .i64 a1_0) := (blk_cell BK122.out 0).trans rfl; have hcz106_1 : w104.cell? ⟨gb122, 1, none⟩ = some (.int .i64 a1_1) := (blk_cell BK122.out 1).trans rfl; have hcz106_2 : w104.cell? ⟨gb122, 2, none⟩ = some (.int .i64 a1_2) := (blk_cell BK122.out 2).trans rfl; have hfz106_0 := blk_frozen BK122.out 0; have hfz106_1 := blk_frozen BK122.out 1; have hfz106_2 := blk_frozen BK122.out 2))
   as_aux_lemma =>
   have tk_ : True := trivial
   go_wp2_with (first | (go_at_call 10; clear tk_; (with_reducible refine (piece_Stands.calls k _ _ l0 a1_0 a1_1 a1_2 false _ ?side1 ?side2 A6.out).mono ?_); (case side1 => repeat (first | exact (Kd.C_below HR0.out HB.out) | (with_reducible refine Kd.C_alloc ?_ _) | (with_reducible refine Kd.C_drewN ?_ _) | (with_reducible refine Kd.C_drew ?_))); (case side2 => exact HC0.out); rintro e w107 ⟨rfl, hb⟩; have n0_ := Aside0.mk (blk_below (g := gb122) (o := .cells #[.int .i64 a1_0, .int .i64 a1_1, .int .i64 a1_2] 24 (0, 0)) (by (with_reducible repeat (first | refine blk_drewN ?_ _ | refine blk_drew ?_ | refine blk_alloc ?_ _)); exact BK122.out) hb); have n1_ := Aside0.mk (blk_below (g := gb123) (o := .cells #[.int .i64 a2_0, .int .i64 a2_1, .int .i64 a2_2] 24 (0, 0)) (by (with_reducible repeat (first | refine blk_drewN ?_ _ | refine blk_drew ?_ | refine blk_alloc ?_ _)); exact BK123.out) hb); have n2_ := Aside0.mk (below_step (by repeat (first | (with_reducible first | exact HB.out | apply below_alloc | apply pw_below_drewN | apply below_drew1 | refine below_set ?_ GE122.out | refine below_set ?_ GE123.out) | exact HB.out)) hb); clear BK122; clear BK123; clear HB; have BK122 := n0_; have BK123 := n1_; have HB := n2_; clear n0_ n1_ n2_; (try clear hb); (try clear hb2); (try clear hk); (try clear hi)))
   go_ret2
   exact ⟨_, by first | rfl | (simp [errW_none, errW_some] <;> rfl) | (simp [*, errW_none, errW_some] <;> rfl), by first | exact Kd.S_nil _ _ _ _ _ | exact Kd.N_nil _ _ _ _ _ | exact Kd.V_nil _ _ _ _ _ | exact Kd.Q_nil _ _ _ _ _ | exact Kd.R_nil _ _ _ _ _, by repeat (first | (with_reducible first | exact HB.out | apply below_alloc | apply pw_below_drewN | apply below_drew1 | refine below_set ?_ GE122.out | refine below_set ?_ GE123.out) | exact HB.out)⟩
 ·replace c5 := Bool.eq_false_iff.mpr c5
  subst c5
  have H1 : (some (([] : List (List Int)), 130)) = some (r1, r2) := by rw [if_neg (show ¬ (false = true) by decide)] at H; exact H
  clear H
  have H := H1
  clear H1
  simp only [Option.some.injEq, Prod.mk.injEq] at H
  obtain ⟨rfl, rfl⟩ := H
  go_enter Try.func8, Try.ntmps8
  go_wp2_with (first | ((with_reducible refine gate_dst (N := 4) rfl ?_); refine box_event ?hg (N := 4) ?hd (cs := #[.int .i64 a1_0, .int .i64 a1_1, .int .i64 a1_2]) (t := 24) ?hr ?_; (case hd => rfl); (case hg => rfl); (case hr => first | (go_simp; done) | (go_simp; rfl)); intro gb122 hg w108 hbox hb; have n0_ := Aside0.mk (below_step (by repeat (first | (with_reducible first | exact HB.out | apply below_alloc | apply pw_below_drewN | apply below_drew1) | exact HB.out)) hb); have n1_ := Aside0.mk (hbox); have n2_ := Aside0.mk ((by rw [hg]; exact (below_size (by repeat (first | (with_reducible first | exact HB.out | apply below_alloc | apply pw_below_drewN | apply below_drew1) | exact HB.out))) : w.heap.size ≤ gb122)); have n3_ := Aside0.mk ((by rw [hg]; exact (below_size (by repeat (first | (with_reducible first | exact HB.out | apply below_alloc | apply pw_below_drewN | apply below_drew1) | exact HB.out))) : w.heap.size ≤ gb122)); clear HB; have HB := n0_; have BK122 := n1_; have GW122 := n2_; have GE122 := n3_; clear n0_ n1_ n2_ n3_; clear hb hbox hg) | ((with_reducible refine gate_dst (N := 5) rfl ?_); refine box_event ?hg (N := 5) ?hd (cs := #[.int .i64 a2_0, .int .i64 a2_1, .int .i64 a2_2]) (t := 24) ?hr ?_; (case hd => rfl); (case hg => rfl); (case hr => first | (go_simp; done) | (go_simp; rfl)); intro gb123 hg w109 hbox hb; have n0_ := Aside0.mk (blk_below (g := gb122) (o := .cells #[.int .i64 a1_0, .int .i64 a1_1, .int .i64 a1_2] 24 (0, 0)) (by (with_reducible repeat (first | refine blk_drewN ?_ _ | refine blk_drew ?_ | refine blk_alloc ?_ _)); exact BK122.out) hb); have n1_ := Aside0.mk (below_step (by repeat (first | (with_reducible first | exact HB.out | apply below_alloc | apply pw_below_drewN | apply below_drew1 | refine below_set ?_ GE122.out) | exact HB.out)) hb); have n2_ := Aside0.mk (hbox); have n3_ := Aside0.mk ((by rw [hg]; exact (below_size (by repeat (first | (with_reducible first | exact HB.out | apply below_alloc | apply pw_below_drewN | apply below_drew1 | refine below_set ?_ GE122.out) | exact HB.out))) : w.heap.size ≤ gb123)); have n4_ := Aside0.mk ((by rw [hg]; exact (below_size (by repeat (first | (with_reducible first | exact HB.out | apply below_alloc | apply pw_below_drewN | apply below_drew1 | refine below_set ?_ GE122.out) | exact HB.out))) : w.heap.size ≤ gb123)); have n5_ := Aside0.mk ((by rw [hg]; exact Nat.ne_of_lt (blk_lt (g := gb122) (o := .cells #[.int .i64 a1_0, .int .i64 a1_1, .int .i64 a1_2] 24 (0, 0)) (by (with_reducible repeat (first | refine blk_drewN ?_ _ | refine blk_drew ?_ | refine blk_alloc ?_ _)); exact BK122.out)) : gb122 ≠ gb123)); have n6_ := Aside0.mk ((by rw [hg]; exact Nat.ne_of_gt (blk_lt (g := gb122) (o := .cells #[.int .i64 a1_0, .int .i64 a1_1, .int .i64 a1_2] 24 (0, 0)) (by (with_reducible repeat (first | refine blk_drewN ?_ _ | refine blk_drew ?_ | refine blk_alloc ?_ _)); exact BK122.out)) : gb123 ≠ gb122)); clear BK122; clear HB; have BK122 := n0_; have HB := n1_; have BK123 := n2_; have GW123 := n3_; have GE123 := n4_; have NB122_123 := n5_; have NB123_122 := n6_; clear n0_ n1_ n2_ n3_ n4_ n5_ n6_; clear hb hbox hg) | ((with_reducible refine gate_callee (f := 15) rfl ?_); refine goesL_ (some 16) rfl rfl Try.func15 (by kernel_rfl) rfl #[.slice A0 l0.length c0] rfl (by (try simp only [List.map_toArray, List.map_cons, List.map_nil]); first | done | rfl | (simp only [List.length_drop, List.length_take]; rfl)) ?_; (with_reducible refine (text_Check.calls k _ _ l0 false _ ?side1 ?side2 A4.out).mono ?_); (case side1 => repeat (first | exact (Kd.C_below HR0.out HB.out) | (with_reducible refine Kd.C_alloc ?_ _) | (with_reducible refine Kd.C_drewN ?_ _) | (with_reducible refine Kd.C_drew ?_))); (case side2 => exact HC0.out); rintro e w110 ⟨rfl, hb⟩; refine ⟨_, rfl, ?_⟩; have n0_ := Aside0.mk (blk_below (g := gb122) (o := .cells #[.int .i64 a1_0, .int .i64 a1_1, .int .i64 a1_2] 24 (0, 0)) (by (with_reducible repeat (first | refine blk_drewN ?_ _ | refine blk_drew ?_ | refine blk_alloc ?_ _)); exact BK122.out) hb); have n1_ := Aside0.mk (blk_below (g := gb123) (o := .cells #[.int .i64 a2_0, .int .i64 a2_1, .int .i64 a2_2] 24 (0, 0)) (by (with_reducible repeat (first | refine blk_drewN ?_ _ | refine blk_drew ?_ | refine blk_alloc ?_ _)); exact BK123.out) hb); have n2_ := Aside0.mk (below_step (by repeat (first | (with_reducible first | exact HB.out | apply below_alloc | apply pw_below_drewN | apply below_drew1 | refine below_set ?_ GE122.out | refine below_set ?_ GE123.out) | exact HB.out)) hb); clear BK122; clear BK123; clear HB; have BK122 := n0_; have BK123 := n1_; have HB := n2_; clear n0_ n1_ n2_; (try clear hb); (try clear hb2); (try clear hk); (try clear hi)))
  go_ret2
  exact ⟨_, by first | rfl | (simp [errW_none, errW_some] <;> rfl) | (simp [*, errW_none, errW_some] <;> rfl), by first | exact Kd.S_nil _ _ _ _ _ | exact Kd.N_nil _ _ _ _ _ | exact Kd.V_nil _ _ _ _ _ | exact Kd.Q_nil _ _ _ _ _ | exact Kd.R_nil _ _ _ _ _, by repeat (first | (with_reducible first | exact HB.out | apply below_alloc | apply pw_below_drewN | apply below_drew1 | refine below_set ?_ GE122.out | refine below_set ?_ GE123.out) | exact HB.out)⟩

end Go.Proofs.Ytepllkdlnajbjaa.G
