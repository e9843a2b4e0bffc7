/- Contracts of the functions of this seat: what each call computes, as a plain Lean function. Made by this session's own generator. -/
import Derived.Test.YtpicbjcpdngmlaaGx0
namespace Go.Proofs.Ytpicbjcpdngmlaa.G
open Go.RowKit Go.Proofs.YtpicbjcpdngmlaaMy Go.Proofs.YtpicbjcpdngmlaaW.PrintWords Go.Proofs.YtpicbjcpdngmlaaW.PrintLast Go.Proofs.YtpicbjcpdngmlaaW.PrintMore
attribute [local go_sem] max2_int min2_int max_two min_two max_three min_three max_four min_four   -- for this text's walks alone
set_option linter.unusedVariables false
set_option linter.unusedSimpArgs false

/-! ### compositorlaw20_few: function 8 -/
def compositorlaw20_few.f (a0_0 : Int) (a0_1 : Int) (a0_2 : Int) (a0_3 : Int) (l0_4 : List (S33)) : Option (Bool) := some (decide ((l0_4.length : Int) ≤ 300))
set_option maxHeartbeats 8000000 in
set_option maxRecDepth 100000 in
theorem compositorlaw20_few.calls (a0_0 : Int) (a0_1 : Int) (a0_2 : Int) (a0_3 : Int) (A0_4 : Option Addr) (c0_4 : Nat) (l0_4 : List (S33)) (r : Bool) (w : World) (hr0_4 : Kd.C k33 w A0_4 l0_4.length l0_4) (hc0_4 : l0_4.length ≤ c0_4) (h : compositorlaw20_few.f a0_0 a0_1 a0_2 a0_3 l0_4 = some r) :
  Calls Try.prog 8 #[.agg #[.int .i64 a0_0, .int .i64 a0_1, .int .i64 a0_2, .int .i64 a0_3, .slice A0_4 l0_4.length c0_4]] w fun e w' => e = .returned (.bool r) ∧ Below w.heap.size w w' := by
 have hu24 := Try.underlying24
 have HR0_4 := Aside0.mk hr0_4
 have HC0_4 := Aside0.mk hc0_4
 clear hr0_4 hc0_4
 have HB := Aside0.mk (Below.refl w.heap.size w)
 have H : (some (decide ((l0_4.length : Int) ≤ 300))) = some r := h
 clear h
 obtain rfl := Option.some.inj H
 go_enter Try.func8, Try.ntmps8
 go_wp2_with (first | ((with_reducible refine gate_dst (N := 1) rfl ?_); refine box_event ?hg (N := 1) ?hd (cs := #[.int .i64 a0_0, .int .i64 a0_1, .int .i64 a0_2, .int .i64 a0_3, .slice A0_4 l0_4.length c0_4]) (t := 24) ?hr ?_; (case hd => rfl); (case hg => rfl); (case hr => first | (go_simp; done) | (go_simp; rfl)); intro gb123 hg w2 hbox hb; have n0_ := Aside0.mk (below_step (by repeat (first | (with_reducible first | exact HB.out | apply below_alloc | apply pw_below_drewN | apply below_drew1) | exact HB.out)) hb); have n1_ := Aside0.mk (hbox); have n2_ := Aside0.mk ((by rw [hg]; exact (below_size (by repeat (first | (with_reducible first | exact HB.out | apply below_alloc | apply pw_below_drewN | apply below_drew1) | exact HB.out))) : w.heap.size ≤ gb123)); have n3_ := Aside0.mk ((by rw [hg]; exact (below_size (by repeat (first | (with_reducible first | exact HB.out | apply below_alloc | apply pw_below_drewN | apply below_drew1) | exact HB.out))) : w.heap.size ≤ gb123)); clear HB; have HB := n0_; have BK123 := n1_; have GW123 := n2_; have GE123 := n3_; clear n0_ n1_ n2_ n3_; clear hb hbox hg; have hcz3_0 : w2.cell? ⟨gb123, 0, none⟩ = some (.int .i64 a0_0) := (blk_cell BK123.out 0).trans rfl; have hcz3_1 : w2.cell? ⟨gb123, 1, none⟩ = some (.int .i64 a0_1) := (blk_cell BK123.out 1).trans rfl; have hcz3_2 : w2.cell? ⟨gb123, 2, none⟩ = some (.int .i64 a0_2) := (blk_cell BK123.out 2).trans rfl; have hcz3_3 : w2.cell? ⟨gb123, 3, none⟩ = some (.int .i64 a0_3) := (blk_cell BK123.out 3).trans rfl; have hcz3_4 : w2.cell? ⟨gb123, 4, none⟩ = some (.slice A0_4 l0_4.length c0_4) := (blk_cell BK123.out 4).trans rfl; have hfz3_0 := blk_frozen BK123.out 0; have hfz3_1 := blk_frozen BK123.out 1; have hfz3_2 := blk_frozen BK123.out 2; have hfz3_3 := blk_frozen BK123.out 3; have hfz3_4 := blk_frozen BK123.out 4))
 go_ret
 exact ⟨by first | rfl | (simp [errW_none, errW_some] <;> rfl) | (simp [*, errW_none, errW_some] <;> rfl), by repeat (first | (with_reducible first | exact HB.out | apply below_alloc | apply pw_below_drewN | apply below_drew1 | refine below_set ?_ GE123.out) | exact HB.out)⟩

/-! ### compositorref20_Gaps: function 11 -/
def compositorref20_Gaps.l0 : Nat → List (S36) → Int → Int → Int → Int → Int → List (S33) → Option ((List (S36)))
 | 0, _, _, _, _, _, _, _ => none
 | k + 1, x3, x4, x125000, x125001, x125002, x125003, x125004 => if x4 < (x125004.length : Int) then (if 0 ≤ x4 then (if ((rd_T33 x125004 x4).f0) = 32 then (if (wrap64 (x4 + 1)) < (x125004.length : Int) then (if 0 ≤ (wrap64 (x4 + 1)) then (if x3.length < 8796093022208 then (compositorref20_Gaps.l0 k (x3 ++ [(⟨(rd_T33 x125004 x4).f1, (rd_T33 x125004 (wrap64 (x4 + 1))).f1⟩ : S36)]) (wrap64 (x4 + 1)) x125000 x125001 x125002 x125003 x125004) else (none)) else (none)) else (if x3.length < 8796093022208 then (compositorref20_Gaps.l0 k (x3 ++ [(⟨(rd_T33 x125004 x4).f1, x125002⟩ : S36)]) (wrap64 (x4 + 1)) x125000 x125001 x125002 x125003 x125004) else (none))) else (compositorref20_Gaps.l0 k x3 (wrap64 (x4 + 1)) x125000 x125001 x125002 x125003 x125004)) else (none)) else (some x3)
def compositorref20_Gaps.f (k : Nat) (a0_0 : Int) (a0_1 : Int) (a0_2 : Int) (a0_3 : Int) (l0_4 : List (S33)) : Option ((List (S36))) := compositorref20_Gaps.l0 k ([] : List (S36)) 0 a0_0 a0_1 a0_2 a0_3 l0_4
theorem compositorref20_Gaps.mono_l : ∀ k, (∀ y0 y1 y2 y3 y4 y5 y6, LeO (compositorref20_Gaps.l0 k y0 y1 y2 y3 y4 y5 y6) (compositorref20_Gaps.l0 (k + 1) y0 y1 y2 y3 y4 y5 y6))
 | 0 => fun _ _ _ _ _ _ _ r h => by simp [compositorref20_Gaps.l0] at h
 | k + 1 => by
  have ih0 := compositorref20_Gaps.mono_l k
  ·intro y0 y1 y2 y3 y4 y5 y6
   unfold compositorref20_Gaps.l0
   repeat' first
   | (with_reducible exact ih0 _ _ _ _ _ _ _)
   | (with_reducible exact LeO.refl _)
   | (with_reducible exact LeO.none _)
   | (with_reducible refine LeO.ite ?_ ?_)
   | (with_reducible refine LeO.bind ?_ (fun _ => ?_))
   | exact ih0 _ _ _ _ _ _ _
   | exact LeO.none _
   | refine LeO.ite ?_ ?_
   | refine LeO.bind ?_ (fun _ => ?_)
theorem compositorref20_Gaps.mono : ∀ a0 a1 a2 a3 a4 k, LeO (compositorref20_Gaps.f k a0 a1 a2 a3 a4) (compositorref20_Gaps.f (k + 1) a0 a1 a2 a3 a4) := by
 intro a0 a1 a2 a3 a4 k
 have ih0 := compositorref20_Gaps.mono_l k
 unfold compositorref20_Gaps.f
 repeat' first
   | (with_reducible exact ih0 _ _ _ _ _ _ _)
   | (with_reducible exact LeO.refl _)
   | (with_reducible exact LeO.none _)
   | (with_reducible refine LeO.ite ?_ ?_)
   | (with_reducible refine LeO.bind ?_ (fun _ => ?_))
   | exact ih0 _ _ _ _ _ _ _
   | exact LeO.none _
   | refine LeO.ite ?_ ?_
   | refine LeO.bind ?_ (fun _ => ?_)
set_option maxHeartbeats 8000000 in
set_option maxRecDepth 100000 in
theorem compositorref20_Gaps.calls (k : Nat) (a0_0 : Int) (a0_1 : Int) (a0_2 : Int) (a0_3 : Int) (A0_4 : Option Addr) (c0_4 : Nat) (l0_4 : List (S33)) (r : List (S36)) (w : World) (hr0_4 : Kd.C k33 w A0_4 l0_4.length l0_4) (hc0_4 : l0_4.length ≤ c0_4) (h : compositorref20_Gaps.f k a0_0 a0_1 a0_2 a0_3 l0_4 = some r) :
  Calls Try.prog 11 #[.agg #[.int .i64 a0_0, .int .i64 a0_1, .int .i64 a0_2, .int .i64 a0_3, .slice A0_4 l0_4.length c0_4]] w fun e w' => ∃ v0_ : Value, e = .returned (v0_) ∧ Kd.R k36 36 w' w.heap.size (fun _ => True) v0_ r ∧ Below w.heap.size w w' := by
 have hu24 := Try.underlying24
 have hu36 := Try.underlying36
 have HR0_4 := Aside0.mk hr0_4
 have HC0_4 := Aside0.mk hc0_4
 clear hr0_4 hc0_4
 have HB := Aside0.mk (Below.refl w.heap.size w)
 have H : (compositorref20_Gaps.l0 k ([] : List (S36)) 0 a0_0 a0_1 a0_2 a0_3 l0_4) = some r := h
 clear h
 have H' := Aside0.mk H
 clear H
 go_enter Try.func11, Try.ntmps11
 go_wp2_with (first | ((with_reducible refine gate_dst (N := 1) rfl ?_); refine box_event ?hg (N := 1) ?hd (cs := #[.int .i64 a0_0, .int .i64 a0_1, .int .i64 a0_2, .int .i64 a0_3, .slice A0_4 l0_4.length c0_4]) (t := 24) ?hr ?_; (case hd => rfl); (case hg => rfl); (case hr => first | (go_simp; done) | (go_simp; rfl)); intro gb124 hg w2 hbox hb; have n0_ := Aside0.mk (below_step (by repeat (first | (with_reducible first | exact HB.out | apply below_alloc | apply pw_below_drewN | apply below_drew1) | exact HB.out)) hb); have n1_ := Aside0.mk (hbox); have n2_ := Aside0.mk ((by rw [hg]; exact (below_size (by repeat (first | (with_reducible first | exact HB.out | apply below_alloc | apply pw_below_drewN | apply below_drew1) | exact HB.out))) : w.heap.size ≤ gb124)); have n3_ := Aside0.mk ((by rw [hg]; exact (below_size (by repeat (first | (with_reducible first | exact HB.out | apply below_alloc | apply pw_below_drewN | apply below_drew1) | exact HB.out))) : w.heap.size ≤ gb124)); clear HB; have HB := n0_; have BK124 := n1_; have GW124 := n2_; have GE124 := n3_; clear n0_ n1_ n2_ n3_; clear hb hbox hg))
 go_loopg [3, 4] k (fun kq v3 v4 w' => ∃ (x3_1 : List (S36)) (x4_1 : Int), v4 = .int .i64 x4_1 ∧ Aside0 (compositorref20_Gaps.l0 kq x3_1 x4_1 a0_0 a0_1 a0_2 a0_3 l0_4 = some r) ∧ Aside0 (kq ≤ k) ∧ Aside0 (Kd.R k36 36 w' w.heap.size (fun _ => True) v3 x3_1) ∧ Aside0 (w'.heap[gb124]? = some (.cells #[.int .i64 a0_0, .int .i64 a0_1, .int .i64 a0_2, .int .i64 a0_3, (.slice A0_4 l0_4.length c0_4)] 24 (0, 0))) ∧ Aside0 (Below w.heap.size w w'))
 case atStart => exact ⟨(([] : List (S36))), (0), (by first | rfl | (simp; done) | (simp [*]; done)), H', ⟨Nat.le_refl _⟩, ⟨by first | exact Kd.R_nil _ _ _ _ _ | exact Kd.N_nil _ _ _ _ _ | exact Kd.V_nil _ _ _ _ _ | exact Kd.Q_nil _ _ _ _ _ | exact Kd.S_nil _ _ _ _ _⟩, ⟨by (with_reducible repeat (first | refine blk_drewN ?_ _ | refine blk_drew ?_ | refine blk_alloc ?_ _)); exact BK124.out⟩, ⟨by repeat (first | (with_reducible first | exact HB.out | apply below_alloc | apply pw_below_drewN | apply below_drew1 | refine below_set ?_ GE124.out) | exact HB.out)⟩⟩
 case round =>
  clear H'
  try clear c1
  try clear p2
  obtain ⟨x3_1, x4_1, rfl, HA, HK1, HO_3, BK124, HB⟩ := hrel
  cases gk with
  | zero => exact absurd HA.out (by simp [compositorref20_Gaps.l0])
  | succ k1 =>
   have H := HA.out
   clear HA
   simp only [compositorref20_Gaps.l0] at H
   by_cases c3 : x4_1 < (l0_4.length : Int)
   ·rw [if_pos c3] at H
    have c3b0 : decide (x4_1 < (l0_4.length : Int)) = true := decide_eq_true c3
    clear c3
    by_cases c4 : 0 ≤ x4_1
    ·rw [if_pos c4] at H
     have c4b0 : decide (0 ≤ x4_1) = true := decide_eq_true c4
     clear c4
     by_cases c5 : ((rd_T33 l0_4 x4_1).f0) = 32
     ·rw [if_pos c5] at H
      have c5b0 : (((rd_T33 l0_4 x4_1).f0) == 32) = true := beq_iff_eq.mpr c5
      have c5b1 : (((rd_T33 l0_4 x4_1).f0) != 32) = false := bne_eq_false_iff_eq.mpr c5
      clear c5
      by_cases c6 : (wrap64 (x4_1 + 1)) < (l0_4.length : Int)
      ·rw [if_pos c6] at H
       have c6b0 : decide ((wrap64 (x4_1 + 1)) < (l0_4.length : Int)) = true := decide_eq_true c6
       (try (have c6b1 : decide ((IntKind.i64.wrap (x4_1 + 1)) < (l0_4.length : Int)) = true := by simp only [i64_w]; exact (decide_eq_true c6)))
       clear c6
       obtain ⟨ji7, hji7⟩ : ∃ j_ : Int, (wrap64 (x4_1 + 1)) = j_ := ⟨_, rfl⟩
       replace H : (if 0 ≤ (ji7) then (if x3_1.length < 8796093022208 then (compositorref20_Gaps.l0 k1 (x3_1 ++ [(⟨(rd_T33 l0_4 x4_1).f1, (rd_T33 l0_4 (ji7)).f1⟩ : S36)]) ji7 a0_0 a0_1 a0_2 a0_3 l0_4) else (none)) else (none)) = some r := by first | (rw [hji7] at H; exact H) | (simp only [hji7] at H ⊢; exact H)
       (try rw [hji7] at c6b0)
       have hji7w : (IntKind.i64.wrap (x4_1 + 1)) = ji7 := (i64_w _).trans hji7
       by_cases c8 : 0 ≤ (ji7)
       ·rw [if_pos c8] at H
        have c8b0 : decide (0 ≤ (ji7)) = true := decide_eq_true c8
        clear c8
        by_cases c9 : x3_1.length < 8796093022208
        ·rw [if_pos c9] at H
         have LMc9 := Aside0.mk c9
         clear c9
         obtain ⟨y128, hy128⟩ : ∃ y_ : List (S36), y_ = (x3_1 ++ [(⟨(rd_T33 l0_4 x4_1).f1, (rd_T33 l0_4 (ji7)).f1⟩ : S36)]) := ⟨_, rfl⟩
         replace H : (compositorref20_Gaps.l0 k1 y128 ji7 a0_0 a0_1 a0_2 a0_3 l0_4) = some r := by first | (rw [hy128]; with_reducible exact H) | (have H2_ := (Option.bind_some _ _).symm.trans H; rw [hy128]; with_reducible exact H2_) | (have H2_ := (Option.bind_some _ _).symm.trans H; with_reducible exact H2_) | with_reducible exact H | (rw [hy128]; exact H) | exact H
         have Ny128 := Aside0.mk hy128
         clear hy128
         have H' := Aside0.mk H
         clear H
         have hcz10_0 : wr.cell? ⟨gb124, 0, none⟩ = some (.int .i64 a0_0) := (blk_cell BK124.out 0).trans rfl
         have hcz10_1 : wr.cell? ⟨gb124, 1, none⟩ = some (.int .i64 a0_1) := (blk_cell BK124.out 1).trans rfl
         have hcz10_2 : wr.cell? ⟨gb124, 2, none⟩ = some (.int .i64 a0_2) := (blk_cell BK124.out 2).trans rfl
         have hcz10_3 : wr.cell? ⟨gb124, 3, none⟩ = some (.int .i64 a0_3) := (blk_cell BK124.out 3).trans rfl
         have hcz10_4 : wr.cell? ⟨gb124, 4, none⟩ = some (.slice A0_4 l0_4.length c0_4) := (blk_cell BK124.out 4).trans rfl
         have hfz10_0 := blk_frozen BK124.out 0
         have hfz10_1 := blk_frozen BK124.out 1
         have hfz10_2 := blk_frozen BK124.out 2
         have hfz10_3 := blk_frozen BK124.out 3
         have hfz10_4 := blk_frozen BK124.out 4
         have p125 : 0 ≤ (x4_1 : Int) := odt
         have q125 : x4_1 < (l0_4.length : Int) := odt
         obtain ⟨ad125, e125, hx125_0, hx125_1⟩ := at_T33 HR0_4.out x4_1 p125 q125
         cases e125
         replace hx125_0 := (HB.out.cell (World.block_lt_of_cell? w _ hx125_0)).trans hx125_0
         replace hx125_1 := (HB.out.cell (World.block_lt_of_cell? w _ hx125_1)).trans hx125_1
         replace p125 := eq_true p125
         replace q125 := eq_true q125
         have p126 : 0 ≤ ((ji7) : Int) := odt
         have q126 : (ji7) < (l0_4.length : Int) := odt
         obtain ⟨ad126, e126, hx126_0, hx126_1⟩ := at_T33 HR0_4.out (ji7) p126 q126
         obtain rfl : ad125 = ad126 := (by injection e126)
         replace hx126_0 := (HB.out.cell (World.block_lt_of_cell? w _ hx126_0)).trans hx126_0
         replace hx126_1 := (HB.out.cell (World.block_lt_of_cell? w _ hx126_1)).trans hx126_1
         replace p126 := eq_true p126
         replace q126 := eq_true q126
         have p127 : 0 ≤ (x4_1 : Int) := odt
         have q127 : x4_1 < (l0_4.length : Int) := odt
         obtain ⟨ad127, e127, hx127_0, hx127_1⟩ := at_T33 HR0_4.out x4_1 p127 q127
         obtain rfl : ad125 = ad127 := (by injection e127)
         replace hx127_0 := (HB.out.cell (World.block_lt_of_cell? w _ hx127_0)).trans hx127_0
         replace hx127_1 := (HB.out.cell (World.block_lt_of_cell? w _ hx127_1)).trans hx127_1
         replace p127 := eq_true p127
         replace q127 := eq_true q127
         go_wp2_with (first | ((with_reducible refine gate_builtin (b := .append) (xs := #[.tmp 35, .tmp 44]) rfl ?_); at_builtin; refine Kd.R_append k36 (w0 := w) w.heap.size rfl (.tmp 35) (.tmp 44) 28 36 (.agg #[(.int .i64 0), (.int .i64 0)]) 16 rfl Try.underlying28 info36 rfl (by decide) (by omega) u3 x3_1 (⟨(rd_T33 l0_4 x4_1).f1, (rd_T33 l0_4 (ji7)).f1⟩ : S36) [.int .i64 ((rd_T33 l0_4 x4_1).f1), .int .i64 ((rd_T33 l0_4 (ji7)).f1)] (fun _ => True) (fun _ => False) rfl rfl ?aP (fun _ hk => hk.elim) ?aF ?aO ?aB ?aS ?aL ?_; (case aP => exact k36_mkM _ _ _ (⟨(rd_T33 l0_4 x4_1).f1, (rd_T33 l0_4 (ji7)).f1⟩ : S36)); (case aB => exact (by repeat (first | (with_reducible first | exact HB.out | apply below_alloc | apply pw_below_drewN | apply below_drew1 | refine below_set ?_ GE124.out) | exact HB.out))); (case aF => exact (fun _ _ => trivial)); (case aO => exact (by (with_reducible repeat (first | apply Kd.R_alloc | apply Kd.R_drewN | apply Kd.R_drew)); exact HO_3.out)); (case aS => exact (below_size (by repeat (first | (with_reducible first | exact HB.out | apply below_alloc | apply pw_below_drewN | apply below_drew1 | refine below_set ?_ GE124.out) | exact HB.out)))); (case aL => have := LMc9.out; omega); intro v129 w11 ho hb hg hat; rw [← Ny128.out] at ho; have n0_ := Aside0.mk (blk_grown (g := gb124) (o := .cells #[.int .i64 a0_0, .int .i64 a0_1, .int .i64 a0_2, .int .i64 a0_3, .slice (some ad125) l0_4.length c0_4] 24 (0, 0)) (by (with_reducible repeat (first | refine blk_drewN ?_ _ | refine blk_drew ?_ | refine blk_alloc ?_ _)); exact BK124.out) hg (Kd.R_ne HO_3.out BK124.out (by decide))); have n1_ := Aside0.mk (hb); have n2_ := Aside0.mk (ho); clear BK124; clear HB; clear HO_3; have BK124 := n0_; have HB := n1_; have HO130 := n2_; clear n0_ n1_ n2_; clear ho hb hg hat))
         go_roundg k1
         case measure => have := HK1.out; omega
         case rel => exact ⟨(y128), (ji7), (by first | rfl | (simp; done) | (simp only [← hji7] <;> (first | rfl | simp)) | (simp [*]; done)), H', ⟨by have := HK1.out; omega⟩, ⟨by (with_reducible repeat (first | apply Kd.R_alloc | apply Kd.R_drewN | apply Kd.R_drew)); exact HO130.out⟩, ⟨by (with_reducible repeat (first | refine blk_drewN ?_ _ | refine blk_drew ?_ | refine blk_alloc ?_ _)); exact BK124.out⟩, ⟨by repeat (first | (with_reducible first | exact HB.out | apply below_alloc | apply pw_below_drewN | apply below_drew1 | refine below_set ?_ GE124.out) | exact HB.out)⟩⟩
        ·rw [if_neg c9] at H
         exact absurd H (by simp)
       ·rw [if_neg c8] at H
        exact absurd H (by simp)
      ·rw [if_neg c6] at H
       have c6b0 : decide ((wrap64 (x4_1 + 1)) < (l0_4.length : Int)) = false := decide_eq_false c6
       (try (have c6b1 : decide ((IntKind.i64.wrap (x4_1 + 1)) < (l0_4.length : Int)) = false := by simp only [i64_w]; exact (decide_eq_false c6)))
       clear c6
       by_cases c12 : x3_1.length < 8796093022208
       ·rw [if_pos c12] at H
        have LMc12 := Aside0.mk c12
        clear c12
        obtain ⟨y132, hy132⟩ : ∃ y_ : List (S36), y_ = (x3_1 ++ [(⟨(rd_T33 l0_4 x4_1).f1, a0_2⟩ : S36)]) := ⟨_, rfl⟩
        replace H : (compositorref20_Gaps.l0 k1 y132 (wrap64 (x4_1 + 1)) a0_0 a0_1 a0_2 a0_3 l0_4) = some r := by first | (rw [hy132]; with_reducible exact H) | (have H2_ := (Option.bind_some _ _).symm.trans H; rw [hy132]; with_reducible exact H2_) | (have H2_ := (Option.bind_some _ _).symm.trans H; with_reducible exact H2_) | with_reducible exact H | (rw [hy132]; exact H) | exact H
        have Ny132 := Aside0.mk hy132
        clear hy132
        have H' := Aside0.mk H
        clear H
        have hcz13_0 : wr.cell? ⟨gb124, 0, none⟩ = some (.int .i64 a0_0) := (blk_cell BK124.out 0).trans rfl
        have hcz13_1 : wr.cell? ⟨gb124, 1, none⟩ = some (.int .i64 a0_1) := (blk_cell BK124.out 1).trans rfl
        have hcz13_2 : wr.cell? ⟨gb124, 2, none⟩ = some (.int .i64 a0_2) := (blk_cell BK124.out 2).trans rfl
        have hcz13_3 : wr.cell? ⟨gb124, 3, none⟩ = some (.int .i64 a0_3) := (blk_cell BK124.out 3).trans rfl
        have hcz13_4 : wr.cell? ⟨gb124, 4, none⟩ = some (.slice A0_4 l0_4.length c0_4) := (blk_cell BK124.out 4).trans rfl
        have hfz13_0 := blk_frozen BK124.out 0
        have hfz13_1 := blk_frozen BK124.out 1
        have hfz13_2 := blk_frozen BK124.out 2
        have hfz13_3 := blk_frozen BK124.out 3
        have hfz13_4 := blk_frozen BK124.out 4
        have p125 : 0 ≤ (x4_1 : Int) := odt
        have q125 : x4_1 < (l0_4.length : Int) := odt
        obtain ⟨ad125, e125, hx125_0, hx125_1⟩ := at_T33 HR0_4.out x4_1 p125 q125
        cases e125
        replace hx125_0 := (HB.out.cell (World.block_lt_of_cell? w _ hx125_0)).trans hx125_0
        replace hx125_1 := (HB.out.cell (World.block_lt_of_cell? w _ hx125_1)).trans hx125_1
        replace p125 := eq_true p125
        replace q125 := eq_true q125
        have p131 : 0 ≤ (x4_1 : Int) := odt
        have q131 : x4_1 < (l0_4.length : Int) := odt
        obtain ⟨ad131, e131, hx131_0, hx131_1⟩ := at_T33 HR0_4.out x4_1 p131 q131
        obtain rfl : ad125 = ad131 := (by injection e131)
        replace hx131_0 := (HB.out.cell (World.block_lt_of_cell? w _ hx131_0)).trans hx131_0
        replace hx131_1 := (HB.out.cell (World.block_lt_of_cell? w _ hx131_1)).trans hx131_1
        replace p131 := eq_true p131
        replace q131 := eq_true q131
        go_wp2_with (first | ((with_reducible refine gate_builtin (b := .append) (xs := #[.tmp 35, .tmp 44]) rfl ?_); at_builtin; refine Kd.R_append k36 (w0 := w) w.heap.size rfl (.tmp 35) (.tmp 44) 28 36 (.agg #[(.int .i64 0), (.int .i64 0)]) 16 rfl Try.underlying28 info36 rfl (by decide) (by omega) u3 x3_1 (⟨(rd_T33 l0_4 x4_1).f1, a0_2⟩ : S36) [.int .i64 ((rd_T33 l0_4 x4_1).f1), .int .i64 a0_2] (fun _ => True) (fun _ => False) rfl rfl ?aP (fun _ hk => hk.elim) ?aF ?aO ?aB ?aS ?aL ?_; (case aP => exact k36_mkM _ _ _ (⟨(rd_T33 l0_4 x4_1).f1, a0_2⟩ : S36)); (case aB => exact (by repeat (first | (with_reducible first | exact HB.out | apply below_alloc | apply pw_below_drewN | apply below_drew1 | refine below_set ?_ GE124.out) | exact HB.out))); (case aF => exact (fun _ _ => trivial)); (case aO => exact (by (with_reducible repeat (first | apply Kd.R_alloc | apply Kd.R_drewN | apply Kd.R_drew)); exact HO_3.out)); (case aS => exact (below_size (by repeat (first | (with_reducible first | exact HB.out | apply below_alloc | apply pw_below_drewN | apply below_drew1 | refine below_set ?_ GE124.out) | exact HB.out)))); (case aL => have := LMc12.out; omega); intro v133 w14 ho hb hg hat; rw [← Ny132.out] at ho; have n0_ := Aside0.mk (blk_grown (g := gb124) (o := .cells #[.int .i64 a0_0, .int .i64 a0_1, .int .i64 a0_2, .int .i64 a0_3, .slice (some ad125) l0_4.length c0_4] 24 (0, 0)) (by (with_reducible repeat (first | refine blk_drewN ?_ _ | refine blk_drew ?_ | refine blk_alloc ?_ _)); exact BK124.out) hg (Kd.R_ne HO_3.out BK124.out (by decide))); have n1_ := Aside0.mk (hb); have n2_ := Aside0.mk (ho); clear BK124; clear HB; clear HO_3; have BK124 := n0_; have HB := n1_; have HO134 := n2_; clear n0_ n1_ n2_; clear ho hb hg hat))
        go_roundg k1
        case measure => have := HK1.out; omega
        case rel => exact ⟨(y132), (wrap64 (x4_1 + 1)), (by first | rfl | (simp; done) | (simp [*]; done)), H', ⟨by have := HK1.out; omega⟩, ⟨by (with_reducible repeat (first | apply Kd.R_alloc | apply Kd.R_drewN | apply Kd.R_drew)); exact HO134.out⟩, ⟨by (with_reducible repeat (first | refine blk_drewN ?_ _ | refine blk_drew ?_ | refine blk_alloc ?_ _)); exact BK124.out⟩, ⟨by repeat (first | (with_reducible first | exact HB.out | apply below_alloc | apply pw_below_drewN | apply below_drew1 | refine below_set ?_ GE124.out) | exact HB.out)⟩⟩
       ·rw [if_neg c12] at H
        exact absurd H (by simp)
     ·rw [if_neg c5] at H
      have c5b0 : (((rd_T33 l0_4 x4_1).f0) == 32) = false := beq_eq_false_iff_ne.mpr c5
      have c5b1 : (((rd_T33 l0_4 x4_1).f0) != 32) = true := bne_iff_ne.mpr c5
      have H' := Aside0.mk H
      clear H
      have hcz15_0 : wr.cell? ⟨gb124, 0, none⟩ = some (.int .i64 a0_0) := (blk_cell BK124.out 0).trans rfl
      have hcz15_1 : wr.cell? ⟨gb124, 1, none⟩ = some (.int .i64 a0_1) := (blk_cell BK124.out 1).trans rfl
      have hcz15_2 : wr.cell? ⟨gb124, 2, none⟩ = some (.int .i64 a0_2) := (blk_cell BK124.out 2).trans rfl
      have hcz15_3 : wr.cell? ⟨gb124, 3, none⟩ = some (.int .i64 a0_3) := (blk_cell BK124.out 3).trans rfl
      have hcz15_4 : wr.cell? ⟨gb124, 4, none⟩ = some (.slice A0_4 l0_4.length c0_4) := (blk_cell BK124.out 4).trans rfl
      have hfz15_0 := blk_frozen BK124.out 0
      have hfz15_1 := blk_frozen BK124.out 1
      have hfz15_2 := blk_frozen BK124.out 2
      have hfz15_3 := blk_frozen BK124.out 3
      have hfz15_4 := blk_frozen BK124.out 4
      have p125 : 0 ≤ (x4_1 : Int) := odt
      have q125 : x4_1 < (l0_4.length : Int) := odt
      obtain ⟨ad125, e125, hx125_0, hx125_1⟩ := at_T33 HR0_4.out x4_1 p125 q125
      cases e125
      replace hx125_0 := (HB.out.cell (World.block_lt_of_cell? w _ hx125_0)).trans hx125_0
      replace hx125_1 := (HB.out.cell (World.block_lt_of_cell? w _ hx125_1)).trans hx125_1
      replace p125 := eq_true p125
      replace q125 := eq_true q125
      go_wp2
      go_roundg k1
      case measure => have := HK1.out; omega
      case rel => exact ⟨(x3_1), (wrap64 (x4_1 + 1)), (by first | rfl | (simp; done) | (simp [*]; done)), H', ⟨by have := HK1.out; omega⟩, ⟨by (with_reducible repeat (first | apply Kd.R_alloc | apply Kd.R_drewN | apply Kd.R_drew)); exact HO_3.out⟩, ⟨by (with_reducible repeat (first | refine blk_drewN ?_ _ | refine blk_drew ?_ | refine blk_alloc ?_ _)); exact BK124.out⟩, ⟨by repeat (first | (with_reducible first | exact HB.out | apply below_alloc | apply pw_below_drewN | apply below_drew1 | refine below_set ?_ GE124.out) | exact HB.out)⟩⟩
    ·rw [if_neg c4] at H
     exact absurd H (by simp)
   ·rw [if_neg c3] at H
    have c3b0 : decide (x4_1 < (l0_4.length : Int)) = false := decide_eq_false c3
    clear c3
    obtain rfl := Option.some.inj H
    have hcz16_0 : wr.cell? ⟨gb124, 0, none⟩ = some (.int .i64 a0_0) := (blk_cell BK124.out 0).trans rfl
    have hcz16_1 : wr.cell? ⟨gb124, 1, none⟩ = some (.int .i64 a0_1) := (blk_cell BK124.out 1).trans rfl
    have hcz16_2 : wr.cell? ⟨gb124, 2, none⟩ = some (.int .i64 a0_2) := (blk_cell BK124.out 2).trans rfl
    have hcz16_3 : wr.cell? ⟨gb124, 3, none⟩ = some (.int .i64 a0_3) := (blk_cell BK124.out 3).trans rfl
    have hcz16_4 : wr.cell? ⟨gb124, 4, none⟩ = some (.slice A0_4 l0_4.length c0_4) := (blk_cell BK124.out 4).trans rfl
    have hfz16_0 := blk_frozen BK124.out 0
    have hfz16_1 := blk_frozen BK124.out 1
    have hfz16_2 := blk_frozen BK124.out 2
    have hfz16_3 := blk_frozen BK124.out 3
    have hfz16_4 := blk_frozen BK124.out 4
    go_wp2
    go_ret
    exact ⟨_, by first | rfl | (simp [errW_none, errW_some] <;> rfl) | (simp [*, errW_none, errW_some] <;> rfl), by (with_reducible repeat (first | apply Kd.R_alloc | apply Kd.R_drewN | apply Kd.R_drew)); exact HO_3.out, by repeat (first | (with_reducible first | exact HB.out | apply below_alloc | apply pw_below_drewN | apply below_drew1 | refine below_set ?_ GE124.out) | exact HB.out)⟩

end Go.Proofs.Ytpicbjcpdngmlaa.G
