/- Contracts of the functions of this seat: what each call computes, as a plain Lean function. Made by this session's own generator. -/
import Derived.Test.YtepllkdlnajbjaaGx0
import Derived.Test.YtepllkdlnajbjaaGx13
namespace Go.Proofs.Ytepllkdlnajbjaa.G
open Go.RowKit Go.Proofs.YtepllkdlnajbjaaMy Go.Proofs.YtepllkdlnajbjaaW.PrintWords Go.Proofs.YtepllkdlnajbjaaW.PrintLast Go.Proofs.YtepllkdlnajbjaaW.PrintMore
attribute [local go_sem] max2_int min2_int max_two min_two max_three min_three max_four min_four   -- for this text's walks alone
set_option linter.unusedVariables false
set_option linter.unusedSimpArgs false

/-! ### compositorref17_Stands: function 11 -/
def compositorref17_Stands.j0 : Nat → List (S41) → Bool → Int → Int → Int → Option (Bool)
 | 0, _, _, _, _, _ => none
 | k + 1, x0, x22, x353000, x353001, x353002 => if x22 = true then (some false) else (if 0 ≤ x353001 then (if x353001 < (x0.length : Int) then (if x353000 = 0 then (if x353001 = 0 then (some (x353002 == 0)) else (some false)) else (if x353000 = 1 then (if x353001 < (wrap64 ((x0.length : Int) - 1)) then (some (x353002 == (((rd_T41 x0 x353001).f0).length : Int))) else (some false)) else (if x353000 = 5 then (if x353001 = (wrap64 ((x0.length : Int) - 1)) then (some (x353002 == (((rd_T41 x0 x353001).f0).length : Int))) else (some false)) else (if x353000 ≥ 2 then (if x353000 ≤ 4 then (if x353002 ≥ 1 then (some (decide (x353002 < (((rd_T41 x0 x353001).f0).length : Int)))) else (some false)) else (some false)) else (some false))))) else (none)) else (none))
def compositorref17_Stands.f (k : Nat) (l0 : List (S41)) (a1_0 : Int) (a1_1 : Int) (a1_2 : Int) : Option (Bool) := (compositorref13_Check.f k l0).bind fun t353 => (if t353 = true then (if a1_1 < 0 then (compositorref17_Stands.j0 k l0 true a1_0 a1_1 a1_2) else (compositorref17_Stands.j0 k l0 (decide (a1_1 ≥ (l0.length : Int))) a1_0 a1_1 a1_2)) else (compositorref17_Stands.j0 k l0 true a1_0 a1_1 a1_2))
theorem compositorref17_Stands.mono_l : ∀ k, (∀ y0 y1 y2 y3 y4, LeO (compositorref17_Stands.j0 k y0 y1 y2 y3 y4) (compositorref17_Stands.j0 (k + 1) y0 y1 y2 y3 y4))
 | 0 => fun _ _ _ _ _ r h => by simp [compositorref17_Stands.j0] at h
 | k + 1 => by
  have ih0 := compositorref17_Stands.mono_l k
  ·intro y0 y1 y2 y3 y4
   unfold compositorref17_Stands.j0
   repeat' first
   | (with_reducible exact ih0 _ _ _ _ _)
   | (with_reducible exact compositorref13_Check.mono _ _)
   | (with_reducible exact LeO.refl _)
   | (with_reducible exact LeO.none _)
   | (with_reducible refine LeO.ite ?_ ?_)
   | (with_reducible refine LeO.bind ?_ (fun _ => ?_))
   | exact ih0 _ _ _ _ _
   | exact compositorref13_Check.mono _ _
   | exact LeO.none _
   | refine LeO.ite ?_ ?_
   | refine LeO.bind ?_ (fun _ => ?_)
theorem compositorref17_Stands.mono : ∀ a0 a1 a2 a3 k, LeO (compositorref17_Stands.f k a0 a1 a2 a3) (compositorref17_Stands.f (k + 1) a0 a1 a2 a3) := by
 intro a0 a1 a2 a3 k
 have ih0 := compositorref17_Stands.mono_l k
 unfold compositorref17_Stands.f
 repeat' first
   | (with_reducible exact ih0 _ _ _ _ _)
   | (with_reducible exact compositorref13_Check.mono _ _)
   | (with_reducible exact LeO.refl _)
   | (with_reducible exact LeO.none _)
   | (with_reducible refine LeO.ite ?_ ?_)
   | (with_reducible refine LeO.bind ?_ (fun _ => ?_))
   | exact ih0 _ _ _ _ _
   | exact compositorref13_Check.mono _ _
   | exact LeO.none _
   | refine LeO.ite ?_ ?_
   | refine LeO.bind ?_ (fun _ => ?_)
set_option maxHeartbeats 8000000 in
set_option maxRecDepth 100000 in
theorem compositorref17_Stands.calls (k : Nat) (A0 : Option Addr) (c0 : Nat) (l0 : List (S41)) (a1_0 : Int) (a1_1 : Int) (a1_2 : Int) (r : Bool) (w : World) (hr0 : Kd.C k41 w A0 l0.length l0) (hc0 : l0.length ≤ c0) (h : compositorref17_Stands.f k l0 a1_0 a1_1 a1_2 = some r) :
  Calls Try.prog 11 #[.slice A0 l0.length c0, .agg #[.int .i64 a1_0, .int .i64 a1_1, .int .i64 a1_2]] w fun e w' => e = .returned (.bool r) ∧ Below w.heap.size w w' := by
 have hu24 := Try.underlying24
 have HR0 := Aside0.mk hr0
 have HC0 := Aside0.mk hc0
 clear hr0 hc0
 have HB := Aside0.mk (Below.refl w.heap.size w)
 have H : ((compositorref13_Check.f k l0).bind fun t353 => (if t353 = true then (if a1_1 < 0 then (compositorref17_Stands.j0 k l0 true a1_0 a1_1 a1_2) else (compositorref17_Stands.j0 k l0 (decide (a1_1 ≥ (l0.length : Int))) a1_0 a1_1 a1_2)) else (compositorref17_Stands.j0 k l0 true a1_0 a1_1 a1_2))) = some r := h
 clear h
 replace H := Option.bind_eq_some_iff.mp H
 obtain ⟨t353, A30, H⟩ := H
 replace H : (if t353 = true then (if a1_1 < 0 then (compositorref17_Stands.j0 k l0 true a1_0 a1_1 a1_2) else (compositorref17_Stands.j0 k l0 (decide (a1_1 ≥ (l0.length : Int))) a1_0 a1_1 a1_2)) else (compositorref17_Stands.j0 k l0 true a1_0 a1_1 a1_2)) = some r := H
 have A3 := Aside0.mk A30
 clear A30
 have HC4 := Aside0.mk H
 clear H
 go_enter Try.func11, Try.ntmps11
 go_upto_region 2 with (first | ((with_reducible refine gate_dst (N := 3) rfl ?_); (try (refine gate_guard (by rfl) ?_; dsimp only)); refine box_event ?hg (N := 3) ?hd (cs := #[.int .i64 a1_0, .int .i64 a1_1, .int .i64 a1_2]) (t := 24) ?hr ?_; (case hd => rfl); (case hg => rfl); (case hr => first | (go_simp; done) | (go_simp; rfl)); intro gb352 hg w5 hbox hb; have n0_ := Aside0.mk (below_step (by repeat (first | (with_reducible first | exact HB.out | apply below_alloc | apply pw_below_drewN | apply below_drew1) | exact HB.out)) hb); have n1_ := Aside0.mk (hbox); have n2_ := Aside0.mk ((by rw [hg]; exact (below_size (by repeat (first | (with_reducible first | exact HB.out | apply below_alloc | apply pw_below_drewN | apply below_drew1) | exact HB.out))) : w.heap.size ≤ gb352)); have n3_ := Aside0.mk ((by rw [hg]; exact (below_size (by repeat (first | (with_reducible first | exact HB.out | apply below_alloc | apply pw_below_drewN | apply below_drew1) | exact HB.out))) : w.heap.size ≤ gb352)); clear HB; have HB := n0_; have BK352 := n1_; have GW352 := n2_; have GE352 := n3_; clear n0_ n1_ n2_ n3_; clear hb hbox hg) | ((with_reducible refine gate_callee (f := 20) rfl ?_); refine goesL_ (some 8) rfl rfl Try.func20 (by kernel_rfl) rfl #[.slice A0 l0.length c0] rfl (by (try simp only [List.map_toArray, List.map_cons, List.map_nil]); first | done | rfl | (simp only [List.length_drop, List.length_take]; rfl)) ?_; (with_reducible refine (compositorref13_Check.calls k _ _ l0 t353 _ ?side1 ?side2 A3.out).mono ?_); (case side1 => repeat (first | exact (Kd.C_below HR0.out HB.out) | (with_reducible refine Kd.C_alloc ?_ _) | (with_reducible refine Kd.C_drewN ?_ _) | (with_reducible refine Kd.C_drew ?_))); (case side2 => exact HC0.out); rintro e w6 ⟨rfl, hb⟩; refine ⟨_, rfl, ?_⟩; have n0_ := Aside0.mk (blk_below (g := gb352) (o := .cells #[.int .i64 a1_0, .int .i64 a1_1, .int .i64 a1_2] 24 (0, 0)) (by (with_reducible repeat (first | refine blk_drewN ?_ _ | refine blk_drew ?_ | refine blk_alloc ?_ _)); exact BK352.out) hb); have n1_ := Aside0.mk (below_step (by repeat (first | (with_reducible first | exact HB.out | apply below_alloc | apply pw_below_drewN | apply below_drew1 | refine below_set ?_ GE352.out) | exact HB.out)) hb); clear BK352; clear HB; have BK352 := n0_; have HB := n1_; clear n0_ n1_; (try clear hb); (try clear hb2); (try clear hk); (try clear hi)))
 (try simp only [Act.put, List.setIfInBounds_toArray, List.set_cons_zero, List.set_cons_succ])
 go_cut [22] (fun v22 wc => ∃ (kq : Nat) (x22_3 : Bool), v22 = .bool x22_3 ∧ Aside0 (compositorref17_Stands.j0 kq l0 x22_3 a1_0 a1_1 a1_2 = some r) ∧ Aside0 (kq ≤ k) ∧ Aside0 (wc.heap[gb352]? = some (.cells #[.int .i64 a1_0, .int .i64 a1_1, .int .i64 a1_2] 24 (0, 0))) ∧ Aside0 (Below w.heap.size w wc))
 case first =>
  have H := HC4.out
  clear HC4
  by_cases c7 : t353 = true
  ·subst c7
   have H1 : (if a1_1 < 0 then (compositorref17_Stands.j0 k l0 true a1_0 a1_1 a1_2) else (compositorref17_Stands.j0 k l0 (decide (a1_1 ≥ (l0.length : Int))) a1_0 a1_1 a1_2)) = some r := by rw [if_pos rfl] at H; exact H
   clear H
   have H := H1
   clear H1
   by_cases c8 : a1_1 < 0
   ·rw [if_pos c8] at H
    have c8b0 : decide (a1_1 < 0) = true := decide_eq_true c8
    clear c8
    (first | rw [c8b0] | (simp only [i64_w, i32_w]; rw [c8b0]) | skip)
    have H' := Aside0.mk H
    clear H
    have hcz9_0 : w6.cell? ⟨gb352, 0, none⟩ = some (.int .i64 a1_0) := (blk_cell BK352.out 0).trans rfl
    have hcz9_1 : w6.cell? ⟨gb352, 1, none⟩ = some (.int .i64 a1_1) := (blk_cell BK352.out 1).trans rfl
    have hcz9_2 : w6.cell? ⟨gb352, 2, none⟩ = some (.int .i64 a1_2) := (blk_cell BK352.out 2).trans rfl
    have hfz9_0 := blk_frozen BK352.out 0
    have hfz9_1 := blk_frozen BK352.out 1
    have hfz9_2 := blk_frozen BK352.out 2
    go_wp2
    go_meet
    case rel => exact ⟨_, (true), (by first | rfl | (simp; done) | (simp [*]; done)), H', ⟨by first | omega | exact Nat.le_refl _⟩, ⟨by (with_reducible repeat (first | refine blk_drewN ?_ _ | refine blk_drew ?_ | refine blk_alloc ?_ _)); exact BK352.out⟩, ⟨by repeat (first | (with_reducible first | exact HB.out | apply below_alloc | apply pw_below_drewN | apply below_drew1 | refine below_set ?_ GE352.out) | exact HB.out)⟩⟩
   ·rw [if_neg c8] at H
    have c8b0 : decide (a1_1 < 0) = false := decide_eq_false c8
    clear c8
    (first | rw [c8b0] | (simp only [i64_w, i32_w]; rw [c8b0]) | skip)
    have H' := Aside0.mk H
    clear H
    have hcz10_0 : w6.cell? ⟨gb352, 0, none⟩ = some (.int .i64 a1_0) := (blk_cell BK352.out 0).trans rfl
    have hcz10_1 : w6.cell? ⟨gb352, 1, none⟩ = some (.int .i64 a1_1) := (blk_cell BK352.out 1).trans rfl
    have hcz10_2 : w6.cell? ⟨gb352, 2, none⟩ = some (.int .i64 a1_2) := (blk_cell BK352.out 2).trans rfl
    have hfz10_0 := blk_frozen BK352.out 0
    have hfz10_1 := blk_frozen BK352.out 1
    have hfz10_2 := blk_frozen BK352.out 2
    go_wp2
    go_meet
    case rel => exact ⟨_, (decide (a1_1 ≥ (l0.length : Int))), (by first | rfl | (simp; done) | (simp [*]; done)), H', ⟨by first | omega | exact Nat.le_refl _⟩, ⟨by (with_reducible repeat (first | refine blk_drewN ?_ _ | refine blk_drew ?_ | refine blk_alloc ?_ _)); exact BK352.out⟩, ⟨by repeat (first | (with_reducible first | exact HB.out | apply below_alloc | apply pw_below_drewN | apply below_drew1 | refine below_set ?_ GE352.out) | exact HB.out)⟩⟩
  ·replace c7 := Bool.eq_false_iff.mpr c7
   subst c7
   have H1 : (compositorref17_Stands.j0 k l0 true a1_0 a1_1 a1_2) = some r := by rw [if_neg (show ¬ (false = true) by decide)] at H; exact H
   clear H
   have H := H1
   clear H1
   have H' := Aside0.mk H
   clear H
   go_wp2
   go_meet
   case rel => exact ⟨_, (true), (by first | rfl | (simp; done) | (simp [*]; done)), H', ⟨by first | omega | exact Nat.le_refl _⟩, ⟨by (with_reducible repeat (first | refine blk_drewN ?_ _ | refine blk_drew ?_ | refine blk_alloc ?_ _)); exact BK352.out⟩, ⟨by repeat (first | (with_reducible first | exact HB.out | apply below_alloc | apply pw_below_drewN | apply below_drew1 | refine below_set ?_ GE352.out) | exact HB.out)⟩⟩
 case rest =>
  clear HC4
  try clear c1
  try clear c2
  try clear p2
  try clear c7
  try clear c8
  try clear c8b0
  try clear hcz10_0
  try clear hcz10_1
  try clear hcz10_2
  try clear hcz9_0
  try clear hcz9_1
  try clear hcz9_2
  try clear hfz10_0
  try clear hfz10_1
  try clear hfz10_2
  try clear hfz9_0
  try clear hfz9_1
  try clear hfz9_2
  obtain ⟨kq, x22_3, rfl, HA, HJ3, BK352, HB⟩ := hcut
  cases kq with
  | zero => exact absurd HA.out (by simp [compositorref17_Stands.j0])
  | succ kj3 =>
   have H := HA.out
   clear HA
   simp only [compositorref17_Stands.j0] at H
   by_cases c11 : x22_3 = true
   ·subst c11
    have H1 : (some false) = some r := by rw [if_pos rfl] at H; exact H
    clear H
    have H := H1
    clear H1
    obtain rfl := Option.some.inj H
    go_wp2
    go_ret
    exact ⟨by first | rfl | (simp [errW_none, errW_some] <;> rfl) | (simp [*, errW_none, errW_some] <;> rfl), by repeat (first | (with_reducible first | exact HB.out | apply below_alloc | apply pw_below_drewN | apply below_drew1 | refine below_set ?_ GE352.out) | exact HB.out)⟩
   ·replace c11 := Bool.eq_false_iff.mpr c11
    subst c11
    have H1 : (if 0 ≤ a1_1 then (if a1_1 < (l0.length : Int) then (if a1_0 = 0 then (if a1_1 = 0 then (some (a1_2 == 0)) else (some false)) else (if a1_0 = 1 then (if a1_1 < (wrap64 ((l0.length : Int) - 1)) then (some (a1_2 == (((rd_T41 l0 a1_1).f0).length : Int))) else (some false)) else (if a1_0 = 5 then (if a1_1 = (wrap64 ((l0.length : Int) - 1)) then (some (a1_2 == (((rd_T41 l0 a1_1).f0).length : Int))) else (some false)) else (if a1_0 ≥ 2 then (if a1_0 ≤ 4 then (if a1_2 ≥ 1 then (some (decide (a1_2 < (((rd_T41 l0 a1_1).f0).length : Int)))) else (some false)) else (some false)) else (some false))))) else (none)) else (none)) = some r := by rw [if_neg (show ¬ (false = true) by decide)] at H; exact H
    clear H
    have H := H1
    clear H1
    by_cases c12 : 0 ≤ a1_1
    ·rw [if_pos c12] at H
     have c12b0 : decide (0 ≤ a1_1) = true := decide_eq_true c12
     clear c12
     by_cases c13 : a1_1 < (l0.length : Int)
     ·rw [if_pos c13] at H
      have c13b0 : decide (a1_1 < (l0.length : Int)) = true := decide_eq_true c13
      clear c13
      by_cases c14 : a1_0 = 0
      ·rw [if_pos c14] at H
       have c14b0 : (a1_0 == 0) = true := beq_iff_eq.mpr c14
       have c14b1 : (a1_0 != 0) = false := bne_eq_false_iff_eq.mpr c14
       clear c14
       by_cases c15 : a1_1 = 0
       ·rw [if_pos c15] at H
        have c15b0 : (a1_1 == 0) = true := beq_iff_eq.mpr c15
        have c15b1 : (a1_1 != 0) = false := bne_eq_false_iff_eq.mpr c15
        clear c15
        obtain rfl := Option.some.inj H
        have hcz16_0 : wc.cell? ⟨gb352, 0, none⟩ = some (.int .i64 a1_0) := (blk_cell BK352.out 0).trans rfl
        have hcz16_1 : wc.cell? ⟨gb352, 1, none⟩ = some (.int .i64 a1_1) := (blk_cell BK352.out 1).trans rfl
        have hcz16_2 : wc.cell? ⟨gb352, 2, none⟩ = some (.int .i64 a1_2) := (blk_cell BK352.out 2).trans rfl
        have hfz16_0 := blk_frozen BK352.out 0
        have hfz16_1 := blk_frozen BK352.out 1
        have hfz16_2 := blk_frozen BK352.out 2
        have p354 : 0 ≤ (a1_1 : Int) := odt
        have q354 : a1_1 < (l0.length : Int) := odt
        obtain ⟨ad354, A354_0, c354_0, A354_1, c354_1, e354, hx354_0, hx354_1, hl354_0, hi354_0, hl354_1, hi354_1⟩ := at_T41 HR0.out a1_1 p354 q354
        cases e354
        replace hx354_0 := (HB.out.cell (World.block_lt_of_cell? w _ hx354_0)).trans hx354_0
        replace hx354_1 := (HB.out.cell (World.block_lt_of_cell? w _ hx354_1)).trans hx354_1
        have HR354_0 := Aside0.mk hi354_0
        have HC354_0 := Aside0.mk hl354_0
        clear hi354_0 hl354_0
        have HR354_1 := Aside0.mk hi354_1
        have HC354_1 := Aside0.mk hl354_1
        clear hi354_1 hl354_1
        replace p354 := eq_true p354
        replace q354 := eq_true q354
        go_wp2
        go_ret
        exact ⟨by first | rfl | (simp [errW_none, errW_some] <;> rfl) | (simp [*, errW_none, errW_some] <;> rfl), by repeat (first | (with_reducible first | exact HB.out | apply below_alloc | apply pw_below_drewN | apply below_drew1 | refine below_set ?_ GE352.out) | exact HB.out)⟩
       ·rw [if_neg c15] at H
        have c15b0 : (a1_1 == 0) = false := beq_eq_false_iff_ne.mpr c15
        have c15b1 : (a1_1 != 0) = true := bne_iff_ne.mpr c15
        obtain rfl := Option.some.inj H
        have hcz17_0 : wc.cell? ⟨gb352, 0, none⟩ = some (.int .i64 a1_0) := (blk_cell BK352.out 0).trans rfl
        have hcz17_1 : wc.cell? ⟨gb352, 1, none⟩ = some (.int .i64 a1_1) := (blk_cell BK352.out 1).trans rfl
        have hcz17_2 : wc.cell? ⟨gb352, 2, none⟩ = some (.int .i64 a1_2) := (blk_cell BK352.out 2).trans rfl
        have hfz17_0 := blk_frozen BK352.out 0
        have hfz17_1 := blk_frozen BK352.out 1
        have hfz17_2 := blk_frozen BK352.out 2
        have p354 : 0 ≤ (a1_1 : Int) := odt
        have q354 : a1_1 < (l0.length : Int) := odt
        obtain ⟨ad354, A354_0, c354_0, A354_1, c354_1, e354, hx354_0, hx354_1, hl354_0, hi354_0, hl354_1, hi354_1⟩ := at_T41 HR0.out a1_1 p354 q354
        cases e354
        replace hx354_0 := (HB.out.cell (World.block_lt_of_cell? w _ hx354_0)).trans hx354_0
        replace hx354_1 := (HB.out.cell (World.block_lt_of_cell? w _ hx354_1)).trans hx354_1
        have HR354_0 := Aside0.mk hi354_0
        have HC354_0 := Aside0.mk hl354_0
        clear hi354_0 hl354_0
        have HR354_1 := Aside0.mk hi354_1
        have HC354_1 := Aside0.mk hl354_1
        clear hi354_1 hl354_1
        replace p354 := eq_true p354
        replace q354 := eq_true q354
        go_wp2
        go_ret
        exact ⟨by first | rfl | (simp [errW_none, errW_some] <;> rfl) | (simp [*, errW_none, errW_some] <;> rfl), by repeat (first | (with_reducible first | exact HB.out | apply below_alloc | apply pw_below_drewN | apply below_drew1 | refine below_set ?_ GE352.out) | exact HB.out)⟩
      ·rw [if_neg c14] at H
       have c14b0 : (a1_0 == 0) = false := beq_eq_false_iff_ne.mpr c14
       have c14b1 : (a1_0 != 0) = true := bne_iff_ne.mpr c14
       by_cases c18 : a1_0 = 1
       ·rw [if_pos c18] at H
        have c18b0 : (a1_0 == 1) = true := beq_iff_eq.mpr c18
        have c18b1 : (a1_0 != 1) = false := bne_eq_false_iff_eq.mpr c18
        clear c18
        by_cases c19 : a1_1 < (wrap64 ((l0.length : Int) - 1))
        ·rw [if_pos c19] at H
         have c19b0 : decide (a1_1 < (wrap64 ((l0.length : Int) - 1))) = true := decide_eq_true c19
         (try (have c19b1 : decide (a1_1 < (IntKind.i64.wrap ((l0.length : Int) - 1))) = true := by simp only [i64_w]; exact (decide_eq_true c19)))
         clear c19
         obtain rfl := Option.some.inj H
         have hcz20_0 : wc.cell? ⟨gb352, 0, none⟩ = some (.int .i64 a1_0) := (blk_cell BK352.out 0).trans rfl
         have hcz20_1 : wc.cell? ⟨gb352, 1, none⟩ = some (.int .i64 a1_1) := (blk_cell BK352.out 1).trans rfl
         have hcz20_2 : wc.cell? ⟨gb352, 2, none⟩ = some (.int .i64 a1_2) := (blk_cell BK352.out 2).trans rfl
         have hfz20_0 := blk_frozen BK352.out 0
         have hfz20_1 := blk_frozen BK352.out 1
         have hfz20_2 := blk_frozen BK352.out 2
         have p354 : 0 ≤ (a1_1 : Int) := odt
         have q354 : a1_1 < (l0.length : Int) := odt
         obtain ⟨ad354, A354_0, c354_0, A354_1, c354_1, e354, hx354_0, hx354_1, hl354_0, hi354_0, hl354_1, hi354_1⟩ := at_T41 HR0.out a1_1 p354 q354
         cases e354
         replace hx354_0 := (HB.out.cell (World.block_lt_of_cell? w _ hx354_0)).trans hx354_0
         replace hx354_1 := (HB.out.cell (World.block_lt_of_cell? w _ hx354_1)).trans hx354_1
         have HR354_0 := Aside0.mk hi354_0
         have HC354_0 := Aside0.mk hl354_0
         clear hi354_0 hl354_0
         have HR354_1 := Aside0.mk hi354_1
         have HC354_1 := Aside0.mk hl354_1
         clear hi354_1 hl354_1
         replace p354 := eq_true p354
         replace q354 := eq_true q354
         go_wp2
         go_ret
         exact ⟨by first | rfl | (simp [errW_none, errW_some] <;> rfl) | (simp [*, errW_none, errW_some] <;> rfl), by repeat (first | (with_reducible first | exact HB.out | apply below_alloc | apply pw_below_drewN | apply below_drew1 | refine below_set ?_ GE352.out) | exact HB.out)⟩
        ·rw [if_neg c19] at H
         have c19b0 : decide (a1_1 < (wrap64 ((l0.length : Int) - 1))) = false := decide_eq_false c19
         (try (have c19b1 : decide (a1_1 < (IntKind.i64.wrap ((l0.length : Int) - 1))) = false := by simp only [i64_w]; exact (decide_eq_false c19)))
         clear c19
         obtain rfl := Option.some.inj H
         have hcz21_0 : wc.cell? ⟨gb352, 0, none⟩ = some (.int .i64 a1_0) := (blk_cell BK352.out 0).trans rfl
         have hcz21_1 : wc.cell? ⟨gb352, 1, none⟩ = some (.int .i64 a1_1) := (blk_cell BK352.out 1).trans rfl
         have hcz21_2 : wc.cell? ⟨gb352, 2, none⟩ = some (.int .i64 a1_2) := (blk_cell BK352.out 2).trans rfl
         have hfz21_0 := blk_frozen BK352.out 0
         have hfz21_1 := blk_frozen BK352.out 1
         have hfz21_2 := blk_frozen BK352.out 2
         have p354 : 0 ≤ (a1_1 : Int) := odt
         have q354 : a1_1 < (l0.length : Int) := odt
         obtain ⟨ad354, A354_0, c354_0, A354_1, c354_1, e354, hx354_0, hx354_1, hl354_0, hi354_0, hl354_1, hi354_1⟩ := at_T41 HR0.out a1_1 p354 q354
         cases e354
         replace hx354_0 := (HB.out.cell (World.block_lt_of_cell? w _ hx354_0)).trans hx354_0
         replace hx354_1 := (HB.out.cell (World.block_lt_of_cell? w _ hx354_1)).trans hx354_1
         have HR354_0 := Aside0.mk hi354_0
         have HC354_0 := Aside0.mk hl354_0
         clear hi354_0 hl354_0
         have HR354_1 := Aside0.mk hi354_1
         have HC354_1 := Aside0.mk hl354_1
         clear hi354_1 hl354_1
         replace p354 := eq_true p354
         replace q354 := eq_true q354
         go_wp2
         go_ret
         exact ⟨by first | rfl | (simp [errW_none, errW_some] <;> rfl) | (simp [*, errW_none, errW_some] <;> rfl), by repeat (first | (with_reducible first | exact HB.out | apply below_alloc | apply pw_below_drewN | apply below_drew1 | refine below_set ?_ GE352.out) | exact HB.out)⟩
       ·rw [if_neg c18] at H
        have c18b0 : (a1_0 == 1) = false := beq_eq_false_iff_ne.mpr c18
        have c18b1 : (a1_0 != 1) = true := bne_iff_ne.mpr c18
        by_cases c22 : a1_0 = 5
        ·rw [if_pos c22] at H
         have c22b0 : (a1_0 == 5) = true := beq_iff_eq.mpr c22
         have c22b1 : (a1_0 != 5) = false := bne_eq_false_iff_eq.mpr c22
         clear c22
         by_cases c23 : a1_1 = (wrap64 ((l0.length : Int) - 1))
         ·rw [if_pos c23] at H
          have c23b0 : (a1_1 == (wrap64 ((l0.length : Int) - 1))) = true := beq_iff_eq.mpr c23
          have c23b1 : (a1_1 != (wrap64 ((l0.length : Int) - 1))) = false := bne_eq_false_iff_eq.mpr c23
          (try (have c23b2 : (a1_1 == (IntKind.i64.wrap ((l0.length : Int) - 1))) = true := by simp only [i64_w]; exact (beq_iff_eq.mpr c23)))
          (try (have c23b3 : (a1_1 != (IntKind.i64.wrap ((l0.length : Int) - 1))) = false := by simp only [i64_w]; exact (bne_eq_false_iff_eq.mpr c23)))
          clear c23
          obtain rfl := Option.some.inj H
          have hcz24_0 : wc.cell? ⟨gb352, 0, none⟩ = some (.int .i64 a1_0) := (blk_cell BK352.out 0).trans rfl
          have hcz24_1 : wc.cell? ⟨gb352, 1, none⟩ = some (.int .i64 a1_1) := (blk_cell BK352.out 1).trans rfl
          have hcz24_2 : wc.cell? ⟨gb352, 2, none⟩ = some (.int .i64 a1_2) := (blk_cell BK352.out 2).trans rfl
          have hfz24_0 := blk_frozen BK352.out 0
          have hfz24_1 := blk_frozen BK352.out 1
          have hfz24_2 := blk_frozen BK352.out 2
          have p354 : 0 ≤ (a1_1 : Int) := odt
          have q354 : a1_1 < (l0.length : Int) := odt
          obtain ⟨ad354, A354_0, c354_0, A354_1, c354_1, e354, hx354_0, hx354_1, hl354_0, hi354_0, hl354_1, hi354_1⟩ := at_T41 HR0.out a1_1 p354 q354
          cases e354
          replace hx354_0 := (HB.out.cell (World.block_lt_of_cell? w _ hx354_0)).trans hx354_0
          replace hx354_1 := (HB.out.cell (World.block_lt_of_cell? w _ hx354_1)).trans hx354_1
          have HR354_0 := Aside0.mk hi354_0
          have HC354_0 := Aside0.mk hl354_0
          clear hi354_0 hl354_0
          have HR354_1 := Aside0.mk hi354_1
          have HC354_1 := Aside0.mk hl354_1
          clear hi354_1 hl354_1
          replace p354 := eq_true p354
          replace q354 := eq_true q354
          go_wp2
          go_ret
          exact ⟨by first | rfl | (simp [errW_none, errW_some] <;> rfl) | (simp [*, errW_none, errW_some] <;> rfl), by repeat (first | (with_reducible first | exact HB.out | apply below_alloc | apply pw_below_drewN | apply below_drew1 | refine below_set ?_ GE352.out) | exact HB.out)⟩
         ·rw [if_neg c23] at H
          have c23b0 : (a1_1 == (wrap64 ((l0.length : Int) - 1))) = false := beq_eq_false_iff_ne.mpr c23
          have c23b1 : (a1_1 != (wrap64 ((l0.length : Int) - 1))) = true := bne_iff_ne.mpr c23
          (try (have c23b2 : (a1_1 == (IntKind.i64.wrap ((l0.length : Int) - 1))) = false := by simp only [i64_w]; exact (beq_eq_false_iff_ne.mpr c23)))
          (try (have c23b3 : (a1_1 != (IntKind.i64.wrap ((l0.length : Int) - 1))) = true := by simp only [i64_w]; exact (bne_iff_ne.mpr c23)))
          obtain rfl := Option.some.inj H
          have hcz25_0 : wc.cell? ⟨gb352, 0, none⟩ = some (.int .i64 a1_0) := (blk_cell BK352.out 0).trans rfl
          have hcz25_1 : wc.cell? ⟨gb352, 1, none⟩ = some (.int .i64 a1_1) := (blk_cell BK352.out 1).trans rfl
          have hcz25_2 : wc.cell? ⟨gb352, 2, none⟩ = some (.int .i64 a1_2) := (blk_cell BK352.out 2).trans rfl
          have hfz25_0 := blk_frozen BK352.out 0
          have hfz25_1 := blk_frozen BK352.out 1
          have hfz25_2 := blk_frozen BK352.out 2
          have p354 : 0 ≤ (a1_1 : Int) := odt
          have q354 : a1_1 < (l0.length : Int) := odt
          obtain ⟨ad354, A354_0, c354_0, A354_1, c354_1, e354, hx354_0, hx354_1, hl354_0, hi354_0, hl354_1, hi354_1⟩ := at_T41 HR0.out a1_1 p354 q354
          cases e354
          replace hx354_0 := (HB.out.cell (World.block_lt_of_cell? w _ hx354_0)).trans hx354_0
          replace hx354_1 := (HB.out.cell (World.block_lt_of_cell? w _ hx354_1)).trans hx354_1
          have HR354_0 := Aside0.mk hi354_0
          have HC354_0 := Aside0.mk hl354_0
          clear hi354_0 hl354_0
          have HR354_1 := Aside0.mk hi354_1
          have HC354_1 := Aside0.mk hl354_1
          clear hi354_1 hl354_1
          replace p354 := eq_true p354
          replace q354 := eq_true q354
          go_wp2
          go_ret
          exact ⟨by first | rfl | (simp [errW_none, errW_some] <;> rfl) | (simp [*, errW_none, errW_some] <;> rfl), by repeat (first | (with_reducible first | exact HB.out | apply below_alloc | apply pw_below_drewN | apply below_drew1 | refine below_set ?_ GE352.out) | exact HB.out)⟩
        ·rw [if_neg c22] at H
         have c22b0 : (a1_0 == 5) = false := beq_eq_false_iff_ne.mpr c22
         have c22b1 : (a1_0 != 5) = true := bne_iff_ne.mpr c22
         by_cases c26 : a1_0 ≥ 2
         ·rw [if_pos c26] at H
          have c26b0 : decide (2 ≤ a1_0) = true := decide_eq_true c26
          clear c26
          by_cases c27 : a1_0 ≤ 4
          ·rw [if_pos c27] at H
           have c27b0 : decide (a1_0 ≤ 4) = true := decide_eq_true c27
           clear c27
           by_cases c28 : a1_2 ≥ 1
           ·rw [if_pos c28] at H
            have c28b0 : decide (1 ≤ a1_2) = true := decide_eq_true c28
            clear c28
            obtain rfl := Option.some.inj H
            have hcz29_0 : wc.cell? ⟨gb352, 0, none⟩ = some (.int .i64 a1_0) := (blk_cell BK352.out 0).trans rfl
            have hcz29_1 : wc.cell? ⟨gb352, 1, none⟩ = some (.int .i64 a1_1) := (blk_cell BK352.out 1).trans rfl
            have hcz29_2 : wc.cell? ⟨gb352, 2, none⟩ = some (.int .i64 a1_2) := (blk_cell BK352.out 2).trans rfl
            have hfz29_0 := blk_frozen BK352.out 0
            have hfz29_1 := blk_frozen BK352.out 1
            have hfz29_2 := blk_frozen BK352.out 2
            have p354 : 0 ≤ (a1_1 : Int) := odt
            have q354 : a1_1 < (l0.length : Int) := odt
            obtain ⟨ad354, A354_0, c354_0, A354_1, c354_1, e354, hx354_0, hx354_1, hl354_0, hi354_0, hl354_1, hi354_1⟩ := at_T41 HR0.out a1_1 p354 q354
            cases e354
            replace hx354_0 := (HB.out.cell (World.block_lt_of_cell? w _ hx354_0)).trans hx354_0
            replace hx354_1 := (HB.out.cell (World.block_lt_of_cell? w _ hx354_1)).trans hx354_1
            have HR354_0 := Aside0.mk hi354_0
            have HC354_0 := Aside0.mk hl354_0
            clear hi354_0 hl354_0
            have HR354_1 := Aside0.mk hi354_1
            have HC354_1 := Aside0.mk hl354_1
            clear hi354_1 hl354_1
            replace p354 := eq_true p354
            replace q354 := eq_true q354
            go_wp2
            go_ret
            exact ⟨by first | rfl | (simp [errW_none, errW_some] <;> rfl) | (simp [*, errW_none, errW_some] <;> rfl), by repeat (first | (with_reducible first | exact HB.out | apply below_alloc | apply pw_below_drewN | apply below_drew1 | refine below_set ?_ GE352.out) | exact HB.out)⟩
           ·rw [if_neg c28] at H
            have c28b0 : decide (1 ≤ a1_2) = false := decide_eq_false c28
            clear c28
            obtain rfl := Option.some.inj H
            have hcz30_0 : wc.cell? ⟨gb352, 0, none⟩ = some (.int .i64 a1_0) := (blk_cell BK352.out 0).trans rfl
            have hcz30_1 : wc.cell? ⟨gb352, 1, none⟩ = some (.int .i64 a1_1) := (blk_cell BK352.out 1).trans rfl
            have hcz30_2 : wc.cell? ⟨gb352, 2, none⟩ = some (.int .i64 a1_2) := (blk_cell BK352.out 2).trans rfl
            have hfz30_0 := blk_frozen BK352.out 0
            have hfz30_1 := blk_frozen BK352.out 1
            have hfz30_2 := blk_frozen BK352.out 2
            have p354 : 0 ≤ (a1_1 : Int) := odt
            have q354 : a1_1 < (l0.length : Int) := odt
            obtain ⟨ad354, A354_0, c354_0, A354_1, c354_1, e354, hx354_0, hx354_1, hl354_0, hi354_0, hl354_1, hi354_1⟩ := at_T41 HR0.out a1_1 p354 q354
            cases e354
            replace hx354_0 := (HB.out.cell (World.block_lt_of_cell? w _ hx354_0)).trans hx354_0
            replace hx354_1 := (HB.out.cell (World.block_lt_of_cell? w _ hx354_1)).trans hx354_1
            have HR354_0 := Aside0.mk hi354_0
            have HC354_0 := Aside0.mk hl354_0
            clear hi354_0 hl354_0
            have HR354_1 := Aside0.mk hi354_1
            have HC354_1 := Aside0.mk hl354_1
            clear hi354_1 hl354_1
            replace p354 := eq_true p354
            replace q354 := eq_true q354
            go_wp2
            go_ret
            exact ⟨by first | rfl | (simp [errW_none, errW_some] <;> rfl) | (simp [*, errW_none, errW_some] <;> rfl), by repeat (first | (with_reducible first | exact HB.out | apply below_alloc | apply pw_below_drewN | apply below_drew1 | refine below_set ?_ GE352.out) | exact HB.out)⟩
          ·rw [if_neg c27] at H
           have c27b0 : decide (a1_0 ≤ 4) = false := decide_eq_false c27
           clear c27
           obtain rfl := Option.some.inj H
           have hcz31_0 : wc.cell? ⟨gb352, 0, none⟩ = some (.int .i64 a1_0) := (blk_cell BK352.out 0).trans rfl
           have hcz31_1 : wc.cell? ⟨gb352, 1, none⟩ = some (.int .i64 a1_1) := (blk_cell BK352.out 1).trans rfl
           have hcz31_2 : wc.cell? ⟨gb352, 2, none⟩ = some (.int .i64 a1_2) := (blk_cell BK352.out 2).trans rfl
           have hfz31_0 := blk_frozen BK352.out 0
           have hfz31_1 := blk_frozen BK352.out 1
           have hfz31_2 := blk_frozen BK352.out 2
           have p354 : 0 ≤ (a1_1 : Int) := odt
           have q354 : a1_1 < (l0.length : Int) := odt
           obtain ⟨ad354, A354_0, c354_0, A354_1, c354_1, e354, hx354_0, hx354_1, hl354_0, hi354_0, hl354_1, hi354_1⟩ := at_T41 HR0.out a1_1 p354 q354
           cases e354
           replace hx354_0 := (HB.out.cell (World.block_lt_of_cell? w _ hx354_0)).trans hx354_0
           replace hx354_1 := (HB.out.cell (World.block_lt_of_cell? w _ hx354_1)).trans hx354_1
           have HR354_0 := Aside0.mk hi354_0
           have HC354_0 := Aside0.mk hl354_0
           clear hi354_0 hl354_0
           have HR354_1 := Aside0.mk hi354_1
           have HC354_1 := Aside0.mk hl354_1
           clear hi354_1 hl354_1
           replace p354 := eq_true p354
           replace q354 := eq_true q354
           go_wp2
           go_ret
           exact ⟨by first | rfl | (simp [errW_none, errW_some] <;> rfl) | (simp [*, errW_none, errW_some] <;> rfl), by repeat (first | (with_reducible first | exact HB.out | apply below_alloc | apply pw_below_drewN | apply below_drew1 | refine below_set ?_ GE352.out) | exact HB.out)⟩
         ·rw [if_neg c26] at H
          have c26b0 : decide (2 ≤ a1_0) = false := decide_eq_false c26
          clear c26
          obtain rfl := Option.some.inj H
          have hcz32_0 : wc.cell? ⟨gb352, 0, none⟩ = some (.int .i64 a1_0) := (blk_cell BK352.out 0).trans rfl
          have hcz32_1 : wc.cell? ⟨gb352, 1, none⟩ = some (.int .i64 a1_1) := (blk_cell BK352.out 1).trans rfl
          have hcz32_2 : wc.cell? ⟨gb352, 2, none⟩ = some (.int .i64 a1_2) := (blk_cell BK352.out 2).trans rfl
          have hfz32_0 := blk_frozen BK352.out 0
          have hfz32_1 := blk_frozen BK352.out 1
          have hfz32_2 := blk_frozen BK352.out 2
          have p354 : 0 ≤ (a1_1 : Int) := odt
          have q354 : a1_1 < (l0.length : Int) := odt
          obtain ⟨ad354, A354_0, c354_0, A354_1, c354_1, e354, hx354_0, hx354_1, hl354_0, hi354_0, hl354_1, hi354_1⟩ := at_T41 HR0.out a1_1 p354 q354
          cases e354
          replace hx354_0 := (HB.out.cell (World.block_lt_of_cell? w _ hx354_0)).trans hx354_0
          replace hx354_1 := (HB.out.cell (World.block_lt_of_cell? w _ hx354_1)).trans hx354_1
          have HR354_0 := Aside0.mk hi354_0
          have HC354_0 := Aside0.mk hl354_0
          clear hi354_0 hl354_0
          have HR354_1 := Aside0.mk hi354_1
          have HC354_1 := Aside0.mk hl354_1
          clear hi354_1 hl354_1
          replace p354 := eq_true p354
          replace q354 := eq_true q354
          go_wp2
          go_ret
          exact ⟨by first | rfl | (simp [errW_none, errW_some] <;> rfl) | (simp [*, errW_none, errW_some] <;> rfl), by repeat (first | (with_reducible first | exact HB.out | apply below_alloc | apply pw_below_drewN | apply below_drew1 | refine below_set ?_ GE352.out) | exact HB.out)⟩
     ·rw [if_neg c13] at H
      exact absurd H (by simp)
    ·rw [if_neg c12] at H
     exact absurd H (by simp)

end Go.Proofs.Ytepllkdlnajbjaa.G
