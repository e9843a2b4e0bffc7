/- Contracts of the functions of this seat: what each call computes, as a plain Lean function. Made by this session's own generator. -/
import Derived.Test.YtanhafkoohnjhaaGx0
namespace Go.Proofs.Ytanhafkoohnjhaa.G
open Go.RowKit Go.Proofs.YtanhafkoohnjhaaMy Go.Proofs.YtanhafkoohnjhaaW.PrintWords Go.Proofs.YtanhafkoohnjhaaW.PrintLast Go.Proofs.YtanhafkoohnjhaaW.PrintMore
attribute [local go_sem] max2_int min2_int max_two min_two max_three min_three max_four min_four   -- for this text's walks alone
set_option linter.unusedVariables false
set_option linter.unusedSimpArgs false

/-! ### compositorref13_word: function 26 -/
mutual
def compositorref13_word.j0 : Nat → Bool → List Int → List Int → Option (Bool)
 | 0, _, _, _ => none
 | k + 1, x14, x152000, x152001 => if x14 = true then (some false) else (compositorref13_word.l0 k 0 x152000 x152001)
def compositorref13_word.l0 : Nat → Int → List Int → List Int → Option (Bool)
 | 0, _, _, _ => none
 | k + 1, x3, x152000, x152001 => if x3 < (x152000.length : Int) then (if 0 ≤ x3 then (if (rd x152000 x3) < 33 then (some false) else (if (rd x152000 x3) > 126 then (some false) else (compositorref13_word.l0 k (wrap64 (x3 + 1)) x152000 x152001))) else (none)) else (compositorref13_word.l1 k 0 x152000 x152001)
def compositorref13_word.l1 : Nat → Int → List Int → List Int → Option (Bool)
 | 0, _, _, _ => none
 | k + 1, x4, x152000, x152001 => if x4 < (x152001.length : Int) then (if 0 ≤ x4 then (if (rd x152001 x4) < 1 then (some false) else (if (rd x152001 x4) ≥ (x152000.length : Int) then (some false) else (if x4 > 0 then (if 0 ≤ (wrap64 (x4 - 1)) then (if (wrap64 (x4 - 1)) < (x152001.length : Int) then (if (rd x152001 (wrap64 (x4 - 1))) ≥ (rd x152001 x4) then (some false) else (compositorref13_word.l1 k (wrap64 (x4 + 1)) x152000 x152001)) else (none)) else (none)) else (compositorref13_word.l1 k (wrap64 (x4 + 1)) x152000 x152001)))) else (none)) else (some true)
end
def compositorref13_word.f (k : Nat) (l0_0 : List Int) (l0_1 : List Int) : Option (Bool) := if (l0_0.length : Int) < 1 then (compositorref13_word.j0 k true l0_0 l0_1) else (compositorref13_word.j0 k (decide ((l0_0.length : Int) > 60)) l0_0 l0_1)
theorem compositorref13_word.mono_l : ∀ k, (∀ y0 y1 y2, LeO (compositorref13_word.j0 k y0 y1 y2) (compositorref13_word.j0 (k + 1) y0 y1 y2)) ∧ (∀ y0 y1 y2, LeO (compositorref13_word.l0 k y0 y1 y2) (compositorref13_word.l0 (k + 1) y0 y1 y2)) ∧ (∀ y0 y1 y2, LeO (compositorref13_word.l1 k y0 y1 y2) (compositorref13_word.l1 (k + 1) y0 y1 y2))
 | 0 => ⟨fun _ _ _ r h => by simp [compositorref13_word.j0] at h, fun _ _ _ r h => by simp [compositorref13_word.l0] at h, fun _ _ _ r h => by simp [compositorref13_word.l1] at h⟩
 | k + 1 => by
  obtain ⟨ih0, ih1, ih2⟩ := compositorref13_word.mono_l k
  refine ⟨?_, ?_, ?_⟩
  ·intro y0 y1 y2
   unfold compositorref13_word.j0
   repeat' first
   | (with_reducible exact ih0 _ _ _)
   | (with_reducible exact ih1 _ _ _)
   | (with_reducible exact ih2 _ _ _)
   | (with_reducible exact LeO.refl _)
   | (with_reducible exact LeO.none _)
   | (with_reducible refine LeO.ite ?_ ?_)
   | (with_reducible refine LeO.bind ?_ (fun _ => ?_))
   | exact ih0 _ _ _
   | exact ih1 _ _ _
   | exact ih2 _ _ _
   | exact LeO.none _
   | refine LeO.ite ?_ ?_
   | refine LeO.bind ?_ (fun _ => ?_)
  ·intro y0 y1 y2
   unfold compositorref13_word.l0
   repeat' first
   | (with_reducible exact ih0 _ _ _)
   | (with_reducible exact ih1 _ _ _)
   | (with_reducible exact ih2 _ _ _)
   | (with_reducible exact LeO.refl _)
   | (with_reducible exact LeO.none _)
   | (with_reducible refine LeO.ite ?_ ?_)
   | (with_reducible refine LeO.bind ?_ (fun _ => ?_))
   | exact ih0 _ _ _
   | exact ih1 _ _ _
   | exact ih2 _ _ _
   | exact LeO.none _
   | refine LeO.ite ?_ ?_
   | refine LeO.bind ?_ (fun _ => ?_)
  ·intro y0 y1 y2
   unfold compositorref13_word.l1
   repeat' first
   | (with_reducible exact ih0 _ _ _)
   | (with_reducible exact ih1 _ _ _)
   | (with_reducible exact ih2 _ _ _)
   | (with_reducible exact LeO.refl _)
   | (with_reducible exact LeO.none _)
   | (with_reducible refine LeO.ite ?_ ?_)
   | (with_reducible refine LeO.bind ?_ (fun _ => ?_))
   | exact ih0 _ _ _
   | exact ih1 _ _ _
   | exact ih2 _ _ _
   | exact LeO.none _
   | refine LeO.ite ?_ ?_
   | refine LeO.bind ?_ (fun _ => ?_)
theorem compositorref13_word.mono : ∀ a0 a1 k, LeO (compositorref13_word.f k a0 a1) (compositorref13_word.f (k + 1) a0 a1) := by
 intro a0 a1 k
 obtain ⟨ih0, ih1, ih2⟩ := compositorref13_word.mono_l k
 unfold compositorref13_word.f
 repeat' first
   | (with_reducible exact ih0 _ _ _)
   | (with_reducible exact ih1 _ _ _)
   | (with_reducible exact ih2 _ _ _)
   | (with_reducible exact LeO.refl _)
   | (with_reducible exact LeO.none _)
   | (with_reducible refine LeO.ite ?_ ?_)
   | (with_reducible refine LeO.bind ?_ (fun _ => ?_))
   | exact ih0 _ _ _
   | exact ih1 _ _ _
   | exact ih2 _ _ _
   | exact LeO.none _
   | refine LeO.ite ?_ ?_
   | refine LeO.bind ?_ (fun _ => ?_)
set_option maxHeartbeats 8000000 in
set_option maxRecDepth 100000 in
theorem compositorref13_word.calls (k : Nat) (A0_0 : Option Addr) (c0_0 : Nat) (l0_0 : List Int) (A0_1 : Option Addr) (c0_1 : Nat) (l0_1 : List Int) (r : Bool) (w : World) (hr0_0 : Kd.C (Kd.int .i64) w A0_0 l0_0.length l0_0) (hc0_0 : l0_0.length ≤ c0_0) (hr0_1 : Kd.C (Kd.int .i64) w A0_1 l0_1.length l0_1) (hc0_1 : l0_1.length ≤ c0_1) (h : compositorref13_word.f k l0_0 l0_1 = some r) :
  Calls Try.prog 26 #[.agg #[.slice A0_0 l0_0.length c0_0, .slice A0_1 l0_1.length c0_1]] w fun e w' => e = .returned (.bool r) ∧ Below w.heap.size w w' := by
 have hu36 := Try.underlying36
 have HR0_0 := Aside0.mk hr0_0
 have HC0_0 := Aside0.mk hc0_0
 clear hr0_0 hc0_0
 have HR0_1 := Aside0.mk hr0_1
 have HC0_1 := Aside0.mk hc0_1
 clear hr0_1 hc0_1
 have HB := Aside0.mk (Below.refl w.heap.size w)
 have H : (if (l0_0.length : Int) < 1 then (compositorref13_word.j0 k true l0_0 l0_1) else (compositorref13_word.j0 k (decide ((l0_0.length : Int) > 60)) l0_0 l0_1)) = some r := h
 clear h
 have HC2 := Aside0.mk H
 clear H
 go_enter Try.func26, Try.ntmps26
 go_upto_region 1 with (first | ((with_reducible refine gate_dst (N := 1) rfl ?_); (try (refine gate_guard (by rfl) ?_; dsimp only)); refine box_event ?hg (N := 1) ?hd (cs := #[.slice A0_0 l0_0.length c0_0, .slice A0_1 l0_1.length c0_1]) (t := 36) ?hr ?_; (case hd => rfl); (case hg => rfl); (case hr => first | (go_simp; done) | (go_simp; rfl)); intro gb151 hg w3 hbox hb; have n0_ := Aside0.mk (below_step (by repeat (first | (with_reducible first | exact HB.out | apply below_alloc | apply pw_below_drewN | apply below_drew1) | exact HB.out)) hb); have n1_ := Aside0.mk (hbox); have n2_ := Aside0.mk ((by rw [hg]; exact (below_size (by repeat (first | (with_reducible first | exact HB.out | apply below_alloc | apply pw_below_drewN | apply below_drew1) | exact HB.out))) : w.heap.size ≤ gb151)); have n3_ := Aside0.mk ((by rw [hg]; exact (below_size (by repeat (first | (with_reducible first | exact HB.out | apply below_alloc | apply pw_below_drewN | apply below_drew1) | exact HB.out))) : w.heap.size ≤ gb151)); clear HB; have HB := n0_; have BK151 := n1_; have GW151 := n2_; have GE151 := n3_; clear n0_ n1_ n2_ n3_; clear hb hbox hg))
 repeat (go_quiet (first | ((with_reducible refine gate_dst (N := 1) rfl ?_); (try (refine gate_guard (by rfl) ?_; dsimp only)); refine box_event ?hg (N := 1) ?hd (cs := #[.slice A0_0 l0_0.length c0_0, .slice A0_1 l0_1.length c0_1]) (t := 36) ?hr ?_; (case hd => rfl); (case hg => rfl); (case hr => first | (go_simp; done) | (go_simp; rfl)); intro gb151 hg w3 hbox hb; have n0_ := Aside0.mk (below_step (by repeat (first | (with_reducible first | exact HB.out | apply below_alloc | apply pw_below_drewN | apply below_drew1) | exact HB.out)) hb); have n1_ := Aside0.mk (hbox); have n2_ := Aside0.mk ((by rw [hg]; exact (below_size (by repeat (first | (with_reducible first | exact HB.out | apply below_alloc | apply pw_below_drewN | apply below_drew1) | exact HB.out))) : w.heap.size ≤ gb151)); have n3_ := Aside0.mk ((by rw [hg]; exact (below_size (by repeat (first | (with_reducible first | exact HB.out | apply below_alloc | apply pw_below_drewN | apply below_drew1) | exact HB.out))) : w.heap.size ≤ gb151)); clear HB; have HB := n0_; have BK151 := n1_; have GW151 := n2_; have GE151 := n3_; clear n0_ n1_ n2_ n3_; clear hb hbox hg)); go_upto_region 1 with (first | ((with_reducible refine gate_dst (N := 1) rfl ?_); (try (refine gate_guard (by rfl) ?_; dsimp only)); refine box_event ?hg (N := 1) ?hd (cs := #[.slice A0_0 l0_0.length c0_0, .slice A0_1 l0_1.length c0_1]) (t := 36) ?hr ?_; (case hd => rfl); (case hg => rfl); (case hr => first | (go_simp; done) | (go_simp; rfl)); intro gb151 hg w3 hbox hb; have n0_ := Aside0.mk (below_step (by repeat (first | (with_reducible first | exact HB.out | apply below_alloc | apply pw_below_drewN | apply below_drew1) | exact HB.out)) hb); have n1_ := Aside0.mk (hbox); have n2_ := Aside0.mk ((by rw [hg]; exact (below_size (by repeat (first | (with_reducible first | exact HB.out | apply below_alloc | apply pw_below_drewN | apply below_drew1) | exact HB.out))) : w.heap.size ≤ gb151)); have n3_ := Aside0.mk ((by rw [hg]; exact (below_size (by repeat (first | (with_reducible first | exact HB.out | apply below_alloc | apply pw_below_drewN | apply below_drew1) | exact HB.out))) : w.heap.size ≤ gb151)); clear HB; have HB := n0_; have BK151 := n1_; have GW151 := n2_; have GE151 := n3_; clear n0_ n1_ n2_ n3_; clear hb hbox hg)))
 (try simp only [Act.put, List.setIfInBounds_toArray, List.set_cons_zero, List.set_cons_succ])
 go_cut [14] (fun v14 wc => ∃ (kq : Nat) (x14_1 : Bool), v14 = .bool x14_1 ∧ Aside0 (compositorref13_word.j0 kq x14_1 l0_0 l0_1 = some r) ∧ Aside0 (kq ≤ k) ∧ Aside0 (wc.heap[gb151]? = some (.cells #[(.slice A0_0 l0_0.length c0_0), (.slice A0_1 l0_1.length c0_1)] 36 (0, 0))) ∧ Aside0 (Below w.heap.size w wc))
 case first =>
  have H := HC2.out
  clear HC2
  by_cases c4 : (l0_0.length : Int) < 1
  ·rw [if_pos c4] at H
   have c4b0 : decide ((l0_0.length : Int) < 1) = true := decide_eq_true c4
   have c4b1 : decide (l0_0.length < 1) = true := decide_eq_true (by omega)
   clear c4
   (first | rw [c4b0] | (simp only [i64_w, i32_w]; rw [c4b0]) | skip)
   have H' := Aside0.mk H
   clear H
   have hcz5_0 : w3.cell? ⟨gb151, 0, none⟩ = some (.slice A0_0 l0_0.length c0_0) := (blk_cell BK151.out 0).trans rfl
   have hcz5_1 : w3.cell? ⟨gb151, 1, none⟩ = some (.slice A0_1 l0_1.length c0_1) := (blk_cell BK151.out 1).trans rfl
   have hfz5_0 := blk_frozen BK151.out 0
   have hfz5_1 := blk_frozen BK151.out 1
   go_wp2
   repeat (go_quiet (fail); try go_wp2)
   go_meet
   case rel => exact ⟨_, (true), (by first | rfl | (simp; done) | (simp [*]; done)), H', ⟨by first | omega | exact Nat.le_refl _⟩, ⟨by (with_reducible repeat (first | refine blk_drewN ?_ _ | refine blk_drew ?_ | refine blk_alloc ?_ _)); exact BK151.out⟩, ⟨by repeat (first | (with_reducible first | exact HB.out | apply below_alloc | apply pw_below_drewN | apply below_drew1 | refine below_set ?_ GE151.out) | exact HB.out)⟩⟩
  ·rw [if_neg c4] at H
   have c4b0 : decide ((l0_0.length : Int) < 1) = false := decide_eq_false c4
   have c4b1 : decide (l0_0.length < 1) = false := decide_eq_false (by omega)
   clear c4
   (first | rw [c4b0] | (simp only [i64_w, i32_w]; rw [c4b0]) | skip)
   have H' := Aside0.mk H
   clear H
   have hcz6_0 : w3.cell? ⟨gb151, 0, none⟩ = some (.slice A0_0 l0_0.length c0_0) := (blk_cell BK151.out 0).trans rfl
   have hcz6_1 : w3.cell? ⟨gb151, 1, none⟩ = some (.slice A0_1 l0_1.length c0_1) := (blk_cell BK151.out 1).trans rfl
   have hfz6_0 := blk_frozen BK151.out 0
   have hfz6_1 := blk_frozen BK151.out 1
   go_wp2
   repeat (go_quiet (fail); try go_wp2)
   go_meet
   case rel => exact ⟨_, (decide ((l0_0.length : Int) > 60)), (by first | rfl | (simp; done) | (simp [*]; done)), H', ⟨by first | omega | exact Nat.le_refl _⟩, ⟨by (with_reducible repeat (first | refine blk_drewN ?_ _ | refine blk_drew ?_ | refine blk_alloc ?_ _)); exact BK151.out⟩, ⟨by repeat (first | (with_reducible first | exact HB.out | apply below_alloc | apply pw_below_drewN | apply below_drew1 | refine below_set ?_ GE151.out) | exact HB.out)⟩⟩
 case rest =>
  clear HC2
  try clear c2
  try clear p2
  try clear c4
  try clear c4b0
  try clear c4b1
  try clear hcz5_0
  try clear hcz5_1
  try clear hcz6_0
  try clear hcz6_1
  try clear hfz5_0
  try clear hfz5_1
  try clear hfz6_0
  try clear hfz6_1
  obtain ⟨kq, x14_1, rfl, HA, HJ1, BK151, HB⟩ := hcut
  cases kq with
  | zero => exact absurd HA.out (by simp [compositorref13_word.j0])
  | succ kj1 =>
   have H := HA.out
   clear HA
   simp only [compositorref13_word.j0] at H
   by_cases c7 : x14_1 = true
   ·subst c7
    have H1 : (some false) = some r := by rw [if_pos rfl] at H; exact H
    clear H
    have H := H1
    clear H1
    obtain rfl := Option.some.inj H
    go_wp2
    repeat (go_quiet (fail); try go_wp2)
    go_ret
    exact ⟨by first | rfl | (simp [errW_none, errW_some] <;> rfl) | (simp [*, errW_none, errW_some] <;> rfl), by repeat (first | (with_reducible first | exact HB.out | apply below_alloc | apply pw_below_drewN | apply below_drew1 | refine below_set ?_ GE151.out) | exact HB.out)⟩
   ·replace c7 := Bool.eq_false_iff.mpr c7
    subst c7
    have H1 : (compositorref13_word.l0 kj1 0 l0_0 l0_1) = some r := by rw [if_neg (show ¬ (false = true) by decide)] at H; exact H
    clear H
    have H := H1
    clear H1
    have H' := Aside0.mk H
    clear H
    go_wp2
    repeat (go_quiet (fail); try go_wp2)
    go_loopg [3] kj1 (fun kq v3 w' => ∃ (x3_2 : Int), v3 = .int .i64 x3_2 ∧ Aside0 (compositorref13_word.l0 kq x3_2 l0_0 l0_1 = some r) ∧ Aside0 (kq ≤ kj1) ∧ Aside0 (w'.heap[gb151]? = some (.cells #[(.slice A0_0 l0_0.length c0_0), (.slice A0_1 l0_1.length c0_1)] 36 (0, 0))) ∧ Aside0 (Below w.heap.size w w'))
    case atStart => exact ⟨(0), (by first | rfl | (simp; done) | (simp [*]; done)), H', ⟨Nat.le_refl _⟩, ⟨by (with_reducible repeat (first | refine blk_drewN ?_ _ | refine blk_drew ?_ | refine blk_alloc ?_ _)); exact BK151.out⟩, ⟨by repeat (first | (with_reducible first | exact HB.out | apply below_alloc | apply pw_below_drewN | apply below_drew1 | refine below_set ?_ GE151.out) | exact HB.out)⟩⟩
    case round =>
     clear H'
     try clear c2
     try clear p2
     try clear c4
     try clear c4b0
     try clear c4b1
     try clear c7
     try clear hcz5_0
     try clear hcz5_1
     try clear hcz6_0
     try clear hcz6_1
     try clear hfz5_0
     try clear hfz5_1
     try clear hfz6_0
     try clear hfz6_1
     try clear p2
     obtain ⟨x3_2, rfl, HA, HK2, BK151, HB⟩ := hrel
     cases gk with
     | zero => exact absurd HA.out (by simp [compositorref13_word.l0])
     | succ k2 =>
      have H := HA.out
      clear HA
      simp only [compositorref13_word.l0] at H
      by_cases c8 : x3_2 < (l0_0.length : Int)
      ·rw [if_pos c8] at H
       have c8b0 : decide (x3_2 < (l0_0.length : Int)) = true := decide_eq_true c8
       clear c8
       by_cases c9 : 0 ≤ x3_2
       ·rw [if_pos c9] at H
        have c9b0 : decide (0 ≤ x3_2) = true := decide_eq_true c9
        clear c9
        by_cases c10 : (rd l0_0 x3_2) < 33
        ·rw [if_pos c10] at H
         have c10b0 : decide ((rd l0_0 x3_2) < 33) = true := decide_eq_true c10
         clear c10
         obtain rfl := Option.some.inj H
         have hcz11_0 : wr.cell? ⟨gb151, 0, none⟩ = some (.slice A0_0 l0_0.length c0_0) := (blk_cell BK151.out 0).trans rfl
         have hcz11_1 : wr.cell? ⟨gb151, 1, none⟩ = some (.slice A0_1 l0_1.length c0_1) := (blk_cell BK151.out 1).trans rfl
         have hfz11_0 := blk_frozen BK151.out 0
         have hfz11_1 := blk_frozen BK151.out 1
         have p152 : 0 ≤ (x3_2 : Int) := odt
         have q152 : x3_2 < (l0_0.length : Int) := odt
         obtain ⟨ad152, e152, hx152_0⟩ := Kd.at_int HR0_0.out x3_2 p152 q152
         cases e152
         replace hx152_0 := (HB.out.cell (World.block_lt_of_cell? w _ hx152_0)).trans hx152_0
         replace p152 := eq_true p152
         replace q152 := eq_true q152
         go_wp2
         repeat (go_quiet (fail); try go_wp2)
         go_ret
         exact ⟨by first | rfl | (simp [errW_none, errW_some] <;> rfl) | (simp [*, errW_none, errW_some] <;> rfl), by repeat (first | (with_reducible first | exact HB.out | apply below_alloc | apply pw_below_drewN | apply below_drew1 | refine below_set ?_ GE151.out) | exact HB.out)⟩
        ·rw [if_neg c10] at H
         have c10b0 : decide ((rd l0_0 x3_2) < 33) = false := decide_eq_false c10
         clear c10
         by_cases c12 : (rd l0_0 x3_2) > 126
         ·rw [if_pos c12] at H
          have c12b0 : decide (126 < (rd l0_0 x3_2)) = true := decide_eq_true c12
          clear c12
          obtain rfl := Option.some.inj H
          have hcz13_0 : wr.cell? ⟨gb151, 0, none⟩ = some (.slice A0_0 l0_0.length c0_0) := (blk_cell BK151.out 0).trans rfl
          have hcz13_1 : wr.cell? ⟨gb151, 1, none⟩ = some (.slice A0_1 l0_1.length c0_1) := (blk_cell BK151.out 1).trans rfl
          have hfz13_0 := blk_frozen BK151.out 0
          have hfz13_1 := blk_frozen BK151.out 1
          have p152 : 0 ≤ (x3_2 : Int) := odt
          have q152 : x3_2 < (l0_0.length : Int) := odt
          obtain ⟨ad152, e152, hx152_0⟩ := Kd.at_int HR0_0.out x3_2 p152 q152
          cases e152
          replace hx152_0 := (HB.out.cell (World.block_lt_of_cell? w _ hx152_0)).trans hx152_0
          replace p152 := eq_true p152
          replace q152 := eq_true q152
          have p153 : 0 ≤ (x3_2 : Int) := odt
          have q153 : x3_2 < (l0_0.length : Int) := odt
          obtain ⟨ad153, e153, hx153_0⟩ := Kd.at_int HR0_0.out x3_2 p153 q153
          obtain rfl : ad152 = ad153 := (by injection e153)
          replace hx153_0 := (HB.out.cell (World.block_lt_of_cell? w _ hx153_0)).trans hx153_0
          replace p153 := eq_true p153
          replace q153 := eq_true q153
          go_wp2
          repeat (go_quiet (fail); try go_wp2)
          go_ret
          exact ⟨by first | rfl | (simp [errW_none, errW_some] <;> rfl) | (simp [*, errW_none, errW_some] <;> rfl), by repeat (first | (with_reducible first | exact HB.out | apply below_alloc | apply pw_below_drewN | apply below_drew1 | refine below_set ?_ GE151.out) | exact HB.out)⟩
         ·rw [if_neg c12] at H
          have c12b0 : decide (126 < (rd l0_0 x3_2)) = false := decide_eq_false c12
          clear c12
          have H' := Aside0.mk H
          clear H
          have hcz14_0 : wr.cell? ⟨gb151, 0, none⟩ = some (.slice A0_0 l0_0.length c0_0) := (blk_cell BK151.out 0).trans rfl
          have hcz14_1 : wr.cell? ⟨gb151, 1, none⟩ = some (.slice A0_1 l0_1.length c0_1) := (blk_cell BK151.out 1).trans rfl
          have hfz14_0 := blk_frozen BK151.out 0
          have hfz14_1 := blk_frozen BK151.out 1
          have p152 : 0 ≤ (x3_2 : Int) := odt
          have q152 : x3_2 < (l0_0.length : Int) := odt
          obtain ⟨ad152, e152, hx152_0⟩ := Kd.at_int HR0_0.out x3_2 p152 q152
          cases e152
          replace hx152_0 := (HB.out.cell (World.block_lt_of_cell? w _ hx152_0)).trans hx152_0
          replace p152 := eq_true p152
          replace q152 := eq_true q152
          have p153 : 0 ≤ (x3_2 : Int) := odt
          have q153 : x3_2 < (l0_0.length : Int) := odt
          obtain ⟨ad153, e153, hx153_0⟩ := Kd.at_int HR0_0.out x3_2 p153 q153
          obtain rfl : ad152 = ad153 := (by injection e153)
          replace hx153_0 := (HB.out.cell (World.block_lt_of_cell? w _ hx153_0)).trans hx153_0
          replace p153 := eq_true p153
          replace q153 := eq_true q153
          go_wp2
          repeat (go_quiet (fail); try go_wp2)
          go_roundg k2
          case measure => have := HJ1.out; have := HK2.out; omega
          case rel => exact ⟨(wrap64 (x3_2 + 1)), (by first | rfl | (simp; done) | (simp [*]; done)), H', ⟨by have := HJ1.out; have := HK2.out; omega⟩, ⟨by (with_reducible repeat (first | refine blk_drewN ?_ _ | refine blk_drew ?_ | refine blk_alloc ?_ _)); exact BK151.out⟩, ⟨by repeat (first | (with_reducible first | exact HB.out | apply below_alloc | apply pw_below_drewN | apply below_drew1 | refine below_set ?_ GE151.out) | exact HB.out)⟩⟩
       ·rw [if_neg c9] at H
        exact absurd H (by simp)
      ·rw [if_neg c8] at H
       have c8b0 : decide (x3_2 < (l0_0.length : Int)) = false := decide_eq_false c8
       clear c8
       have H' := Aside0.mk H
       clear H
       have hcz15_0 : wr.cell? ⟨gb151, 0, none⟩ = some (.slice A0_0 l0_0.length c0_0) := (blk_cell BK151.out 0).trans rfl
       have hcz15_1 : wr.cell? ⟨gb151, 1, none⟩ = some (.slice A0_1 l0_1.length c0_1) := (blk_cell BK151.out 1).trans rfl
       have hfz15_0 := blk_frozen BK151.out 0
       have hfz15_1 := blk_frozen BK151.out 1
       go_wp2
       repeat (go_quiet (fail); try go_wp2)
       go_loopg [4] k2 (fun kq v4 w' => ∃ (x4_3 : Int), v4 = .int .i64 x4_3 ∧ Aside0 (compositorref13_word.l1 kq x4_3 l0_0 l0_1 = some r) ∧ Aside0 (kq ≤ k2) ∧ Aside0 (w'.heap[gb151]? = some (.cells #[(.slice A0_0 l0_0.length c0_0), (.slice A0_1 l0_1.length c0_1)] 36 (0, 0))) ∧ Aside0 (Below w.heap.size w w'))
       case atStart => exact ⟨(0), (by first | rfl | (simp; done) | (simp [*]; done)), H', ⟨Nat.le_refl _⟩, ⟨by (with_reducible repeat (first | refine blk_drewN ?_ _ | refine blk_drew ?_ | refine blk_alloc ?_ _)); exact BK151.out⟩, ⟨by repeat (first | (with_reducible first | exact HB.out | apply below_alloc | apply pw_below_drewN | apply below_drew1 | refine below_set ?_ GE151.out) | exact HB.out)⟩⟩
       case round =>
        clear H'
        try clear c1
        try clear p1
        try clear q1
        try clear hx1
        try clear c2
        try clear p2
        try clear c4
        try clear c4b0
        try clear c4b1
        try clear p6
        try clear c7
        try clear c8
        try clear c8b0
        try clear c9
        try clear c9b0
        try clear c10
        try clear c10b0
        try clear c12
        try clear c12b0
        try clear p15
        try clear q15
        try clear hx15
        try clear hcz11_0
        try clear hcz11_1
        try clear hcz13_0
        try clear hcz13_1
        try clear hcz14_0
        try clear hcz14_1
        try clear hcz15_0
        try clear hcz15_1
        try clear hcz5_0
        try clear hcz5_1
        try clear hcz6_0
        try clear hcz6_1
        try clear hfz11_0
        try clear hfz11_1
        try clear hfz13_0
        try clear hfz13_1
        try clear hfz14_0
        try clear hfz14_1
        try clear hfz15_0
        try clear hfz15_1
        try clear hfz5_0
        try clear hfz5_1
        try clear hfz6_0
        try clear hfz6_1
        try clear hx152_0
        try clear hx153_0
        try clear p152
        try clear p153
        try clear p2
        try clear q152
        try clear q153
        obtain ⟨x4_3, rfl, HA, HK3, BK151, HB⟩ := hrel
        cases gk with
        | zero => exact absurd HA.out (by simp [compositorref13_word.l1])
        | succ k3 =>
         have H := HA.out
         clear HA
         simp only [compositorref13_word.l1] at H
         by_cases c16 : x4_3 < (l0_1.length : Int)
         ·rw [if_pos c16] at H
          have c16b0 : decide (x4_3 < (l0_1.length : Int)) = true := decide_eq_true c16
          clear c16
          by_cases c17 : 0 ≤ x4_3
          ·rw [if_pos c17] at H
           have c17b0 : decide (0 ≤ x4_3) = true := decide_eq_true c17
           clear c17
           by_cases c18 : (rd l0_1 x4_3) < 1
           ·rw [if_pos c18] at H
            have c18b0 : decide ((rd l0_1 x4_3) < 1) = true := decide_eq_true c18
            clear c18
            obtain rfl := Option.some.inj H
            have hcz19_0 : wr.cell? ⟨gb151, 0, none⟩ = some (.slice A0_0 l0_0.length c0_0) := (blk_cell BK151.out 0).trans rfl
            have hcz19_1 : wr.cell? ⟨gb151, 1, none⟩ = some (.slice A0_1 l0_1.length c0_1) := (blk_cell BK151.out 1).trans rfl
            have hfz19_0 := blk_frozen BK151.out 0
            have hfz19_1 := blk_frozen BK151.out 1
            have p154 : 0 ≤ (x4_3 : Int) := odt
            have q154 : x4_3 < (l0_1.length : Int) := odt
            obtain ⟨ad154, e154, hx154_0⟩ := Kd.at_int HR0_1.out x4_3 p154 q154
            cases e154
            replace hx154_0 := (HB.out.cell (World.block_lt_of_cell? w _ hx154_0)).trans hx154_0
            replace p154 := eq_true p154
            replace q154 := eq_true q154
            go_wp2
            repeat (go_quiet (fail); try go_wp2)
            go_ret
            exact ⟨by first | rfl | (simp [errW_none, errW_some] <;> rfl) | (simp [*, errW_none, errW_some] <;> rfl), by repeat (first | (with_reducible first | exact HB.out | apply below_alloc | apply pw_below_drewN | apply below_drew1 | refine below_set ?_ GE151.out) | exact HB.out)⟩
           ·rw [if_neg c18] at H
            have c18b0 : decide ((rd l0_1 x4_3) < 1) = false := decide_eq_false c18
            clear c18
            by_cases c20 : (rd l0_1 x4_3) ≥ (l0_0.length : Int)
            ·rw [if_pos c20] at H
             have c20b0 : decide ((l0_0.length : Int) ≤ (rd l0_1 x4_3)) = true := decide_eq_true c20
             clear c20
             obtain rfl := Option.some.inj H
             have hcz21_0 : wr.cell? ⟨gb151, 0, none⟩ = some (.slice A0_0 l0_0.length c0_0) := (blk_cell BK151.out 0).trans rfl
             have hcz21_1 : wr.cell? ⟨gb151, 1, none⟩ = some (.slice A0_1 l0_1.length c0_1) := (blk_cell BK151.out 1).trans rfl
             have hfz21_0 := blk_frozen BK151.out 0
             have hfz21_1 := blk_frozen BK151.out 1
             have p154 : 0 ≤ (x4_3 : Int) := odt
             have q154 : x4_3 < (l0_1.length : Int) := odt
             obtain ⟨ad154, e154, hx154_0⟩ := Kd.at_int HR0_1.out x4_3 p154 q154
             cases e154
             replace hx154_0 := (HB.out.cell (World.block_lt_of_cell? w _ hx154_0)).trans hx154_0
             replace p154 := eq_true p154
             replace q154 := eq_true q154
             have p155 : 0 ≤ (x4_3 : Int) := odt
             have q155 : x4_3 < (l0_1.length : Int) := odt
             obtain ⟨ad155, e155, hx155_0⟩ := Kd.at_int HR0_1.out x4_3 p155 q155
             obtain rfl : ad154 = ad155 := (by injection e155)
             replace hx155_0 := (HB.out.cell (World.block_lt_of_cell? w _ hx155_0)).trans hx155_0
             replace p155 := eq_true p155
             replace q155 := eq_true q155
             go_wp2
             repeat (go_quiet (fail); try go_wp2)
             go_ret
             exact ⟨by first | rfl | (simp [errW_none, errW_some] <;> rfl) | (simp [*, errW_none, errW_some] <;> rfl), by repeat (first | (with_reducible first | exact HB.out | apply below_alloc | apply pw_below_drewN | apply below_drew1 | refine below_set ?_ GE151.out) | exact HB.out)⟩
            ·rw [if_neg c20] at H
             have c20b0 : decide ((l0_0.length : Int) ≤ (rd l0_1 x4_3)) = false := decide_eq_false c20
             clear c20
             by_cases c22 : x4_3 > 0
             ·rw [if_pos c22] at H
              have c22b0 : decide (0 < x4_3) = true := decide_eq_true c22
              clear c22
              obtain ⟨ji23, hji23⟩ : ∃ j_ : Int, (wrap64 (x4_3 - 1)) = j_ := ⟨_, rfl⟩
              replace H : (if 0 ≤ (ji23) then (if (ji23) < (l0_1.length : Int) then (if (rd l0_1 (ji23)) ≥ (rd l0_1 x4_3) then (some false) else (compositorref13_word.l1 k3 (wrap64 (x4_3 + 1)) l0_0 l0_1)) else (none)) else (none)) = some r := by first | (rw [hji23] at H; exact H) | (simp only [hji23] at H ⊢; exact H)
              have hji23w : (IntKind.i64.wrap (x4_3 - 1)) = ji23 := (i64_w _).trans hji23
              by_cases c24 : 0 ≤ (ji23)
              ·rw [if_pos c24] at H
               have c24b0 : decide (0 ≤ (ji23)) = true := decide_eq_true c24
               clear c24
               by_cases c25 : (ji23) < (l0_1.length : Int)
               ·rw [if_pos c25] at H
                have c25b0 : decide ((ji23) < (l0_1.length : Int)) = true := decide_eq_true c25
                clear c25
                by_cases c26 : (rd l0_1 (ji23)) ≥ (rd l0_1 x4_3)
                ·rw [if_pos c26] at H
                 have c26b0 : decide ((rd l0_1 x4_3) ≤ (rd l0_1 (ji23))) = true := decide_eq_true c26
                 clear c26
                 obtain rfl := Option.some.inj H
                 have hcz27_0 : wr.cell? ⟨gb151, 0, none⟩ = some (.slice A0_0 l0_0.length c0_0) := (blk_cell BK151.out 0).trans rfl
                 have hcz27_1 : wr.cell? ⟨gb151, 1, none⟩ = some (.slice A0_1 l0_1.length c0_1) := (blk_cell BK151.out 1).trans rfl
                 have hfz27_0 := blk_frozen BK151.out 0
                 have hfz27_1 := blk_frozen BK151.out 1
                 have p154 : 0 ≤ (x4_3 : Int) := odt
                 have q154 : x4_3 < (l0_1.length : Int) := odt
                 obtain ⟨ad154, e154, hx154_0⟩ := Kd.at_int HR0_1.out x4_3 p154 q154
                 cases e154
                 replace hx154_0 := (HB.out.cell (World.block_lt_of_cell? w _ hx154_0)).trans hx154_0
                 replace p154 := eq_true p154
                 replace q154 := eq_true q154
                 have p155 : 0 ≤ (x4_3 : Int) := odt
                 have q155 : x4_3 < (l0_1.length : Int) := odt
                 obtain ⟨ad155, e155, hx155_0⟩ := Kd.at_int HR0_1.out x4_3 p155 q155
                 obtain rfl : ad154 = ad155 := (by injection e155)
                 replace hx155_0 := (HB.out.cell (World.block_lt_of_cell? w _ hx155_0)).trans hx155_0
                 replace p155 := eq_true p155
                 replace q155 := eq_true q155
                 have p156 : 0 ≤ ((ji23) : Int) := odt
                 have q156 : (ji23) < (l0_1.length : Int) := odt
                 obtain ⟨ad156, e156, hx156_0⟩ := Kd.at_int HR0_1.out (ji23) p156 q156
                 obtain rfl : ad154 = ad156 := (by injection e156)
                 replace hx156_0 := (HB.out.cell (World.block_lt_of_cell? w _ hx156_0)).trans hx156_0
                 replace p156 := eq_true p156
                 replace q156 := eq_true q156
                 have p157 : 0 ≤ (x4_3 : Int) := odt
                 have q157 : x4_3 < (l0_1.length : Int) := odt
                 obtain ⟨ad157, e157, hx157_0⟩ := Kd.at_int HR0_1.out x4_3 p157 q157
                 obtain rfl : ad154 = ad157 := (by injection e157)
                 replace hx157_0 := (HB.out.cell (World.block_lt_of_cell? w _ hx157_0)).trans hx157_0
                 replace p157 := eq_true p157
                 replace q157 := eq_true q157
                 go_wp2
                 repeat (go_quiet (fail); try go_wp2)
                 go_ret
                 exact ⟨by first | rfl | (simp [errW_none, errW_some] <;> rfl) | (simp only [← hji23]; first | rfl | (simp [errW_none, errW_some] <;> rfl)) | (simp [*, errW_none, errW_some] <;> rfl), by repeat (first | (with_reducible first | exact HB.out | apply below_alloc | apply pw_below_drewN | apply below_drew1 | refine below_set ?_ GE151.out) | exact HB.out)⟩
                ·rw [if_neg c26] at H
                 have c26b0 : decide ((rd l0_1 x4_3) ≤ (rd l0_1 (ji23))) = false := decide_eq_false c26
                 clear c26
                 have H' := Aside0.mk H
                 clear H
                 have hcz28_0 : wr.cell? ⟨gb151, 0, none⟩ = some (.slice A0_0 l0_0.length c0_0) := (blk_cell BK151.out 0).trans rfl
                 have hcz28_1 : wr.cell? ⟨gb151, 1, none⟩ = some (.slice A0_1 l0_1.length c0_1) := (blk_cell BK151.out 1).trans rfl
                 have hfz28_0 := blk_frozen BK151.out 0
                 have hfz28_1 := blk_frozen BK151.out 1
                 have p154 : 0 ≤ (x4_3 : Int) := odt
                 have q154 : x4_3 < (l0_1.length : Int) := odt
                 obtain ⟨ad154, e154, hx154_0⟩ := Kd.at_int HR0_1.out x4_3 p154 q154
                 cases e154
                 replace hx154_0 := (HB.out.cell (World.block_lt_of_cell? w _ hx154_0)).trans hx154_0
                 replace p154 := eq_true p154
                 replace q154 := eq_true q154
                 have p155 : 0 ≤ (x4_3 : Int) := odt
                 have q155 : x4_3 < (l0_1.length : Int) := odt
                 obtain ⟨ad155, e155, hx155_0⟩ := Kd.at_int HR0_1.out x4_3 p155 q155
                 obtain rfl : ad154 = ad155 := (by injection e155)
                 replace hx155_0 := (HB.out.cell (World.block_lt_of_cell? w _ hx155_0)).trans hx155_0
                 replace p155 := eq_true p155
                 replace q155 := eq_true q155
                 have p156 : 0 ≤ ((ji23) : Int) := odt
                 have q156 : (ji23) < (l0_1.length : Int) := odt
                 obtain ⟨ad156, e156, hx156_0⟩ := Kd.at_int HR0_1.out (ji23) p156 q156
                 obtain rfl : ad154 = ad156 := (by injection e156)
                 replace hx156_0 := (HB.out.cell (World.block_lt_of_cell? w _ hx156_0)).trans hx156_0
                 replace p156 := eq_true p156
                 replace q156 := eq_true q156
                 have p157 : 0 ≤ (x4_3 : Int) := odt
                 have q157 : x4_3 < (l0_1.length : Int) := odt
                 obtain ⟨ad157, e157, hx157_0⟩ := Kd.at_int HR0_1.out x4_3 p157 q157
                 obtain rfl : ad154 = ad157 := (by injection e157)
                 replace hx157_0 := (HB.out.cell (World.block_lt_of_cell? w _ hx157_0)).trans hx157_0
                 replace p157 := eq_true p157
                 replace q157 := eq_true q157
                 go_wp2
                 repeat (go_quiet (fail); try go_wp2)
                 go_roundg k3
                 case measure => have := HJ1.out; have := HK2.out; have := HK3.out; omega
                 case rel => exact ⟨(wrap64 (x4_3 + 1)), (by first | rfl | (simp; done) | (simp [*]; done)), H', ⟨by have := HJ1.out; have := HK2.out; have := HK3.out; omega⟩, ⟨by (with_reducible repeat (first | refine blk_drewN ?_ _ | refine blk_drew ?_ | refine blk_alloc ?_ _)); exact BK151.out⟩, ⟨by repeat (first | (with_reducible first | exact HB.out | apply below_alloc | apply pw_below_drewN | apply below_drew1 | refine below_set ?_ GE151.out) | exact HB.out)⟩⟩
               ·rw [if_neg c25] at H
                exact absurd H (by simp)
              ·rw [if_neg c24] at H
               exact absurd H (by simp)
             ·rw [if_neg c22] at H
              have c22b0 : decide (0 < x4_3) = false := decide_eq_false c22
              clear c22
              have H' := Aside0.mk H
              clear H
              have hcz29_0 : wr.cell? ⟨gb151, 0, none⟩ = some (.slice A0_0 l0_0.length c0_0) := (blk_cell BK151.out 0).trans rfl
              have hcz29_1 : wr.cell? ⟨gb151, 1, none⟩ = some (.slice A0_1 l0_1.length c0_1) := (blk_cell BK151.out 1).trans rfl
              have hfz29_0 := blk_frozen BK151.out 0
              have hfz29_1 := blk_frozen BK151.out 1
              have p154 : 0 ≤ (x4_3 : Int) := odt
              have q154 : x4_3 < (l0_1.length : Int) := odt
              obtain ⟨ad154, e154, hx154_0⟩ := Kd.at_int HR0_1.out x4_3 p154 q154
              cases e154
              replace hx154_0 := (HB.out.cell (World.block_lt_of_cell? w _ hx154_0)).trans hx154_0
              replace p154 := eq_true p154
              replace q154 := eq_true q154
              have p155 : 0 ≤ (x4_3 : Int) := odt
              have q155 : x4_3 < (l0_1.length : Int) := odt
              obtain ⟨ad155, e155, hx155_0⟩ := Kd.at_int HR0_1.out x4_3 p155 q155
              obtain rfl : ad154 = ad155 := (by injection e155)
              replace hx155_0 := (HB.out.cell (World.block_lt_of_cell? w _ hx155_0)).trans hx155_0
              replace p155 := eq_true p155
              replace q155 := eq_true q155
              go_wp2
              repeat (go_quiet (fail); try go_wp2)
              go_roundg k3
              case measure => have := HJ1.out; have := HK2.out; have := HK3.out; omega
              case rel => exact ⟨(wrap64 (x4_3 + 1)), (by first | rfl | (simp; done) | (simp [*]; done)), H', ⟨by have := HJ1.out; have := HK2.out; have := HK3.out; omega⟩, ⟨by (with_reducible repeat (first | refine blk_drewN ?_ _ | refine blk_drew ?_ | refine blk_alloc ?_ _)); exact BK151.out⟩, ⟨by repeat (first | (with_reducible first | exact HB.out | apply below_alloc | apply pw_below_drewN | apply below_drew1 | refine below_set ?_ GE151.out) | exact HB.out)⟩⟩
          ·rw [if_neg c17] at H
           exact absurd H (by simp)
         ·rw [if_neg c16] at H
          have c16b0 : decide (x4_3 < (l0_1.length : Int)) = false := decide_eq_false c16
          clear c16
          obtain rfl := Option.some.inj H
          have hcz30_0 : wr.cell? ⟨gb151, 0, none⟩ = some (.slice A0_0 l0_0.length c0_0) := (blk_cell BK151.out 0).trans rfl
          have hcz30_1 : wr.cell? ⟨gb151, 1, none⟩ = some (.slice A0_1 l0_1.length c0_1) := (blk_cell BK151.out 1).trans rfl
          have hfz30_0 := blk_frozen BK151.out 0
          have hfz30_1 := blk_frozen BK151.out 1
          go_wp2
          repeat (go_quiet (fail); try go_wp2)
          go_ret
          exact ⟨by first | rfl | (simp [errW_none, errW_some] <;> rfl) | (simp [*, errW_none, errW_some] <;> rfl), by repeat (first | (with_reducible first | exact HB.out | apply below_alloc | apply pw_below_drewN | apply below_drew1 | refine below_set ?_ GE151.out) | exact HB.out)⟩

end Go.Proofs.Ytanhafkoohnjhaa.G
