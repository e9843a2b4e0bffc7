/- Contracts of the functions of this seat: what each call computes, as a plain Lean function. Made by this session's own generator. -/
import Derived.Test.YtepllkdlnajbjaaGx0
import Derived.Test.YtepllkdlnajbjaaGx12
namespace Go.Proofs.Ytepllkdlnajbjaa.G
open Go.RowKit Go.Proofs.YtepllkdlnajbjaaMy Go.Proofs.YtepllkdlnajbjaaW.PrintWords Go.Proofs.YtepllkdlnajbjaaW.PrintLast Go.Proofs.YtepllkdlnajbjaaW.PrintMore
attribute [local go_sem] max2_int min2_int max_two min_two max_three min_three max_four min_four   -- for this text's walks alone
set_option linter.unusedVariables false
set_option linter.unusedSimpArgs false

/-! ### compositorref13_Check: function 20 -/
mutual
def compositorref13_Check.j0 : Nat → List (S41) → Bool → Option (Bool)
 | 0, _, _ => none
 | k + 1, x0, x13 => if x13 = true then (some false) else (compositorref13_Check.l0 k x0 0 0)
def compositorref13_Check.l0 : Nat → List (S41) → Int → Int → Option (Bool)
 | 0, _, _, _ => none
 | k + 1, x0, x3, x4 => if x4 < (x0.length : Int) then (if 0 ≤ x4 then ((compositorref13_word.f k ((rd_T41 x0 x4).f0) ((rd_T41 x0 x4).f1)).bind fun t350 => (if t350 = true then (compositorref13_Check.l0 k x0 (wrap64 (x3 + (((rd_T41 x0 x4).f0).length : Int))) (wrap64 (x4 + 1))) else (some false))) else (none)) else (some (decide (x3 ≤ 400)))
end
def compositorref13_Check.f (k : Nat) (l0 : List (S41)) : Option (Bool) := if (l0.length : Int) < 1 then (compositorref13_Check.j0 k l0 true) else (compositorref13_Check.j0 k l0 (decide ((l0.length : Int) > 100)))
theorem compositorref13_Check.mono_l : ∀ k, (∀ y0 y1, LeO (compositorref13_Check.j0 k y0 y1) (compositorref13_Check.j0 (k + 1) y0 y1)) ∧ (∀ y0 y1 y2, LeO (compositorref13_Check.l0 k y0 y1 y2) (compositorref13_Check.l0 (k + 1) y0 y1 y2))
 | 0 => ⟨fun _ _ r h => by simp [compositorref13_Check.j0] at h, fun _ _ _ r h => by simp [compositorref13_Check.l0] at h⟩
 | k + 1 => by
  obtain ⟨ih0, ih1⟩ := compositorref13_Check.mono_l k
  refine ⟨?_, ?_⟩
  ·intro y0 y1
   unfold compositorref13_Check.j0
   repeat' first
   | (with_reducible exact ih0 _ _)
   | (with_reducible exact ih1 _ _ _)
   | (with_reducible exact compositorref13_word.mono _ _ _)
   | (with_reducible exact LeO.refl _)
   | (with_reducible exact LeO.none _)
   | (with_reducible refine LeO.ite ?_ ?_)
   | (with_reducible refine LeO.bind ?_ (fun _ => ?_))
   | exact ih0 _ _
   | exact ih1 _ _ _
   | exact compositorref13_word.mono _ _ _
   | exact LeO.none _
   | refine LeO.ite ?_ ?_
   | refine LeO.bind ?_ (fun _ => ?_)
  ·intro y0 y1 y2
   unfold compositorref13_Check.l0
   repeat' first
   | (with_reducible exact ih0 _ _)
   | (with_reducible exact ih1 _ _ _)
   | (with_reducible exact compositorref13_word.mono _ _ _)
   | (with_reducible exact LeO.refl _)
   | (with_reducible exact LeO.none _)
   | (with_reducible refine LeO.ite ?_ ?_)
   | (with_reducible refine LeO.bind ?_ (fun _ => ?_))
   | exact ih0 _ _
   | exact ih1 _ _ _
   | exact compositorref13_word.mono _ _ _
   | exact LeO.none _
   | refine LeO.ite ?_ ?_
   | refine LeO.bind ?_ (fun _ => ?_)
theorem compositorref13_Check.mono : ∀ a0 k, LeO (compositorref13_Check.f k a0) (compositorref13_Check.f (k + 1) a0) := by
 intro a0 k
 obtain ⟨ih0, ih1⟩ := compositorref13_Check.mono_l k
 unfold compositorref13_Check.f
 repeat' first
   | (with_reducible exact ih0 _ _)
   | (with_reducible exact ih1 _ _ _)
   | (with_reducible exact compositorref13_word.mono _ _ _)
   | (with_reducible exact LeO.refl _)
   | (with_reducible exact LeO.none _)
   | (with_reducible refine LeO.ite ?_ ?_)
   | (with_reducible refine LeO.bind ?_ (fun _ => ?_))
   | exact ih0 _ _
   | exact ih1 _ _ _
   | exact compositorref13_word.mono _ _ _
   | exact LeO.none _
   | refine LeO.ite ?_ ?_
   | refine LeO.bind ?_ (fun _ => ?_)
set_option maxHeartbeats 8000000 in
set_option maxRecDepth 100000 in
theorem compositorref13_Check.calls (k : Nat) (A0 : Option Addr) (c0 : Nat) (l0 : List (S41)) (r : Bool) (w : World) (hr0 : Kd.C k41 w A0 l0.length l0) (hc0 : l0.length ≤ c0) (h : compositorref13_Check.f k l0 = some r) :
  Calls Try.prog 20 #[.slice A0 l0.length c0] w fun e w' => e = .returned (.bool r) ∧ Below w.heap.size w w' := by
 have hu41 := Try.underlying41
 have HR0 := Aside0.mk hr0
 have HC0 := Aside0.mk hc0
 clear hr0 hc0
 have HB := Aside0.mk (Below.refl w.heap.size w)
 have H : (if (l0.length : Int) < 1 then (compositorref13_Check.j0 k l0 true) else (compositorref13_Check.j0 k l0 (decide ((l0.length : Int) > 100)))) = some r := h
 clear h
 have HC2 := Aside0.mk H
 clear H
 go_enter Try.func20, Try.ntmps20
 go_upto_region 1 with (fail)
 go_cut [13] (fun v13 wc => ∃ (kq : Nat) (x13_1 : Bool), v13 = .bool x13_1 ∧ Aside0 (compositorref13_Check.j0 kq l0 x13_1 = some r) ∧ Aside0 (kq ≤ k) ∧ Aside0 (Below w.heap.size w wc))
 case first =>
  have H := HC2.out
  clear HC2
  by_cases c3 : (l0.length : Int) < 1
  ·rw [if_pos c3] at H
   have c3b0 : decide ((l0.length : Int) < 1) = true := decide_eq_true c3
   have c3b1 : decide (l0.length < 1) = true := decide_eq_true (by omega)
   clear c3
   (first | rw [c3b0] | (simp only [i64_w, i32_w]; rw [c3b0]) | skip)
   have H' := Aside0.mk H
   clear H
   go_wp2
   go_meet
   case rel => exact ⟨_, (true), (by first | rfl | (simp; done) | (simp [*]; done)), H', ⟨by first | omega | exact Nat.le_refl _⟩, ⟨by repeat (first | (with_reducible first | exact HB.out | apply below_alloc | apply pw_below_drewN | apply below_drew1) | exact HB.out)⟩⟩
  ·rw [if_neg c3] at H
   have c3b0 : decide ((l0.length : Int) < 1) = false := decide_eq_false c3
   have c3b1 : decide (l0.length < 1) = false := decide_eq_false (by omega)
   clear c3
   (first | rw [c3b0] | (simp only [i64_w, i32_w]; rw [c3b0]) | skip)
   have H' := Aside0.mk H
   clear H
   go_wp2
   go_meet
   case rel => exact ⟨_, (decide ((l0.length : Int) > 100)), (by first | rfl | (simp; done) | (simp [*]; done)), H', ⟨by first | omega | exact Nat.le_refl _⟩, ⟨by repeat (first | (with_reducible first | exact HB.out | apply below_alloc | apply pw_below_drewN | apply below_drew1) | exact HB.out)⟩⟩
 case rest =>
  clear HC2
  try clear c2
  try clear p2
  try clear c3
  try clear c3b0
  try clear c3b1
  obtain ⟨kq, x13_1, rfl, HA, HJ1, HB⟩ := hcut
  cases kq with
  | zero => exact absurd HA.out (by simp [compositorref13_Check.j0])
  | succ kj1 =>
   have H := HA.out
   clear HA
   simp only [compositorref13_Check.j0] at H
   by_cases c4 : x13_1 = true
   ·subst c4
    have H1 : (some false) = some r := by rw [if_pos rfl] at H; exact H
    clear H
    have H := H1
    clear H1
    obtain rfl := Option.some.inj H
    go_wp2
    go_ret
    exact ⟨by first | rfl | (simp [errW_none, errW_some] <;> rfl) | (simp [*, errW_none, errW_some] <;> rfl), by repeat (first | (with_reducible first | exact HB.out | apply below_alloc | apply pw_below_drewN | apply below_drew1) | exact HB.out)⟩
   ·replace c4 := Bool.eq_false_iff.mpr c4
    subst c4
    have H1 : (compositorref13_Check.l0 kj1 l0 0 0) = some r := by rw [if_neg (show ¬ (false = true) by decide)] at H; exact H
    clear H
    have H := H1
    clear H1
    have H' := Aside0.mk H
    clear H
    go_wp2
    go_loopg [3, 4] kj1 (fun kq v3 v4 w' => ∃ (x3_2 : Int) (x4_2 : Int), v3 = .int .i64 x3_2 ∧ v4 = .int .i64 x4_2 ∧ Aside0 (compositorref13_Check.l0 kq l0 x3_2 x4_2 = some r) ∧ Aside0 (kq ≤ kj1) ∧ Aside0 (Below w.heap.size w w'))
    case atStart => exact ⟨(0), (0), (by first | rfl | (simp; done) | (simp [*]; done)), (by first | rfl | (simp; done) | (simp [*]; done)), H', ⟨Nat.le_refl _⟩, ⟨by repeat (first | (with_reducible first | exact HB.out | apply below_alloc | apply pw_below_drewN | apply below_drew1) | exact HB.out)⟩⟩
    case round =>
     clear H'
     try clear c2
     try clear p2
     try clear c3
     try clear c3b0
     try clear c3b1
     try clear c4
     try clear p2
     obtain ⟨x3_2, x4_2, rfl, rfl, HA, HK2, HB⟩ := hrel
     cases gk with
     | zero => exact absurd HA.out (by simp [compositorref13_Check.l0])
     | succ k2 =>
      have H := HA.out
      clear HA
      simp only [compositorref13_Check.l0] at H
      by_cases c5 : x4_2 < (l0.length : Int)
      ·rw [if_pos c5] at H
       have c5b0 : decide (x4_2 < (l0.length : Int)) = true := decide_eq_true c5
       clear c5
       by_cases c6 : 0 ≤ x4_2
       ·rw [if_pos c6] at H
        have c6b0 : decide (0 ≤ x4_2) = true := decide_eq_true c6
        clear c6
        replace H := Option.bind_eq_some_iff.mp H
        obtain ⟨t350, A70, H⟩ := H
        replace H : (if t350 = true then (compositorref13_Check.l0 k2 l0 (wrap64 (x3_2 + (((rd_T41 l0 x4_2).f0).length : Int))) (wrap64 (x4_2 + 1))) else (some false)) = some r := H
        have A7 := Aside0.mk A70
        clear A70
        by_cases c8 : t350 = true
        ·subst c8
         have H1 : (compositorref13_Check.l0 k2 l0 (wrap64 (x3_2 + (((rd_T41 l0 x4_2).f0).length : Int))) (wrap64 (x4_2 + 1))) = some r := by rw [if_pos rfl] at H; exact H
         clear H
         have H := H1
         clear H1
         have H' := Aside0.mk H
         clear H
         have p349 : 0 ≤ (x4_2 : Int) := odt
         have q349 : x4_2 < (l0.length : Int) := odt
         obtain ⟨ad349, A349_0, c349_0, A349_1, c349_1, e349, hx349_0, hx349_1, hl349_0, hi349_0, hl349_1, hi349_1⟩ := at_T41 HR0.out x4_2 p349 q349
         cases e349
         replace hx349_0 := (HB.out.cell (World.block_lt_of_cell? w _ hx349_0)).trans hx349_0
         replace hx349_1 := (HB.out.cell (World.block_lt_of_cell? w _ hx349_1)).trans hx349_1
         have HR349_0 := Aside0.mk hi349_0
         have HC349_0 := Aside0.mk hl349_0
         clear hi349_0 hl349_0
         have HR349_1 := Aside0.mk hi349_1
         have HC349_1 := Aside0.mk hl349_1
         clear hi349_1 hl349_1
         replace p349 := eq_true p349
         replace q349 := eq_true q349
         go_wp2_with (first | ((with_reducible refine gate_callee (f := 28) rfl ?_); refine goesL_ (some 24) rfl rfl Try.func28 (by kernel_rfl) rfl #[.agg #[.slice A349_0 ((rd_T41 l0 x4_2).f0).length c349_0, .slice A349_1 ((rd_T41 l0 x4_2).f1).length c349_1]] rfl (by (try simp only [List.map_toArray, List.map_cons, List.map_nil]); first | done | rfl | (simp only [List.length_drop, List.length_take]; rfl)) ?_; (with_reducible refine (compositorref13_word.calls k2 _ _ ((rd_T41 l0 x4_2).f0) _ _ ((rd_T41 l0 x4_2).f1) true _ ?side1 ?side2 ?side3 ?side4 A7.out).mono ?_); (case side1 => repeat (first | exact (Kd.C_below HR349_0.out HB.out) | (with_reducible refine Kd.C_alloc ?_ _) | (with_reducible refine Kd.C_drewN ?_ _) | (with_reducible refine Kd.C_drew ?_))); (case side2 => exact HC349_0.out); (case side3 => repeat (first | exact (Kd.C_below HR349_1.out HB.out) | (with_reducible refine Kd.C_alloc ?_ _) | (with_reducible refine Kd.C_drewN ?_ _) | (with_reducible refine Kd.C_drew ?_))); (case side4 => exact HC349_1.out); rintro e w9 ⟨rfl, hb⟩; refine ⟨_, rfl, ?_⟩; have n0_ := Aside0.mk (below_step (by repeat (first | (with_reducible first | exact HB.out | apply below_alloc | apply pw_below_drewN | apply below_drew1) | exact HB.out)) hb); clear HB; have HB := n0_; clear n0_; (try clear hb); (try clear hb2); (try clear hk); (try clear hi); have p351 : 0 ≤ (x4_2 : Int) := odt; have q351 : x4_2 < (l0.length : Int) := odt; obtain ⟨ad351, A351_0, c351_0, A351_1, c351_1, e351, hx351_0, hx351_1, hl351_0, hi351_0, hl351_1, hi351_1⟩ := at_T41 HR0.out x4_2 p351 q351; obtain rfl : ad349 = ad351 := (by injection e351); replace hx351_0 := (HB.out.cell (World.block_lt_of_cell? w _ hx351_0)).trans hx351_0; replace hx351_1 := (HB.out.cell (World.block_lt_of_cell? w _ hx351_1)).trans hx351_1; have HR351_0 := Aside0.mk hi351_0; have HC351_0 := Aside0.mk hl351_0; clear hi351_0 hl351_0; have HR351_1 := Aside0.mk hi351_1; have HC351_1 := Aside0.mk hl351_1; clear hi351_1 hl351_1; replace p351 := eq_true p351; replace q351 := eq_true q351))
         go_roundg k2
         case measure => have := HJ1.out; have := HK2.out; omega
         case rel => exact ⟨(wrap64 (x3_2 + (((rd_T41 l0 x4_2).f0).length : Int))), (wrap64 (x4_2 + 1)), (by first | rfl | (simp; done) | (simp [*]; done)), (by first | rfl | (simp; done) | (simp [*]; done)), H', ⟨by have := HJ1.out; have := HK2.out; omega⟩, ⟨by repeat (first | (with_reducible first | exact HB.out | apply below_alloc | apply pw_below_drewN | apply below_drew1) | exact HB.out)⟩⟩
        ·replace c8 := Bool.eq_false_iff.mpr c8
         subst c8
         have H1 : (some false) = some r := by rw [if_neg (show ¬ (false = true) by decide)] at H; exact H
         clear H
         have H := H1
         clear H1
         obtain rfl := Option.some.inj H
         have p349 : 0 ≤ (x4_2 : Int) := odt
         have q349 : x4_2 < (l0.length : Int) := odt
         obtain ⟨ad349, A349_0, c349_0, A349_1, c349_1, e349, hx349_0, hx349_1, hl349_0, hi349_0, hl349_1, hi349_1⟩ := at_T41 HR0.out x4_2 p349 q349
         cases e349
         replace hx349_0 := (HB.out.cell (World.block_lt_of_cell? w _ hx349_0)).trans hx349_0
         replace hx349_1 := (HB.out.cell (World.block_lt_of_cell? w _ hx349_1)).trans hx349_1
         have HR349_0 := Aside0.mk hi349_0
         have HC349_0 := Aside0.mk hl349_0
         clear hi349_0 hl349_0
         have HR349_1 := Aside0.mk hi349_1
         have HC349_1 := Aside0.mk hl349_1
         clear hi349_1 hl349_1
         replace p349 := eq_true p349
         replace q349 := eq_true q349
         go_wp2_with (first | ((with_reducible refine gate_callee (f := 28) rfl ?_); refine goesL_ (some 24) rfl rfl Try.func28 (by kernel_rfl) rfl #[.agg #[.slice A349_0 ((rd_T41 l0 x4_2).f0).length c349_0, .slice A349_1 ((rd_T41 l0 x4_2).f1).length c349_1]] rfl (by (try simp only [List.map_toArray, List.map_cons, List.map_nil]); first | done | rfl | (simp only [List.length_drop, List.length_take]; rfl)) ?_; (with_reducible refine (compositorref13_word.calls k2 _ _ ((rd_T41 l0 x4_2).f0) _ _ ((rd_T41 l0 x4_2).f1) false _ ?side1 ?side2 ?side3 ?side4 A7.out).mono ?_); (case side1 => repeat (first | exact (Kd.C_below HR349_0.out HB.out) | (with_reducible refine Kd.C_alloc ?_ _) | (with_reducible refine Kd.C_drewN ?_ _) | (with_reducible refine Kd.C_drew ?_))); (case side2 => exact HC349_0.out); (case side3 => repeat (first | exact (Kd.C_below HR349_1.out HB.out) | (with_reducible refine Kd.C_alloc ?_ _) | (with_reducible refine Kd.C_drewN ?_ _) | (with_reducible refine Kd.C_drew ?_))); (case side4 => exact HC349_1.out); rintro e w10 ⟨rfl, hb⟩; refine ⟨_, rfl, ?_⟩; have n0_ := Aside0.mk (below_step (by repeat (first | (with_reducible first | exact HB.out | apply below_alloc | apply pw_below_drewN | apply below_drew1) | exact HB.out)) hb); clear HB; have HB := n0_; clear n0_; (try clear hb); (try clear hb2); (try clear hk); (try clear hi)))
         go_ret
         exact ⟨by first | rfl | (simp [errW_none, errW_some] <;> rfl) | (simp [*, errW_none, errW_some] <;> rfl), by repeat (first | (with_reducible first | exact HB.out | apply below_alloc | apply pw_below_drewN | apply below_drew1) | exact HB.out)⟩
       ·rw [if_neg c6] at H
        exact absurd H (by simp)
      ·rw [if_neg c5] at H
       have c5b0 : decide (x4_2 < (l0.length : Int)) = false := decide_eq_false c5
       clear c5
       obtain rfl := Option.some.inj H
       go_wp2
       go_ret
       exact ⟨by first | rfl | (simp [errW_none, errW_some] <;> rfl) | (simp [*, errW_none, errW_some] <;> rfl), by repeat (first | (with_reducible first | exact HB.out | apply below_alloc | apply pw_below_drewN | apply below_drew1) | exact HB.out)⟩

end Go.Proofs.Ytepllkdlnajbjaa.G
