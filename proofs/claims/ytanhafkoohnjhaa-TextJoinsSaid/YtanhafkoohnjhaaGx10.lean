/- Contracts of the functions of this seat: what each call computes, as a plain Lean function. Made by this session's own generator. -/
import Derived.Test.YtanhafkoohnjhaaGx0
import Derived.Test.YtanhafkoohnjhaaGx8
import Derived.Test.YtanhafkoohnjhaaGx9
namespace Go.Proofs.Ytanhafkoohnjhaa.G
open Go.RowKit Go.Proofs.YtanhafkoohnjhaaMy Go.Proofs.YtanhafkoohnjhaaW.PrintWords Go.Proofs.YtanhafkoohnjhaaW.PrintLast Go.Proofs.YtanhafkoohnjhaaW.PrintMore
attribute [local go_sem] max2_int min2_int max_two min_two max_three min_three max_four min_four   -- for this text's walks alone
set_option linter.unusedVariables false
set_option linter.unusedSimpArgs false

/-! ### compositorref13_Read: function 12 -/
mutual
def compositorref13_Read.l0 : Nat → List Int → List (S36) → Int → Option ((List (S36)) × Int)
 | 0, _, _, _ => none
 | k + 1, x0, x4, x5 => if x5 < (x0.length : Int) then (if 0 ≤ x5 then ((compositorref13_gap.f (rd x0 x5)).bind fun t183 => (if t183 = true then (compositorref13_Read.l0 k x0 x4 (wrap64 (x5 + 1))) else (compositorref13_Read.l1 k x0 x4 x5 x5))) else (none)) else ((compositorref13_Check.f k x4).bind fun t181 => (if t181 = true then (some (x4, 0)) else (some (([] : List (S36)), 130))))
def compositorref13_Read.l1 : Nat → List Int → List (S36) → Int → Int → Option ((List (S36)) × Int)
 | 0, _, _, _, _ => none
 | k + 1, x0, x4, x5, x7 => if x7 < (x0.length : Int) then (if 0 ≤ x7 then ((compositorref13_gap.f (rd x0 x7)).bind fun t185 => (if t185 = true then (if 0 ≤ x5 then (if x5 ≤ x7 then (if x7 ≤ (x0.length : Int) then ((compositorref13_of.f k ((x0.take (x7 : Int).toNat).drop (x5 : Int).toNat)).bind fun bt190 => (if bt190.2.2 = true then (if x4.length < 2932031007402 then (compositorref13_Read.l0 k x0 (x4 ++ [(⟨bt190.1, bt190.2.1⟩ : S36)]) x7) else (none)) else (some (([] : List (S36)), 130)))) else (none)) else (none)) else (none)) else (compositorref13_Read.l1 k x0 x4 x5 (wrap64 (x7 + 1))))) else (none)) else (if 0 ≤ x5 then (if x5 ≤ x7 then (if x7 ≤ (x0.length : Int) then ((compositorref13_of.f k ((x0.take (x7 : Int).toNat).drop (x5 : Int).toNat)).bind fun bt205 => (if bt205.2.2 = true then (if x4.length < 2932031007402 then (compositorref13_Read.l0 k x0 (x4 ++ [(⟨bt205.1, bt205.2.1⟩ : S36)]) x7) else (none)) else (some (([] : List (S36)), 130)))) else (none)) else (none)) else (none))
end
def compositorref13_Read.f (k : Nat) (l0 : List Int) : Option ((List (S36)) × Int) := compositorref13_Read.l0 k l0 ([] : List (S36)) 0
theorem compositorref13_Read.mono_l : ∀ k, (∀ y0 y1 y2, LeO (compositorref13_Read.l0 k y0 y1 y2) (compositorref13_Read.l0 (k + 1) y0 y1 y2)) ∧ (∀ y0 y1 y2 y3, LeO (compositorref13_Read.l1 k y0 y1 y2 y3) (compositorref13_Read.l1 (k + 1) y0 y1 y2 y3))
 | 0 => ⟨fun _ _ _ r h => by simp [compositorref13_Read.l0] at h, fun _ _ _ _ r h => by simp [compositorref13_Read.l1] at h⟩
 | k + 1 => by
  obtain ⟨ih0, ih1⟩ := compositorref13_Read.mono_l k
  refine ⟨?_, ?_⟩
  ·intro y0 y1 y2
   unfold compositorref13_Read.l0
   repeat' first
   | (with_reducible exact ih0 _ _ _)
   | (with_reducible exact ih1 _ _ _ _)
   | (with_reducible exact compositorref13_Check.mono _ _)
   | (with_reducible exact compositorref13_of.mono _ _)
   | (with_reducible exact LeO.refl _)
   | (with_reducible exact LeO.none _)
   | (with_reducible refine LeO.ite ?_ ?_)
   | (with_reducible refine LeO.bind ?_ (fun _ => ?_))
   | exact ih0 _ _ _
   | exact ih1 _ _ _ _
   | exact compositorref13_Check.mono _ _
   | exact compositorref13_of.mono _ _
   | exact LeO.none _
   | refine LeO.ite ?_ ?_
   | refine LeO.bind ?_ (fun _ => ?_)
  ·intro y0 y1 y2 y3
   unfold compositorref13_Read.l1
   repeat' first
   | (with_reducible exact ih0 _ _ _)
   | (with_reducible exact ih1 _ _ _ _)
   | (with_reducible exact compositorref13_Check.mono _ _)
   | (with_reducible exact compositorref13_of.mono _ _)
   | (with_reducible exact LeO.refl _)
   | (with_reducible exact LeO.none _)
   | (with_reducible refine LeO.ite ?_ ?_)
   | (with_reducible refine LeO.bind ?_ (fun _ => ?_))
   | exact ih0 _ _ _
   | exact ih1 _ _ _ _
   | exact compositorref13_Check.mono _ _
   | exact compositorref13_of.mono _ _
   | exact LeO.none _
   | refine LeO.ite ?_ ?_
   | refine LeO.bind ?_ (fun _ => ?_)
theorem compositorref13_Read.mono : ∀ a0 k, LeO (compositorref13_Read.f k a0) (compositorref13_Read.f (k + 1) a0) := by
 intro a0 k
 obtain ⟨ih0, ih1⟩ := compositorref13_Read.mono_l k
 unfold compositorref13_Read.f
 repeat' first
   | (with_reducible exact ih0 _ _ _)
   | (with_reducible exact ih1 _ _ _ _)
   | (with_reducible exact compositorref13_Check.mono _ _)
   | (with_reducible exact compositorref13_of.mono _ _)
   | (with_reducible exact LeO.refl _)
   | (with_reducible exact LeO.none _)
   | (with_reducible refine LeO.ite ?_ ?_)
   | (with_reducible refine LeO.bind ?_ (fun _ => ?_))
   | exact ih0 _ _ _
   | exact ih1 _ _ _ _
   | exact compositorref13_Check.mono _ _
   | exact compositorref13_of.mono _ _
   | exact LeO.none _
   | refine LeO.ite ?_ ?_
   | refine LeO.bind ?_ (fun _ => ?_)
set_option maxHeartbeats 8000000 in
set_option maxRecDepth 100000 in
theorem compositorref13_Read.calls (k : Nat) (A0 : Option Addr) (c0 : Nat) (l0 : List Int) (r1 : List (S36)) (r2 : Int) (w : World) (hr0 : Kd.C (Kd.int .u8) w A0 l0.length l0) (hc0 : l0.length ≤ c0) (h : compositorref13_Read.f k l0 = some (r1, r2)) :
  Calls Try.prog 12 #[.slice A0 l0.length c0] w fun e w' => ∃ v0_ : Value, e = .returned (.tuple #[v0_, .int .i64 r2]) ∧ Kd.S k36 36 w' w.heap.size (fun _ => True) v0_ r1 ∧ Below w.heap.size w w' := by
 have hu36 := Try.underlying36
 have HR0 := Aside0.mk hr0
 have HC0 := Aside0.mk hc0
 clear hr0 hc0
 have HB := Aside0.mk (Below.refl w.heap.size w)
 have H : (compositorref13_Read.l0 k l0 ([] : List (S36)) 0) = some (r1, r2) := h
 clear h
 have H' := Aside0.mk H
 clear H
 go_enter Try.func12, Try.ntmps12
 go_wp2
 go_loopg [4, 5] k (fun kq v4 v5 w' => ∃ (x4_1 : List (S36)) (x5_1 : Int), v5 = .int .i64 x5_1 ∧ Aside0 (compositorref13_Read.l0 kq l0 x4_1 x5_1 = some (r1, r2)) ∧ Aside0 (kq ≤ k) ∧ Aside0 (Kd.S k36 36 w' w.heap.size (fun _ => True) v4 x4_1) ∧ Aside0 (Below w.heap.size w w'))
 case atStart => exact ⟨(([] : List (S36))), (0), (by first | rfl | (simp; done) | (simp [*]; done)), H', ⟨Nat.le_refl _⟩, ⟨by first | exact Kd.S_nil _ _ _ _ _ | exact Kd.N_nil _ _ _ _ _ | exact Kd.V_nil _ _ _ _ _ | exact Kd.Q_nil _ _ _ _ _ | exact Kd.R_nil _ _ _ _ _⟩, ⟨by repeat (first | (with_reducible first | exact HB.out | apply below_alloc | apply pw_below_drewN | apply below_drew1) | exact HB.out)⟩⟩
 case round =>
  clear H'
  try clear c1
  obtain ⟨x4_1, x5_1, rfl, HA, HK1, HO_4, HB⟩ := hrel
  cases gk with
  | zero => exact absurd HA.out (by simp [compositorref13_Read.l0])
  | succ k1 =>
   have H := HA.out
   clear HA
   simp only [compositorref13_Read.l0] at H
   by_cases c2 : x5_1 < (l0.length : Int)
   ·rw [if_pos c2] at H
    have c2b0 : decide (x5_1 < (l0.length : Int)) = true := decide_eq_true c2
    clear c2
    by_cases c3 : 0 ≤ x5_1
    ·rw [if_pos c3] at H
     have c3b0 : decide (0 ≤ x5_1) = true := decide_eq_true c3
     clear c3
     replace H := Option.bind_eq_some_iff.mp H
     obtain ⟨t183, A40, H⟩ := H
     replace H : (if t183 = true then (compositorref13_Read.l0 k1 l0 x4_1 (wrap64 (x5_1 + 1))) else (compositorref13_Read.l1 k1 l0 x4_1 x5_1 x5_1)) = some (r1, r2) := H
     have A4 := Aside0.mk A40
     clear A40
     by_cases c5 : t183 = true
     ·subst c5
      have H1 : (compositorref13_Read.l0 k1 l0 x4_1 (wrap64 (x5_1 + 1))) = some (r1, r2) := by rw [if_pos rfl] at H; exact H
      clear H
      have H := H1
      clear H1
      have H' := Aside0.mk H
      clear H
      have p182 : 0 ≤ (x5_1 : Int) := odt
      have q182 : x5_1 < (l0.length : Int) := odt
      obtain ⟨ad182, e182, hx182_0⟩ := Kd.at_int HR0.out x5_1 p182 q182
      cases e182
      replace hx182_0 := (HB.out.cell (World.block_lt_of_cell? w _ hx182_0)).trans hx182_0
      replace p182 := eq_true p182
      replace q182 := eq_true q182
      go_wp2_with (first | ((with_reducible refine gate_callee (f := 22) rfl ?_); refine goesL_ (some 19) rfl rfl Try.func22 (by kernel_rfl) rfl #[.int .u8 (rd l0 x5_1)] rfl (by (try simp only [List.map_toArray, List.map_cons, List.map_nil]); first | done | rfl | (simp only [List.length_drop, List.length_take]; rfl)) ?_; (with_reducible refine (compositorref13_gap.calls (rd l0 x5_1) true _ A4.out).mono ?_); rintro e w' ⟨rfl, ⟨nd, rfl⟩⟩; refine ⟨_, rfl, ?_⟩))
      go_roundg k1
      case measure => have := HK1.out; omega
      case rel => exact ⟨(x4_1), (wrap64 (x5_1 + 1)), (by first | rfl | (simp; done) | (simp [*]; done)), H', ⟨by have := HK1.out; omega⟩, ⟨by (with_reducible repeat (first | apply Kd.S_alloc | apply Kd.S_drewN | apply Kd.S_drew)); exact HO_4.out⟩, ⟨by repeat (first | (with_reducible first | exact HB.out | apply below_alloc | apply pw_below_drewN | apply below_drew1) | exact HB.out)⟩⟩
     ·replace c5 := Bool.eq_false_iff.mpr c5
      subst c5
      have H1 : (compositorref13_Read.l1 k1 l0 x4_1 x5_1 x5_1) = some (r1, r2) := by rw [if_neg (show ¬ (false = true) by decide)] at H; exact H
      clear H
      have H := H1
      clear H1
      have H' := Aside0.mk H
      clear H
      have p182 : 0 ≤ (x5_1 : Int) := odt
      have q182 : x5_1 < (l0.length : Int) := odt
      obtain ⟨ad182, e182, hx182_0⟩ := Kd.at_int HR0.out x5_1 p182 q182
      cases e182
      replace hx182_0 := (HB.out.cell (World.block_lt_of_cell? w _ hx182_0)).trans hx182_0
      replace p182 := eq_true p182
      replace q182 := eq_true q182
      go_wp2_with (first | ((with_reducible refine gate_callee (f := 22) rfl ?_); refine goesL_ (some 19) rfl rfl Try.func22 (by kernel_rfl) rfl #[.int .u8 (rd l0 x5_1)] rfl (by (try simp only [List.map_toArray, List.map_cons, List.map_nil]); first | done | rfl | (simp only [List.length_drop, List.length_take]; rfl)) ?_; (with_reducible refine (compositorref13_gap.calls (rd l0 x5_1) false _ A4.out).mono ?_); rintro e w' ⟨rfl, ⟨nd, rfl⟩⟩; refine ⟨_, rfl, ?_⟩))
      go_loopg [7] k1 (fun kq v7 w' => ∃ (x7_2 : Int), v7 = .int .i64 x7_2 ∧ Aside0 (compositorref13_Read.l1 kq l0 x4_1 x5_1 x7_2 = some (r1, r2)) ∧ Aside0 (kq ≤ k1) ∧ Aside0 (Kd.S k36 36 w' w.heap.size (fun _ => True) u4 x4_1) ∧ Aside0 (Below w.heap.size w w'))
      case atStart => exact ⟨(x5_1), (by first | rfl | (simp; done) | (simp [*]; done)), H', ⟨Nat.le_refl _⟩, ⟨by (with_reducible repeat (first | apply Kd.S_alloc | apply Kd.S_drewN | apply Kd.S_drew)); exact HO_4.out⟩, ⟨by repeat (first | (with_reducible first | exact HB.out | apply below_alloc | apply pw_below_drewN | apply below_drew1) | exact HB.out)⟩⟩
      case round =>
       clear H'
       try clear c1
       try clear p1
       try clear q1
       try clear hx1
       try clear c2
       try clear c2b0
       try clear p2
       try clear c3
       try clear c3b0
       try clear c5
       try clear hx182_0
       try clear p182
       try clear q182
       obtain ⟨x7_2, rfl, HA, HK2, HO_4, HB⟩ := hrel
       cases gk with
       | zero => exact absurd HA.out (by simp [compositorref13_Read.l1])
       | succ k2 =>
        have H := HA.out
        clear HA
        simp only [compositorref13_Read.l1] at H
        by_cases c6 : x7_2 < (l0.length : Int)
        ·rw [if_pos c6] at H
         have c6b0 : decide (x7_2 < (l0.length : Int)) = true := decide_eq_true c6
         clear c6
         by_cases c7 : 0 ≤ x7_2
         ·rw [if_pos c7] at H
          have c7b0 : decide (0 ≤ x7_2) = true := decide_eq_true c7
          clear c7
          replace H := Option.bind_eq_some_iff.mp H
          obtain ⟨t185, A80, H⟩ := H
          replace H : (if t185 = true then (if 0 ≤ x5_1 then (if x5_1 ≤ x7_2 then (if x7_2 ≤ (l0.length : Int) then ((compositorref13_of.f k2 ((l0.take (x7_2 : Int).toNat).drop (x5_1 : Int).toNat)).bind fun bt190 => (if bt190.2.2 = true then (if x4_1.length < 2932031007402 then (compositorref13_Read.l0 k2 l0 (x4_1 ++ [(⟨bt190.1, bt190.2.1⟩ : S36)]) x7_2) else (none)) else (some (([] : List (S36)), 130)))) else (none)) else (none)) else (none)) else (compositorref13_Read.l1 k2 l0 x4_1 x5_1 (wrap64 (x7_2 + 1)))) = some (r1, r2) := H
          have A8 := Aside0.mk A80
          clear A80
          by_cases c9 : t185 = true
          ·subst c9
           have H1 : (if 0 ≤ x5_1 then (if x5_1 ≤ x7_2 then (if x7_2 ≤ (l0.length : Int) then ((compositorref13_of.f k2 ((l0.take (x7_2 : Int).toNat).drop (x5_1 : Int).toNat)).bind fun bt190 => (if bt190.2.2 = true then (if x4_1.length < 2932031007402 then (compositorref13_Read.l0 k2 l0 (x4_1 ++ [(⟨bt190.1, bt190.2.1⟩ : S36)]) x7_2) else (none)) else (some (([] : List (S36)), 130)))) else (none)) else (none)) else (none)) = some (r1, r2) := by rw [if_pos rfl] at H; exact H
           clear H
           have H := H1
           clear H1
           by_cases c10 : 0 ≤ x5_1
           ·rw [if_pos c10] at H
            have c10b0 := eq_true c10
            have c10b1 : decide (0 ≤ x5_1) = true := decide_eq_true c10
            clear c10
            by_cases c11 : x5_1 ≤ x7_2
            ·rw [if_pos c11] at H
             have c11b0 := eq_true c11
             have c11b1 : decide (x5_1 ≤ x7_2) = true := decide_eq_true c11
             clear c11
             by_cases c12 : x7_2 ≤ (l0.length : Int)
             ·rw [if_pos c12] at H
              have c12b0 := eq_true c12
              have c12b1 : decide (x7_2 ≤ (l0.length : Int)) = true := decide_eq_true c12
              clear c12
              obtain ⟨y186, hy186⟩ : ∃ y_ : List Int, y_ = ((l0.take (x7_2 : Int).toNat).drop (x5_1 : Int).toNat) := ⟨_, rfl⟩
              replace H : ((compositorref13_of.f k2 y186).bind fun bt190 => (if bt190.2.2 = true then (if x4_1.length < 2932031007402 then (compositorref13_Read.l0 k2 l0 (x4_1 ++ [(⟨bt190.1, bt190.2.1⟩ : S36)]) x7_2) else (none)) else (some (([] : List (S36)), 130)))) = some (r1, r2) := by first | (rw [hy186]; with_reducible exact H) | (have H2_ := (Option.bind_some _ _).symm.trans H; rw [hy186]; with_reducible exact H2_) | (have H2_ := (Option.bind_some _ _).symm.trans H; with_reducible exact H2_) | with_reducible exact H | (rw [hy186]; exact H) | exact H
              have Ny186 := Aside0.mk hy186
              clear hy186
              replace H := Option.bind_eq_some_iff.mp H
              obtain ⟨⟨t190, t193, t196⟩, A130, H⟩ := H
              replace H : (if t196 = true then (if x4_1.length < 2932031007402 then (compositorref13_Read.l0 k2 l0 (x4_1 ++ [(⟨t190, t193⟩ : S36)]) x7_2) else (none)) else (some (([] : List (S36)), 130))) = some (r1, r2) := H
              have A13 := Aside0.mk A130
              clear A130
              by_cases c14 : t196 = true
              ·subst c14
               have H1 : (if x4_1.length < 2932031007402 then (compositorref13_Read.l0 k2 l0 (x4_1 ++ [(⟨t190, t193⟩ : S36)]) x7_2) else (none)) = some (r1, r2) := by rw [if_pos rfl] at H; exact H
               clear H
               have H := H1
               clear H1
               by_cases c15 : x4_1.length < 2932031007402
               ·rw [if_pos c15] at H
                have LMc15 := Aside0.mk c15
                clear c15
                obtain ⟨y198, hy198⟩ : ∃ y_ : List (S36), y_ = (x4_1 ++ [(⟨t190, t193⟩ : S36)]) := ⟨_, rfl⟩
                replace H : (compositorref13_Read.l0 k2 l0 y198 x7_2) = some (r1, r2) := by first | (rw [hy198]; with_reducible exact H) | (have H2_ := (Option.bind_some _ _).symm.trans H; rw [hy198]; with_reducible exact H2_) | (have H2_ := (Option.bind_some _ _).symm.trans H; with_reducible exact H2_) | with_reducible exact H | (rw [hy198]; exact H) | exact H
                have Ny198 := Aside0.mk hy198
                clear hy198
                have H' := Aside0.mk H
                clear H
                have p184 : 0 ≤ (x7_2 : Int) := odt
                have q184 : x7_2 < (l0.length : Int) := odt
                obtain ⟨ad184, e184, hx184_0⟩ := Kd.at_int HR0.out x7_2 p184 q184
                obtain rfl : ad182 = ad184 := (by injection e184)
                replace hx184_0 := (HB.out.cell (World.block_lt_of_cell? w _ hx184_0)).trans hx184_0
                replace p184 := eq_true p184
                replace q184 := eq_true q184
                have tk_ : True := trivial
                go_wp2_with (first | (go_at_call 22; clear tk_; (with_reducible refine (compositorref13_gap.calls (rd l0 x7_2) true _ A8.out).mono ?_); rintro e w' ⟨rfl, ⟨nd, rfl⟩⟩; (try (rw [drewN_self wr]; generalize hq_ : World.drewN wr _ = wr; have n0_ : Aside0 (Kd.S k36 36 wr w.heap.size (fun _ => True) u4 x4_1) := ⟨by rw [← hq_]; exact (by (with_reducible repeat (first | apply Kd.S_alloc | apply Kd.S_drewN | apply Kd.S_drew)); exact HO_4.out)⟩; have n1_ : Aside0 (Below w.heap.size w wr) := ⟨by rw [← hq_]; exact (by repeat (first | (with_reducible first | exact HB.out | apply below_alloc | apply pw_below_drewN | apply below_drew1) | exact HB.out))⟩; clear HO_4 HB hq_; have HO_4 := n0_; have HB := n1_; clear n0_ n1_)); have q16 : (x7_2 : Int) ≤ ((l0.length : Int) : Int) := odt; obtain ⟨i016, hi016, _, hsz16, _⟩ := info_parts info5; have hroom16 : l0.length ≤ c0 := HC0.out; have hC16 : Kd.C (Kd.int .u8) _ (some ad182) l0.length l0 := HR0.out; have ql16 : (x5_1 : Int) ≤ (x7_2 : Int) := odt; have q016 : (0 : Int) ≤ (x5_1 : Int) := odt; have hcut16 := cut_mid (P := Try.prog) 22 5 .i64 .i64 Try.underlying22 hi016 1 hsz16 (some ad182) l0.length c0 x5_1 x7_2 q016 ql16 q16 hroom16; have hr16 := Kd.C_mid (lo := (x5_1 : Int).toNat) (hi := (x7_2 : Int).toNat) (c := c0) hC16 (by omega) (by omega) hroom16; obtain ⟨A16, hA16⟩ : ∃ A1, A1 = (if c0 = (x5_1 : Int).toNat then (some ad182) else ((some ad182) : Option Addr).map (·.add ((x5_1 : Int).toNat * 1))) := ⟨_, rfl⟩; obtain ⟨c16, hc16⟩ : ∃ c1, c1 = c0 - (x5_1 : Int).toNat := ⟨_, rfl⟩; have hy16 : y186.length = (x7_2 : Int).toNat - (x5_1 : Int).toNat := (by rw [Ny186.out, List.length_drop, List.length_take] <;> omega); rw [show ((l0).take (x7_2 : Int).toNat).drop (x5_1 : Int).toNat = y186 from Ny186.out.symm] at hr16; replace hr16 : Kd.C (Kd.int .u8) _ A16 y186.length y186 := (by rw [hA16]; exact hr16); rw [← hy16, ← hA16, ← hc16] at hcut16; have HR189 := Aside0.mk hr16; have HC189 := Aside0.mk (show y186.length ≤ c16 from by rw [hy16, hc16]; exact Nat.sub_le_sub_right (Nat.le_trans (by omega) hroom16) _); clear hr16 hC16 hroom16 hi016 hsz16 hc16; have KY16 := Aside0.mk hy16; have KA16 := Aside0.mk hA16; clear hy16 hA16; replace q16 := eq_true q16))
                as_aux_lemma =>
                have tk_ : True := trivial
                go_wp2_with (first | (go_at_call 23; clear tk_; (with_reducible refine (compositorref13_of.calls k2 _ _ y186 t190 t193 true _ ?side1 ?side2 A13.out).mono ?_); (case side1 => repeat (first | exact (Kd.C_below HR189.out HB.out) | (with_reducible apply Kd.C_alloc) | (with_reducible apply Kd.C_drewN) | (with_reducible apply Kd.C_drew))); (case side2 => exact HC189.out); rintro e w17 ⟨v191, v194, rfl, ho0, ho1, hb⟩; have n0_ := Aside0.mk (Kd.S_mono (Kd.S_told (Kd.S_told (Kd.S_old (by (with_reducible repeat (first | apply Kd.S_alloc | apply Kd.S_drewN | apply Kd.S_drew)); exact HO_4.out) hb) (Kd.R_base ho0)) (Kd.R_base ho1)) (fun _ h_ => h_.1)); have n1_ := Aside0.mk (Kd.R_lower ho0 (below_size (by repeat (first | (with_reducible first | exact HB.out | apply below_alloc | apply pw_below_drewN | apply below_drew1) | exact HB.out)))); have n2_ := Aside0.mk (Kd.R_lower ho1 (below_size (by repeat (first | (with_reducible first | exact HB.out | apply below_alloc | apply pw_below_drewN | apply below_drew1) | exact HB.out)))); have n3_ := Aside0.mk (below_step (by repeat (first | (with_reducible first | exact HB.out | apply below_alloc | apply pw_below_drewN | apply below_drew1) | exact HB.out)) hb); clear HO_4; clear HB; have HO_4 := n0_; have HO192 := n1_; have HO195 := n2_; have HB := n3_; clear n0_ n1_ n2_ n3_; (try clear hb); (try clear hb2); (try clear hk); (try clear hi); (try clear ho0); (try clear ho1)) | ((with_reducible refine gate_dst (N := 8) rfl ?_); refine box_event ?hg (N := 8) ?hd (cs := #[.slice none 0 0, .slice none 0 0]) (t := 36) ?hr ?_; (case hd => rfl); (case hg => rfl); (case hr => first | (go_simp; done) | (go_simp; rfl)); intro gb197 hg w18 hbox hb; have n0_ := Aside0.mk (Kd.S_below (Kd.S_elderB (by (with_reducible repeat (first | apply Kd.S_alloc | apply Kd.S_drewN | apply Kd.S_drew)); exact HO_4.out) gb197 (Nat.le_of_eq hg.symm)) hb); have n1_ := Aside0.mk (Kd.R_below (by (with_reducible repeat (first | apply Kd.R_alloc | apply Kd.R_drewN | apply Kd.R_drew)); exact HO192.out) hb); have n2_ := Aside0.mk (Kd.R_below (by (with_reducible repeat (first | apply Kd.R_alloc | apply Kd.R_drewN | apply Kd.R_drew)); exact HO195.out) hb); have n3_ := Aside0.mk (below_step (by repeat (first | (with_reducible first | exact HB.out | apply below_alloc | apply pw_below_drewN | apply below_drew1) | exact HB.out)) hb); have n4_ := Aside0.mk (hbox); have n5_ := Aside0.mk ((by rw [hg]; exact (below_size (by repeat (first | (with_reducible first | exact HB.out | apply below_alloc | apply pw_below_drewN | apply below_drew1) | exact HB.out))) : w.heap.size ≤ gb197)); have n6_ := Aside0.mk ((by rw [hg]; exact (below_size (by repeat (first | (with_reducible first | exact HB.out | apply below_alloc | apply pw_below_drewN | apply below_drew1) | exact HB.out))) : w.heap.size ≤ gb197)); clear HO_4; clear HO192; clear HO195; clear HB; have HO_4 := n0_; have HO192 := n1_; have HO195 := n2_; have HB := n3_; have BK197 := n4_; have GW197 := n5_; have GE197 := n6_; clear n0_ n1_ n2_ n3_ n4_ n5_ n6_; clear hb hbox hg; obtain ⟨Ao19, co19, eo19⟩ := Kd.R_slice HO192.out; subst eo19; have hcz20_0 : w18.cell? ⟨gb197, 0, none⟩ = some (.slice none 0 0) := (blk_cell BK197.out 0).trans rfl; have hcz20_1 : w18.cell? ⟨gb197, 1, none⟩ = some (.slice none 0 0) := (blk_cell BK197.out 1).trans rfl; have hfz20_0 := blk_frozen BK197.out 0; have hfz20_1 := blk_frozen BK197.out 1; obtain ⟨Ao21, co21, eo21⟩ := Kd.R_slice HO195.out; subst eo21) | ((with_reducible refine gate_store (t := 36) (p := 8) rfl ?_); refine store_event (t := 36) (p := 8) (v := ?vo_w22) (w1 := ((w18.setCell ⟨gb197, 0, none⟩ (.slice Ao19 t190.length co19)).setCell ⟨gb197, 1, none⟩ (.slice Ao21 t193.length co21))) ?hg ?ho ?hn ?hr ?_; (case ho => rfl); (case hg => rfl); (case hn => rfl); (case hr => first | (go_simp; done) | (go_simp; rfl)); intro w22 hw; have n0_ : Aside0 (Kd.S k36 36 w22 w.heap.size (fun k_ => some k_ ≠ (.slice Ao19 t190.length co19 : Value).ownBlock ∧ some k_ ≠ (.slice Ao21 t193.length co21 : Value).ownBlock ∧ k_ ≠ gb197) u4 x4_1) := ⟨(by rw [hw]; exact (by (with_reducible repeat (first | apply Kd.S_alloc | apply Kd.S_drewN | apply Kd.S_drew)); exact Kd.S_mono (Kd.S_far (p := ⟨gb197, 1, none⟩) (Kd.S_far (p := ⟨gb197, 0, none⟩) (Kd.S_mono HO_4.out (fun k_ hk => (⟨hk, hk.2⟩ : _ ∧ k_ ≠ gb197))) (fun _ hk => hk.2) (.slice Ao19 t190.length co19)) (fun _ hk => hk.2) (.slice Ao21 t193.length co21)) (fun _ hk => ⟨hk.1.1.1.2, ⟨hk.1.1.2, hk.1.2⟩⟩)))⟩; have n1_ : Aside0 (Kd.R (Kd.int .i64) 3 w22 w.heap.size (fun k_ => some k_ ≠ (.slice Ao21 t193.length co21 : Value).ownBlock) (.slice Ao19 t190.length co19) t190) := ⟨(by rw [hw]; exact (by (with_reducible repeat (first | apply Kd.R_alloc | apply Kd.R_drewN | apply Kd.R_drew)); exact Kd.R_mono (Kd.R_far (p := ⟨gb197, 1, none⟩) (Kd.R_far (p := ⟨gb197, 0, none⟩) (Kd.R_types HO192.out BK197.out (by decide)) (fun _ hk => hk.2) (.slice Ao19 t190.length co19)) (fun _ hk => hk.2) (.slice Ao21 t193.length co21)) (fun _ hk => hk.1)))⟩; have n2_ : Aside0 (Kd.R (Kd.int .i64) 3 w22 w.heap.size (fun k_ => some k_ ≠ (.slice Ao19 t190.length co19 : Value).ownBlock) (.slice Ao21 t193.length co21) t193) := ⟨(by rw [hw]; exact (by (with_reducible repeat (first | apply Kd.R_alloc | apply Kd.R_drewN | apply Kd.R_drew)); exact Kd.R_mono (Kd.R_far (p := ⟨gb197, 1, none⟩) (Kd.R_far (p := ⟨gb197, 0, none⟩) (Kd.R_types HO195.out BK197.out (by decide)) (fun _ hk => hk.2) (.slice Ao19 t190.length co19)) (fun _ hk => hk.2) (.slice Ao21 t193.length co21)) (fun _ hk => hk.1)))⟩; have n3_ : Aside0 (w22.heap[gb197]? = some (.cells #[.slice Ao19 t190.length co19, .slice Ao21 t193.length co21] 36 (0, 0))) := ⟨(by rw [hw]; exact (by (with_reducible repeat (first | refine blk_drewN ?_ _ | refine blk_drew ?_ | refine blk_alloc ?_ _)); refine blk_put (cs := #[.slice Ao19 t190.length co19, .slice none 0 0]) ?_ 1 _ rfl; (with_reducible repeat (first | refine blk_drewN ?_ _ | refine blk_drew ?_ | refine blk_alloc ?_ _)); refine blk_put (cs := #[.slice none 0 0, .slice none 0 0]) ?_ 0 _ rfl; (with_reducible repeat (first | refine blk_drewN ?_ _ | refine blk_drew ?_ | refine blk_alloc ?_ _)); exact BK197.out))⟩; have n4_ : Aside0 (Below w.heap.size w w22) := ⟨(by rw [hw]; exact (by repeat (first | (with_reducible first | exact HB.out | apply below_alloc | apply pw_below_drewN | apply below_drew1 | refine below_set ?_ GE197.out) | exact HB.out)))⟩; clear hw; clear HO_4; clear HO192; clear HO195; clear BK197; clear HB; have HO_4 := n0_; have HO192 := n1_; have HO195 := n2_; have BK197 := n3_; have HB := n4_; clear n0_ n1_ n2_ n3_ n4_; have hcz23_0 : w22.cell? ⟨gb197, 0, none⟩ = some (.slice Ao19 t190.length co19) := (blk_cell BK197.out 0).trans rfl; have hcz23_1 : w22.cell? ⟨gb197, 1, none⟩ = some (.slice Ao21 t193.length co21) := (blk_cell BK197.out 1).trans rfl; have hfz23_0 := blk_frozen BK197.out 0; have hfz23_1 := blk_frozen BK197.out 1) | ((with_reducible refine gate_builtin (b := .append) (xs := #[.tmp 48, .tmp 50]) rfl ?_); at_builtin; refine Kd.S_append k36 (w0 := w) w.heap.size rfl (.tmp 48) (.tmp 50) 24 36 (.agg #[(.slice none 0 0), (.slice none 0 0)]) 48 rfl Try.underlying24 info36 rfl (by decide) (by omega) u4 x4_1 (⟨t190, t193⟩ : S36) [.slice Ao19 t190.length co19, .slice Ao21 t193.length co21] (fun k_ => k_ ≠ gb197) (fun k_ => some k_ = (.slice Ao19 t190.length co19 : Value).ownBlock ∨ some k_ = (.slice Ao21 t193.length co21 : Value).ownBlock) rfl rfl ?aP (fun k_ hk_ => hk_.elim (fun h_ => ((Kd.R_mono (ok' := fun k_ => ((fun k_ => k_ ≠ gb197)) k_ ∧ some k_ ≠ (u4 : Value).ownBlock) (Kd.R_types (Kd.R_apart' (HO192.out) (Kd.S_typed HO_4.out) (by decide)) BK197.out (by decide)) (fun k_ hk => ⟨hk.2, hk.1.2⟩))).1 k_ h_.symm) (fun h_ => ((Kd.R_mono (ok' := fun k_ => ((fun k_ => k_ ≠ gb197)) k_ ∧ some k_ ≠ (u4 : Value).ownBlock) (Kd.R_types (Kd.R_apart' (HO195.out) (Kd.S_typed HO_4.out) (by decide)) BK197.out (by decide)) (fun k_ hk => ⟨hk.2, hk.1.2⟩))).1 k_ h_.symm)) ?aF ?aO ?aB ?aS ?aL ?_; (case aP => exact k36_mkM _ _ _ (⟨t190, t193⟩ : S36) (Kd.R_mono (Kd.R_tight rfl (Kd.R_mono (ok' := fun k_ => ((fun k_ => k_ ≠ gb197)) k_ ∧ some k_ ≠ (u4 : Value).ownBlock) (Kd.R_types (Kd.R_apart' (HO192.out) (Kd.S_typed HO_4.out) (by decide)) BK197.out (by decide)) (fun k_ hk => ⟨hk.2, hk.1.2⟩))) (fun _ h_ => Or.inl h_)) (Kd.R_mono (Kd.R_tight rfl (Kd.R_mono (ok' := fun k_ => ((fun k_ => k_ ≠ gb197)) k_ ∧ some k_ ≠ (u4 : Value).ownBlock) (Kd.R_types (Kd.R_apart' (HO195.out) (Kd.S_typed HO_4.out) (by decide)) BK197.out (by decide)) (fun k_ hk => ⟨hk.2, hk.1.2⟩))) (fun _ h_ => Or.inr (h_)))); (case aB => exact (by repeat (first | (with_reducible first | exact HB.out | apply below_alloc | apply pw_below_drewN | apply below_drew1 | refine below_set ?_ GE197.out) | exact HB.out))); (case aF => exact (fun k_ hk => Kd.freshB (g := gb197) (o := .cells #[.slice Ao19 t190.length co19, .slice Ao21 t193.length co21] 36 (0, 0)) (by (with_reducible repeat (first | refine blk_drewN ?_ _ | refine blk_drew ?_ | refine blk_alloc ?_ _)); exact BK197.out) k_ hk)); (case aO => exact (by (with_reducible repeat (first | apply Kd.S_alloc | apply Kd.S_drewN | apply Kd.S_drew)); exact Kd.S_mono HO_4.out (fun k_ hk => ⟨hk.2.2, fun e_ => e_.elim (fun h_ => hk.1 h_) (fun h_ => hk.2.1 h_)⟩))); (case aS => exact (below_size (by repeat (first | (with_reducible first | exact HB.out | apply below_alloc | apply pw_below_drewN | apply below_drew1 | refine below_set ?_ GE197.out) | exact HB.out)))); (case aL => have := LMc15.out; omega); intro v199 w24 ho hb hg hat; rw [← Ny198.out] at ho; have n0_ := Aside0.mk (blk_grown (g := gb197) (o := .cells #[.slice Ao19 t190.length co19, .slice Ao21 t193.length co21] 36 (0, 0)) (by (with_reducible repeat (first | refine blk_drewN ?_ _ | refine blk_drew ?_ | refine blk_alloc ?_ _)); exact BK197.out) hg (Kd.S_away HO_4.out (fun _ hk => hk.2.2))); have n1_ := Aside0.mk (hb); have n2_ := Aside0.mk (ho); clear BK197; clear HB; clear HO_4; clear HO192; clear HO195; have BK197 := n0_; have HB := n1_; have HO200 := n2_; clear n0_ n1_ n2_; clear ho hb hg hat))
                go_roundg k2
                case measure => have := HK1.out; have := HK2.out; omega
                case rel => exact ⟨(y198), (x7_2), (by first | rfl | (simp; done) | (simp [*]; done)), H', ⟨by have := HK1.out; have := HK2.out; omega⟩, ⟨by (with_reducible repeat (first | apply Kd.S_alloc | apply Kd.S_drewN | apply Kd.S_drew)); exact Kd.S_mono HO200.out (fun _ hk => trivial)⟩, ⟨by repeat (first | (with_reducible first | exact HB.out | apply below_alloc | apply pw_below_drewN | apply below_drew1 | refine below_set ?_ GE197.out) | exact HB.out)⟩⟩
               ·rw [if_neg c15] at H
                exact absurd H (by simp)
              ·replace c14 := Bool.eq_false_iff.mpr c14
               subst c14
               have H1 : (some (([] : List (S36)), 130)) = some (r1, r2) := by rw [if_neg (show ¬ (false = true) by decide)] at H; exact H
               clear H
               have H := H1
               clear H1
               simp only [Option.some.injEq, Prod.mk.injEq] at H
               obtain ⟨rfl, rfl⟩ := H
               have p184 : 0 ≤ (x7_2 : Int) := odt
               have q184 : x7_2 < (l0.length : Int) := odt
               obtain ⟨ad184, e184, hx184_0⟩ := Kd.at_int HR0.out x7_2 p184 q184
               obtain rfl : ad182 = ad184 := (by injection e184)
               replace hx184_0 := (HB.out.cell (World.block_lt_of_cell? w _ hx184_0)).trans hx184_0
               replace p184 := eq_true p184
               replace q184 := eq_true q184
               have tk_ : True := trivial
               go_wp2_with (first | (go_at_call 22; clear tk_; (with_reducible refine (compositorref13_gap.calls (rd l0 x7_2) true _ A8.out).mono ?_); rintro e w' ⟨rfl, ⟨nd, rfl⟩⟩; (try (rw [drewN_self wr]; generalize hq_ : World.drewN wr _ = wr; have n0_ : Aside0 (Kd.S k36 36 wr w.heap.size (fun _ => True) u4 x4_1) := ⟨by rw [← hq_]; exact (by (with_reducible repeat (first | apply Kd.S_alloc | apply Kd.S_drewN | apply Kd.S_drew)); exact HO_4.out)⟩; have n1_ : Aside0 (Below w.heap.size w wr) := ⟨by rw [← hq_]; exact (by repeat (first | (with_reducible first | exact HB.out | apply below_alloc | apply pw_below_drewN | apply below_drew1) | exact HB.out))⟩; clear HO_4 HB hq_; have HO_4 := n0_; have HB := n1_; clear n0_ n1_)); have q25 : (x7_2 : Int) ≤ ((l0.length : Int) : Int) := odt; obtain ⟨i025, hi025, _, hsz25, _⟩ := info_parts info5; have hroom25 : l0.length ≤ c0 := HC0.out; have hC25 : Kd.C (Kd.int .u8) _ (some ad182) l0.length l0 := HR0.out; have ql25 : (x5_1 : Int) ≤ (x7_2 : Int) := odt; have q025 : (0 : Int) ≤ (x5_1 : Int) := odt; have hcut25 := cut_mid (P := Try.prog) 22 5 .i64 .i64 Try.underlying22 hi025 1 hsz25 (some ad182) l0.length c0 x5_1 x7_2 q025 ql25 q25 hroom25; have hr25 := Kd.C_mid (lo := (x5_1 : Int).toNat) (hi := (x7_2 : Int).toNat) (c := c0) hC25 (by omega) (by omega) hroom25; obtain ⟨A25, hA25⟩ : ∃ A1, A1 = (if c0 = (x5_1 : Int).toNat then (some ad182) else ((some ad182) : Option Addr).map (·.add ((x5_1 : Int).toNat * 1))) := ⟨_, rfl⟩; obtain ⟨c25, hc25⟩ : ∃ c1, c1 = c0 - (x5_1 : Int).toNat := ⟨_, rfl⟩; have hy25 : y186.length = (x7_2 : Int).toNat - (x5_1 : Int).toNat := (by rw [Ny186.out, List.length_drop, List.length_take] <;> omega); rw [show ((l0).take (x7_2 : Int).toNat).drop (x5_1 : Int).toNat = y186 from Ny186.out.symm] at hr25; replace hr25 : Kd.C (Kd.int .u8) _ A25 y186.length y186 := (by rw [hA25]; exact hr25); rw [← hy25, ← hA25, ← hc25] at hcut25; have HR189 := Aside0.mk hr25; have HC189 := Aside0.mk (show y186.length ≤ c25 from by rw [hy25, hc25]; exact Nat.sub_le_sub_right (Nat.le_trans (by omega) hroom25) _); clear hr25 hC25 hroom25 hi025 hsz25 hc25; have KY25 := Aside0.mk hy25; have KA25 := Aside0.mk hA25; clear hy25 hA25; replace q25 := eq_true q25))
               as_aux_lemma =>
               have tk_ : True := trivial
               go_wp2_with (first | (go_at_call 23; clear tk_; (with_reducible refine (compositorref13_of.calls k2 _ _ y186 t190 t193 false _ ?side1 ?side2 A13.out).mono ?_); (case side1 => repeat (first | exact (Kd.C_below HR189.out HB.out) | (with_reducible apply Kd.C_alloc) | (with_reducible apply Kd.C_drewN) | (with_reducible apply Kd.C_drew))); (case side2 => exact HC189.out); rintro e w26 ⟨v191, v194, rfl, ho0, ho1, hb⟩; have n0_ := Aside0.mk (Kd.S_mono (Kd.S_told (Kd.S_told (Kd.S_old (by (with_reducible repeat (first | apply Kd.S_alloc | apply Kd.S_drewN | apply Kd.S_drew)); exact HO_4.out) hb) (Kd.R_base ho0)) (Kd.R_base ho1)) (fun _ h_ => h_.1)); have n1_ := Aside0.mk (Kd.R_lower ho0 (below_size (by repeat (first | (with_reducible first | exact HB.out | apply below_alloc | apply pw_below_drewN | apply below_drew1) | exact HB.out)))); have n2_ := Aside0.mk (Kd.R_lower ho1 (below_size (by repeat (first | (with_reducible first | exact HB.out | apply below_alloc | apply pw_below_drewN | apply below_drew1) | exact HB.out)))); have n3_ := Aside0.mk (below_step (by repeat (first | (with_reducible first | exact HB.out | apply below_alloc | apply pw_below_drewN | apply below_drew1) | exact HB.out)) hb); clear HO_4; clear HB; have HO_4 := n0_; have HO192 := n1_; have HO195 := n2_; have HB := n3_; clear n0_ n1_ n2_ n3_; (try clear hb); (try clear hb2); (try clear hk); (try clear hi); (try clear ho0); (try clear ho1)) | ((with_reducible refine gate_dst (N := 8) rfl ?_); refine box_event ?hg (N := 8) ?hd (cs := #[.slice none 0 0, .slice none 0 0]) (t := 36) ?hr ?_; (case hd => rfl); (case hg => rfl); (case hr => first | (go_simp; done) | (go_simp; rfl)); intro gb197 hg w27 hbox hb; have n0_ := Aside0.mk (Kd.S_below (Kd.S_elderB (by (with_reducible repeat (first | apply Kd.S_alloc | apply Kd.S_drewN | apply Kd.S_drew)); exact HO_4.out) gb197 (Nat.le_of_eq hg.symm)) hb); have n1_ := Aside0.mk (Kd.R_below (by (with_reducible repeat (first | apply Kd.R_alloc | apply Kd.R_drewN | apply Kd.R_drew)); exact HO192.out) hb); have n2_ := Aside0.mk (Kd.R_below (by (with_reducible repeat (first | apply Kd.R_alloc | apply Kd.R_drewN | apply Kd.R_drew)); exact HO195.out) hb); have n3_ := Aside0.mk (below_step (by repeat (first | (with_reducible first | exact HB.out | apply below_alloc | apply pw_below_drewN | apply below_drew1) | exact HB.out)) hb); have n4_ := Aside0.mk (hbox); have n5_ := Aside0.mk ((by rw [hg]; exact (below_size (by repeat (first | (with_reducible first | exact HB.out | apply below_alloc | apply pw_below_drewN | apply below_drew1) | exact HB.out))) : w.heap.size ≤ gb197)); have n6_ := Aside0.mk ((by rw [hg]; exact (below_size (by repeat (first | (with_reducible first | exact HB.out | apply below_alloc | apply pw_below_drewN | apply below_drew1) | exact HB.out))) : w.heap.size ≤ gb197)); clear HO_4; clear HO192; clear HO195; clear HB; have HO_4 := n0_; have HO192 := n1_; have HO195 := n2_; have HB := n3_; have BK197 := n4_; have GW197 := n5_; have GE197 := n6_; clear n0_ n1_ n2_ n3_ n4_ n5_ n6_; clear hb hbox hg; obtain ⟨Ao28, co28, eo28⟩ := Kd.R_slice HO192.out; subst eo28; have hcz29_0 : w27.cell? ⟨gb197, 0, none⟩ = some (.slice none 0 0) := (blk_cell BK197.out 0).trans rfl; have hcz29_1 : w27.cell? ⟨gb197, 1, none⟩ = some (.slice none 0 0) := (blk_cell BK197.out 1).trans rfl; have hfz29_0 := blk_frozen BK197.out 0; have hfz29_1 := blk_frozen BK197.out 1; obtain ⟨Ao30, co30, eo30⟩ := Kd.R_slice HO195.out; subst eo30))
               go_ret2
               exact ⟨_, by first | rfl | (simp [errW_none, errW_some] <;> rfl) | (simp [*, errW_none, errW_some] <;> rfl), by first | exact Kd.S_nil _ _ _ _ _ | exact Kd.N_nil _ _ _ _ _ | exact Kd.V_nil _ _ _ _ _ | exact Kd.Q_nil _ _ _ _ _ | exact Kd.R_nil _ _ _ _ _, by repeat (first | (with_reducible first | exact HB.out | apply below_alloc | apply pw_below_drewN | apply below_drew1 | refine below_set ?_ GE197.out) | exact HB.out)⟩
             ·rw [if_neg c12] at H
              exact absurd H (by simp)
            ·rw [if_neg c11] at H
             exact absurd H (by simp)
           ·rw [if_neg c10] at H
            exact absurd H (by simp)
          ·replace c9 := Bool.eq_false_iff.mpr c9
           subst c9
           have H1 : (compositorref13_Read.l1 k2 l0 x4_1 x5_1 (wrap64 (x7_2 + 1))) = some (r1, r2) := by rw [if_neg (show ¬ (false = true) by decide)] at H; exact H
           clear H
           have H := H1
           clear H1
           have H' := Aside0.mk H
           clear H
           have p184 : 0 ≤ (x7_2 : Int) := odt
           have q184 : x7_2 < (l0.length : Int) := odt
           obtain ⟨ad184, e184, hx184_0⟩ := Kd.at_int HR0.out x7_2 p184 q184
           obtain rfl : ad182 = ad184 := (by injection e184)
           replace hx184_0 := (HB.out.cell (World.block_lt_of_cell? w _ hx184_0)).trans hx184_0
           replace p184 := eq_true p184
           replace q184 := eq_true q184
           go_wp2_with (first | (go_at_call 22; (with_reducible refine (compositorref13_gap.calls (rd l0 x7_2) false _ A8.out).mono ?_); rintro e w' ⟨rfl, ⟨nd, rfl⟩⟩))
           go_roundg k2
           case measure => have := HK1.out; have := HK2.out; omega
           case rel => exact ⟨(wrap64 (x7_2 + 1)), (by first | rfl | (simp; done) | (simp [*]; done)), H', ⟨by have := HK1.out; have := HK2.out; omega⟩, ⟨by (with_reducible repeat (first | apply Kd.S_alloc | apply Kd.S_drewN | apply Kd.S_drew)); exact HO_4.out⟩, ⟨by repeat (first | (with_reducible first | exact HB.out | apply below_alloc | apply pw_below_drewN | apply below_drew1) | exact HB.out)⟩⟩
         ·rw [if_neg c7] at H
          exact absurd H (by simp)
        ·rw [if_neg c6] at H
         have c6b0 : decide (x7_2 < (l0.length : Int)) = false := decide_eq_false c6
         clear c6
         by_cases c31 : 0 ≤ x5_1
         ·rw [if_pos c31] at H
          have c31b0 := eq_true c31
          have c31b1 : decide (0 ≤ x5_1) = true := decide_eq_true c31
          clear c31
          by_cases c32 : x5_1 ≤ x7_2
          ·rw [if_pos c32] at H
           have c32b0 := eq_true c32
           have c32b1 : decide (x5_1 ≤ x7_2) = true := decide_eq_true c32
           clear c32
           by_cases c33 : x7_2 ≤ (l0.length : Int)
           ·rw [if_pos c33] at H
            have c33b0 := eq_true c33
            have c33b1 : decide (x7_2 ≤ (l0.length : Int)) = true := decide_eq_true c33
            clear c33
            obtain ⟨y201, hy201⟩ : ∃ y_ : List Int, y_ = ((l0.take (x7_2 : Int).toNat).drop (x5_1 : Int).toNat) := ⟨_, rfl⟩
            replace H : ((compositorref13_of.f k2 y201).bind fun bt205 => (if bt205.2.2 = true then (if x4_1.length < 2932031007402 then (compositorref13_Read.l0 k2 l0 (x4_1 ++ [(⟨bt205.1, bt205.2.1⟩ : S36)]) x7_2) else (none)) else (some (([] : List (S36)), 130)))) = some (r1, r2) := by first | (rw [hy201]; with_reducible exact H) | (have H2_ := (Option.bind_some _ _).symm.trans H; rw [hy201]; with_reducible exact H2_) | (have H2_ := (Option.bind_some _ _).symm.trans H; with_reducible exact H2_) | with_reducible exact H | (rw [hy201]; exact H) | exact H
            have Ny201 := Aside0.mk hy201
            clear hy201
            replace H := Option.bind_eq_some_iff.mp H
            obtain ⟨⟨t205, t208, t211⟩, A340, H⟩ := H
            replace H : (if t211 = true then (if x4_1.length < 2932031007402 then (compositorref13_Read.l0 k2 l0 (x4_1 ++ [(⟨t205, t208⟩ : S36)]) x7_2) else (none)) else (some (([] : List (S36)), 130))) = some (r1, r2) := H
            have A34 := Aside0.mk A340
            clear A340
            by_cases c35 : t211 = true
            ·subst c35
             have H1 : (if x4_1.length < 2932031007402 then (compositorref13_Read.l0 k2 l0 (x4_1 ++ [(⟨t205, t208⟩ : S36)]) x7_2) else (none)) = some (r1, r2) := by rw [if_pos rfl] at H; exact H
             clear H
             have H := H1
             clear H1
             by_cases c36 : x4_1.length < 2932031007402
             ·rw [if_pos c36] at H
              have LMc36 := Aside0.mk c36
              clear c36
              obtain ⟨y213, hy213⟩ : ∃ y_ : List (S36), y_ = (x4_1 ++ [(⟨t205, t208⟩ : S36)]) := ⟨_, rfl⟩
              replace H : (compositorref13_Read.l0 k2 l0 y213 x7_2) = some (r1, r2) := by first | (rw [hy213]; with_reducible exact H) | (have H2_ := (Option.bind_some _ _).symm.trans H; rw [hy213]; with_reducible exact H2_) | (have H2_ := (Option.bind_some _ _).symm.trans H; with_reducible exact H2_) | with_reducible exact H | (rw [hy213]; exact H) | exact H
              have Ny213 := Aside0.mk hy213
              clear hy213
              have H' := Aside0.mk H
              clear H
              have q37 : (x7_2 : Int) ≤ ((l0.length : Int) : Int) := odt
              obtain ⟨i037, hi037, _, hsz37, _⟩ := info_parts info5
              have hroom37 : l0.length ≤ c0 := HC0.out
              have hC37 : Kd.C (Kd.int .u8) _ (some ad182) l0.length l0 := HR0.out
              have ql37 : (x5_1 : Int) ≤ (x7_2 : Int) := odt
              have q037 : (0 : Int) ≤ (x5_1 : Int) := odt
              have hcut37 := cut_mid (P := Try.prog) 22 5 .i64 .i64 Try.underlying22 hi037 1 hsz37 (some ad182) l0.length c0 x5_1 x7_2 q037 ql37 q37 hroom37
              have hr37 := Kd.C_mid (lo := (x5_1 : Int).toNat) (hi := (x7_2 : Int).toNat) (c := c0) hC37 (by omega) (by omega) hroom37
              obtain ⟨A37, hA37⟩ : ∃ A1, A1 = (if c0 = (x5_1 : Int).toNat then (some ad182) else ((some ad182) : Option Addr).map (·.add ((x5_1 : Int).toNat * 1))) := ⟨_, rfl⟩
              obtain ⟨c37, hc37⟩ : ∃ c1, c1 = c0 - (x5_1 : Int).toNat := ⟨_, rfl⟩
              have hy37 : y201.length = (x7_2 : Int).toNat - (x5_1 : Int).toNat := (by rw [Ny201.out, List.length_drop, List.length_take] <;> omega)
              rw [show ((l0).take (x7_2 : Int).toNat).drop (x5_1 : Int).toNat = y201 from Ny201.out.symm] at hr37
              replace hr37 : Kd.C (Kd.int .u8) _ A37 y201.length y201 := (by rw [hA37]; exact hr37)
              rw [← hy37, ← hA37, ← hc37] at hcut37
              have HR204 := Aside0.mk hr37
              have HC204 := Aside0.mk (show y201.length ≤ c37 from by rw [hy37, hc37]; exact Nat.sub_le_sub_right (Nat.le_trans (by omega) hroom37) _)
              clear hr37 hC37 hroom37 hi037 hsz37 hc37
              have KY37 := Aside0.mk hy37
              have KA37 := Aside0.mk hA37
              clear hy37 hA37
              replace q37 := eq_true q37
              go_wp2_with (first | ((with_reducible refine gate_callee (f := 23) rfl ?_); refine goesL_ (some 43) rfl rfl Try.func23 (by kernel_rfl) rfl #[.slice A37 y201.length c37] rfl (by (try simp only [List.map_toArray, List.map_cons, List.map_nil]); first | done | rfl | (simp only [List.length_drop, List.length_take]; rfl)) ?_; (with_reducible refine (compositorref13_of.calls k2 _ _ y201 t205 t208 true _ ?side1 ?side2 A34.out).mono ?_); (case side1 => repeat (first | exact (Kd.C_below HR204.out HB.out) | (with_reducible apply Kd.C_alloc) | (with_reducible apply Kd.C_drewN) | (with_reducible apply Kd.C_drew))); (case side2 => exact HC204.out); rintro e w38 ⟨v206, v209, rfl, ho0, ho1, hb⟩; refine ⟨_, rfl, ?_⟩; have n0_ := Aside0.mk (Kd.S_mono (Kd.S_told (Kd.S_told (Kd.S_old (by (with_reducible repeat (first | apply Kd.S_alloc | apply Kd.S_drewN | apply Kd.S_drew)); exact HO_4.out) hb) (Kd.R_base ho0)) (Kd.R_base ho1)) (fun _ h_ => h_.1)); have n1_ := Aside0.mk (Kd.R_lower ho0 (below_size (by repeat (first | (with_reducible first | exact HB.out | apply below_alloc | apply pw_below_drewN | apply below_drew1) | exact HB.out)))); have n2_ := Aside0.mk (Kd.R_lower ho1 (below_size (by repeat (first | (with_reducible first | exact HB.out | apply below_alloc | apply pw_below_drewN | apply below_drew1) | exact HB.out)))); have n3_ := Aside0.mk (below_step (by repeat (first | (with_reducible first | exact HB.out | apply below_alloc | apply pw_below_drewN | apply below_drew1) | exact HB.out)) hb); clear HO_4; clear HB; have HO_4 := n0_; have HO207 := n1_; have HO210 := n2_; have HB := n3_; clear n0_ n1_ n2_ n3_; (try clear hb); (try clear hb2); (try clear hk); (try clear hi); (try clear ho0); (try clear ho1)) | ((with_reducible refine gate_dst (N := 8) rfl ?_); refine box_event ?hg (N := 8) ?hd (cs := #[.slice none 0 0, .slice none 0 0]) (t := 36) ?hr ?_; (case hd => rfl); (case hg => rfl); (case hr => first | (go_simp; done) | (go_simp; rfl)); intro gb212 hg w39 hbox hb; have n0_ := Aside0.mk (Kd.S_below (Kd.S_elderB (by (with_reducible repeat (first | apply Kd.S_alloc | apply Kd.S_drewN | apply Kd.S_drew)); exact HO_4.out) gb212 (Nat.le_of_eq hg.symm)) hb); have n1_ := Aside0.mk (Kd.R_below (by (with_reducible repeat (first | apply Kd.R_alloc | apply Kd.R_drewN | apply Kd.R_drew)); exact HO207.out) hb); have n2_ := Aside0.mk (Kd.R_below (by (with_reducible repeat (first | apply Kd.R_alloc | apply Kd.R_drewN | apply Kd.R_drew)); exact HO210.out) hb); have n3_ := Aside0.mk (below_step (by repeat (first | (with_reducible first | exact HB.out | apply below_alloc | apply pw_below_drewN | apply below_drew1) | exact HB.out)) hb); have n4_ := Aside0.mk (hbox); have n5_ := Aside0.mk ((by rw [hg]; exact (below_size (by repeat (first | (with_reducible first | exact HB.out | apply below_alloc | apply pw_below_drewN | apply below_drew1) | exact HB.out))) : w.heap.size ≤ gb212)); have n6_ := Aside0.mk ((by rw [hg]; exact (below_size (by repeat (first | (with_reducible first | exact HB.out | apply below_alloc | apply pw_below_drewN | apply below_drew1) | exact HB.out))) : w.heap.size ≤ gb212)); clear HO_4; clear HO207; clear HO210; clear HB; have HO_4 := n0_; have HO207 := n1_; have HO210 := n2_; have HB := n3_; have BK212 := n4_; have GW212 := n5_; have GE212 := n6_; clear n0_ n1_ n2_ n3_ n4_ n5_ n6_; clear hb hbox hg; obtain ⟨Ao40, co40, eo40⟩ := Kd.R_slice HO207.out; subst eo40; have hcz41_0 : w39.cell? ⟨gb212, 0, none⟩ = some (.slice none 0 0) := (blk_cell BK212.out 0).trans rfl; have hcz41_1 : w39.cell? ⟨gb212, 1, none⟩ = some (.slice none 0 0) := (blk_cell BK212.out 1).trans rfl; have hfz41_0 := blk_frozen BK212.out 0; have hfz41_1 := blk_frozen BK212.out 1; obtain ⟨Ao42, co42, eo42⟩ := Kd.R_slice HO210.out; subst eo42) | ((with_reducible refine gate_store (t := 36) (p := 8) rfl ?_); refine store_event (t := 36) (p := 8) (v := ?vo_w43) (w1 := ((w39.setCell ⟨gb212, 0, none⟩ (.slice Ao40 t205.length co40)).setCell ⟨gb212, 1, none⟩ (.slice Ao42 t208.length co42))) ?hg ?ho ?hn ?hr ?_; (case ho => rfl); (case hg => rfl); (case hn => rfl); (case hr => first | (go_simp; done) | (go_simp; rfl)); intro w43 hw; have n0_ : Aside0 (Kd.S k36 36 w43 w.heap.size (fun k_ => some k_ ≠ (.slice Ao40 t205.length co40 : Value).ownBlock ∧ some k_ ≠ (.slice Ao42 t208.length co42 : Value).ownBlock ∧ k_ ≠ gb212) u4 x4_1) := ⟨(by rw [hw]; exact (by (with_reducible repeat (first | apply Kd.S_alloc | apply Kd.S_drewN | apply Kd.S_drew)); exact Kd.S_mono (Kd.S_far (p := ⟨gb212, 1, none⟩) (Kd.S_far (p := ⟨gb212, 0, none⟩) (Kd.S_mono HO_4.out (fun k_ hk => (⟨hk, hk.2⟩ : _ ∧ k_ ≠ gb212))) (fun _ hk => hk.2) (.slice Ao40 t205.length co40)) (fun _ hk => hk.2) (.slice Ao42 t208.length co42)) (fun _ hk => ⟨hk.1.1.1.2, ⟨hk.1.1.2, hk.1.2⟩⟩)))⟩; have n1_ : Aside0 (Kd.R (Kd.int .i64) 3 w43 w.heap.size (fun k_ => some k_ ≠ (.slice Ao42 t208.length co42 : Value).ownBlock) (.slice Ao40 t205.length co40) t205) := ⟨(by rw [hw]; exact (by (with_reducible repeat (first | apply Kd.R_alloc | apply Kd.R_drewN | apply Kd.R_drew)); exact Kd.R_mono (Kd.R_far (p := ⟨gb212, 1, none⟩) (Kd.R_far (p := ⟨gb212, 0, none⟩) (Kd.R_types HO207.out BK212.out (by decide)) (fun _ hk => hk.2) (.slice Ao40 t205.length co40)) (fun _ hk => hk.2) (.slice Ao42 t208.length co42)) (fun _ hk => hk.1)))⟩; have n2_ : Aside0 (Kd.R (Kd.int .i64) 3 w43 w.heap.size (fun k_ => some k_ ≠ (.slice Ao40 t205.length co40 : Value).ownBlock) (.slice Ao42 t208.length co42) t208) := ⟨(by rw [hw]; exact (by (with_reducible repeat (first | apply Kd.R_alloc | apply Kd.R_drewN | apply Kd.R_drew)); exact Kd.R_mono (Kd.R_far (p := ⟨gb212, 1, none⟩) (Kd.R_far (p := ⟨gb212, 0, none⟩) (Kd.R_types HO210.out BK212.out (by decide)) (fun _ hk => hk.2) (.slice Ao40 t205.length co40)) (fun _ hk => hk.2) (.slice Ao42 t208.length co42)) (fun _ hk => hk.1)))⟩; have n3_ : Aside0 (w43.heap[gb212]? = some (.cells #[.slice Ao40 t205.length co40, .slice Ao42 t208.length co42] 36 (0, 0))) := ⟨(by rw [hw]; exact (by (with_reducible repeat (first | refine blk_drewN ?_ _ | refine blk_drew ?_ | refine blk_alloc ?_ _)); refine blk_put (cs := #[.slice Ao40 t205.length co40, .slice none 0 0]) ?_ 1 _ rfl; (with_reducible repeat (first | refine blk_drewN ?_ _ | refine blk_drew ?_ | refine blk_alloc ?_ _)); refine blk_put (cs := #[.slice none 0 0, .slice none 0 0]) ?_ 0 _ rfl; (with_reducible repeat (first | refine blk_drewN ?_ _ | refine blk_drew ?_ | refine blk_alloc ?_ _)); exact BK212.out))⟩; have n4_ : Aside0 (Below w.heap.size w w43) := ⟨(by rw [hw]; exact (by repeat (first | (with_reducible first | exact HB.out | apply below_alloc | apply pw_below_drewN | apply below_drew1 | refine below_set ?_ GE212.out) | exact HB.out)))⟩; clear hw; clear HO_4; clear HO207; clear HO210; clear BK212; clear HB; have HO_4 := n0_; have HO207 := n1_; have HO210 := n2_; have BK212 := n3_; have HB := n4_; clear n0_ n1_ n2_ n3_ n4_; have hcz44_0 : w43.cell? ⟨gb212, 0, none⟩ = some (.slice Ao40 t205.length co40) := (blk_cell BK212.out 0).trans rfl; have hcz44_1 : w43.cell? ⟨gb212, 1, none⟩ = some (.slice Ao42 t208.length co42) := (blk_cell BK212.out 1).trans rfl; have hfz44_0 := blk_frozen BK212.out 0; have hfz44_1 := blk_frozen BK212.out 1) | ((with_reducible refine gate_builtin (b := .append) (xs := #[.tmp 48, .tmp 50]) rfl ?_); at_builtin; refine Kd.S_append k36 (w0 := w) w.heap.size rfl (.tmp 48) (.tmp 50) 24 36 (.agg #[(.slice none 0 0), (.slice none 0 0)]) 48 rfl Try.underlying24 info36 rfl (by decide) (by omega) u4 x4_1 (⟨t205, t208⟩ : S36) [.slice Ao40 t205.length co40, .slice Ao42 t208.length co42] (fun k_ => k_ ≠ gb212) (fun k_ => some k_ = (.slice Ao40 t205.length co40 : Value).ownBlock ∨ some k_ = (.slice Ao42 t208.length co42 : Value).ownBlock) rfl rfl ?aP (fun k_ hk_ => hk_.elim (fun h_ => ((Kd.R_mono (ok' := fun k_ => ((fun k_ => k_ ≠ gb212)) k_ ∧ some k_ ≠ (u4 : Value).ownBlock) (Kd.R_types (Kd.R_apart' (HO207.out) (Kd.S_typed HO_4.out) (by decide)) BK212.out (by decide)) (fun k_ hk => ⟨hk.2, hk.1.2⟩))).1 k_ h_.symm) (fun h_ => ((Kd.R_mono (ok' := fun k_ => ((fun k_ => k_ ≠ gb212)) k_ ∧ some k_ ≠ (u4 : Value).ownBlock) (Kd.R_types (Kd.R_apart' (HO210.out) (Kd.S_typed HO_4.out) (by decide)) BK212.out (by decide)) (fun k_ hk => ⟨hk.2, hk.1.2⟩))).1 k_ h_.symm)) ?aF ?aO ?aB ?aS ?aL ?_; (case aP => exact k36_mkM _ _ _ (⟨t205, t208⟩ : S36) (Kd.R_mono (Kd.R_tight rfl (Kd.R_mono (ok' := fun k_ => ((fun k_ => k_ ≠ gb212)) k_ ∧ some k_ ≠ (u4 : Value).ownBlock) (Kd.R_types (Kd.R_apart' (HO207.out) (Kd.S_typed HO_4.out) (by decide)) BK212.out (by decide)) (fun k_ hk => ⟨hk.2, hk.1.2⟩))) (fun _ h_ => Or.inl h_)) (Kd.R_mono (Kd.R_tight rfl (Kd.R_mono (ok' := fun k_ => ((fun k_ => k_ ≠ gb212)) k_ ∧ some k_ ≠ (u4 : Value).ownBlock) (Kd.R_types (Kd.R_apart' (HO210.out) (Kd.S_typed HO_4.out) (by decide)) BK212.out (by decide)) (fun k_ hk => ⟨hk.2, hk.1.2⟩))) (fun _ h_ => Or.inr (h_)))); (case aB => exact (by repeat (first | (with_reducible first | exact HB.out | apply below_alloc | apply pw_below_drewN | apply below_drew1 | refine below_set ?_ GE212.out) | exact HB.out))); (case aF => exact (fun k_ hk => Kd.freshB (g := gb212) (o := .cells #[.slice Ao40 t205.length co40, .slice Ao42 t208.length co42] 36 (0, 0)) (by (with_reducible repeat (first | refine blk_drewN ?_ _ | refine blk_drew ?_ | refine blk_alloc ?_ _)); exact BK212.out) k_ hk)); (case aO => exact (by (with_reducible repeat (first | apply Kd.S_alloc | apply Kd.S_drewN | apply Kd.S_drew)); exact Kd.S_mono HO_4.out (fun k_ hk => ⟨hk.2.2, fun e_ => e_.elim (fun h_ => hk.1 h_) (fun h_ => hk.2.1 h_)⟩))); (case aS => exact (below_size (by repeat (first | (with_reducible first | exact HB.out | apply below_alloc | apply pw_below_drewN | apply below_drew1 | refine below_set ?_ GE212.out) | exact HB.out)))); (case aL => have := LMc36.out; omega); intro v214 w45 ho hb hg hat; rw [← Ny213.out] at ho; have n0_ := Aside0.mk (blk_grown (g := gb212) (o := .cells #[.slice Ao40 t205.length co40, .slice Ao42 t208.length co42] 36 (0, 0)) (by (with_reducible repeat (first | refine blk_drewN ?_ _ | refine blk_drew ?_ | refine blk_alloc ?_ _)); exact BK212.out) hg (Kd.S_away HO_4.out (fun _ hk => hk.2.2))); have n1_ := Aside0.mk (hb); have n2_ := Aside0.mk (ho); clear BK212; clear HB; clear HO_4; clear HO207; clear HO210; have BK212 := n0_; have HB := n1_; have HO215 := n2_; clear n0_ n1_ n2_; clear ho hb hg hat))
              go_roundg k2
              case measure => have := HK1.out; have := HK2.out; omega
              case rel => exact ⟨(y213), (x7_2), (by first | rfl | (simp; done) | (simp [*]; done)), H', ⟨by have := HK1.out; have := HK2.out; omega⟩, ⟨by (with_reducible repeat (first | apply Kd.S_alloc | apply Kd.S_drewN | apply Kd.S_drew)); exact Kd.S_mono HO215.out (fun _ hk => trivial)⟩, ⟨by repeat (first | (with_reducible first | exact HB.out | apply below_alloc | apply pw_below_drewN | apply below_drew1 | refine below_set ?_ GE212.out) | exact HB.out)⟩⟩
             ·rw [if_neg c36] at H
              exact absurd H (by simp)
            ·replace c35 := Bool.eq_false_iff.mpr c35
             subst c35
             have H1 : (some (([] : List (S36)), 130)) = some (r1, r2) := by rw [if_neg (show ¬ (false = true) by decide)] at H; exact H
             clear H
             have H := H1
             clear H1
             simp only [Option.some.injEq, Prod.mk.injEq] at H
             obtain ⟨rfl, rfl⟩ := H
             have q46 : (x7_2 : Int) ≤ ((l0.length : Int) : Int) := odt
             obtain ⟨i046, hi046, _, hsz46, _⟩ := info_parts info5
             have hroom46 : l0.length ≤ c0 := HC0.out
             have hC46 : Kd.C (Kd.int .u8) _ (some ad182) l0.length l0 := HR0.out
             have ql46 : (x5_1 : Int) ≤ (x7_2 : Int) := odt
             have q046 : (0 : Int) ≤ (x5_1 : Int) := odt
             have hcut46 := cut_mid (P := Try.prog) 22 5 .i64 .i64 Try.underlying22 hi046 1 hsz46 (some ad182) l0.length c0 x5_1 x7_2 q046 ql46 q46 hroom46
             have hr46 := Kd.C_mid (lo := (x5_1 : Int).toNat) (hi := (x7_2 : Int).toNat) (c := c0) hC46 (by omega) (by omega) hroom46
             obtain ⟨A46, hA46⟩ : ∃ A1, A1 = (if c0 = (x5_1 : Int).toNat then (some ad182) else ((some ad182) : Option Addr).map (·.add ((x5_1 : Int).toNat * 1))) := ⟨_, rfl⟩
             obtain ⟨c46, hc46⟩ : ∃ c1, c1 = c0 - (x5_1 : Int).toNat := ⟨_, rfl⟩
             have hy46 : y201.length = (x7_2 : Int).toNat - (x5_1 : Int).toNat := (by rw [Ny201.out, List.length_drop, List.length_take] <;> omega)
             rw [show ((l0).take (x7_2 : Int).toNat).drop (x5_1 : Int).toNat = y201 from Ny201.out.symm] at hr46
             replace hr46 : Kd.C (Kd.int .u8) _ A46 y201.length y201 := (by rw [hA46]; exact hr46)
             rw [← hy46, ← hA46, ← hc46] at hcut46
             have HR204 := Aside0.mk hr46
             have HC204 := Aside0.mk (show y201.length ≤ c46 from by rw [hy46, hc46]; exact Nat.sub_le_sub_right (Nat.le_trans (by omega) hroom46) _)
             clear hr46 hC46 hroom46 hi046 hsz46 hc46
             have KY46 := Aside0.mk hy46
             have KA46 := Aside0.mk hA46
             clear hy46 hA46
             replace q46 := eq_true q46
             go_wp2_with (first | ((with_reducible refine gate_callee (f := 23) rfl ?_); refine goesL_ (some 43) rfl rfl Try.func23 (by kernel_rfl) rfl #[.slice A46 y201.length c46] rfl (by (try simp only [List.map_toArray, List.map_cons, List.map_nil]); first | done | rfl | (simp only [List.length_drop, List.length_take]; rfl)) ?_; (with_reducible refine (compositorref13_of.calls k2 _ _ y201 t205 t208 false _ ?side1 ?side2 A34.out).mono ?_); (case side1 => repeat (first | exact (Kd.C_below HR204.out HB.out) | (with_reducible apply Kd.C_alloc) | (with_reducible apply Kd.C_drewN) | (with_reducible apply Kd.C_drew))); (case side2 => exact HC204.out); rintro e w47 ⟨v206, v209, rfl, ho0, ho1, hb⟩; refine ⟨_, rfl, ?_⟩; have n0_ := Aside0.mk (Kd.S_mono (Kd.S_told (Kd.S_told (Kd.S_old (by (with_reducible repeat (first | apply Kd.S_alloc | apply Kd.S_drewN | apply Kd.S_drew)); exact HO_4.out) hb) (Kd.R_base ho0)) (Kd.R_base ho1)) (fun _ h_ => h_.1)); have n1_ := Aside0.mk (Kd.R_lower ho0 (below_size (by repeat (first | (with_reducible first | exact HB.out | apply below_alloc | apply pw_below_drewN | apply below_drew1) | exact HB.out)))); have n2_ := Aside0.mk (Kd.R_lower ho1 (below_size (by repeat (first | (with_reducible first | exact HB.out | apply below_alloc | apply pw_below_drewN | apply below_drew1) | exact HB.out)))); have n3_ := Aside0.mk (below_step (by repeat (first | (with_reducible first | exact HB.out | apply below_alloc | apply pw_below_drewN | apply below_drew1) | exact HB.out)) hb); clear HO_4; clear HB; have HO_4 := n0_; have HO207 := n1_; have HO210 := n2_; have HB := n3_; clear n0_ n1_ n2_ n3_; (try clear hb); (try clear hb2); (try clear hk); (try clear hi); (try clear ho0); (try clear ho1)) | ((with_reducible refine gate_dst (N := 8) rfl ?_); refine box_event ?hg (N := 8) ?hd (cs := #[.slice none 0 0, .slice none 0 0]) (t := 36) ?hr ?_; (case hd => rfl); (case hg => rfl); (case hr => first | (go_simp; done) | (go_simp; rfl)); intro gb212 hg w48 hbox hb; have n0_ := Aside0.mk (Kd.S_below (Kd.S_elderB (by (with_reducible repeat (first | apply Kd.S_alloc | apply Kd.S_drewN | apply Kd.S_drew)); exact HO_4.out) gb212 (Nat.le_of_eq hg.symm)) hb); have n1_ := Aside0.mk (Kd.R_below (by (with_reducible repeat (first | apply Kd.R_alloc | apply Kd.R_drewN | apply Kd.R_drew)); exact HO207.out) hb); have n2_ := Aside0.mk (Kd.R_below (by (with_reducible repeat (first | apply Kd.R_alloc | apply Kd.R_drewN | apply Kd.R_drew)); exact HO210.out) hb); have n3_ := Aside0.mk (below_step (by repeat (first | (with_reducible first | exact HB.out | apply below_alloc | apply pw_below_drewN | apply below_drew1) | exact HB.out)) hb); have n4_ := Aside0.mk (hbox); have n5_ := Aside0.mk ((by rw [hg]; exact (below_size (by repeat (first | (with_reducible first | exact HB.out | apply below_alloc | apply pw_below_drewN | apply below_drew1) | exact HB.out))) : w.heap.size ≤ gb212)); have n6_ := Aside0.mk ((by rw [hg]; exact (below_size (by repeat (first | (with_reducible first | exact HB.out | apply below_alloc | apply pw_below_drewN | apply below_drew1) | exact HB.out))) : w.heap.size ≤ gb212)); clear HO_4; clear HO207; clear HO210; clear HB; have HO_4 := n0_; have HO207 := n1_; have HO210 := n2_; have HB := n3_; have BK212 := n4_; have GW212 := n5_; have GE212 := n6_; clear n0_ n1_ n2_ n3_ n4_ n5_ n6_; clear hb hbox hg; obtain ⟨Ao49, co49, eo49⟩ := Kd.R_slice HO207.out; subst eo49; have hcz50_0 : w48.cell? ⟨gb212, 0, none⟩ = some (.slice none 0 0) := (blk_cell BK212.out 0).trans rfl; have hcz50_1 : w48.cell? ⟨gb212, 1, none⟩ = some (.slice none 0 0) := (blk_cell BK212.out 1).trans rfl; have hfz50_0 := blk_frozen BK212.out 0; have hfz50_1 := blk_frozen BK212.out 1; obtain ⟨Ao51, co51, eo51⟩ := Kd.R_slice HO210.out; subst eo51))
             go_ret2
             exact ⟨_, by first | rfl | (simp [errW_none, errW_some] <;> rfl) | (simp [*, errW_none, errW_some] <;> rfl), by first | exact Kd.S_nil _ _ _ _ _ | exact Kd.N_nil _ _ _ _ _ | exact Kd.V_nil _ _ _ _ _ | exact Kd.Q_nil _ _ _ _ _ | exact Kd.R_nil _ _ _ _ _, by repeat (first | (with_reducible first | exact HB.out | apply below_alloc | apply pw_below_drewN | apply below_drew1 | refine below_set ?_ GE212.out) | exact HB.out)⟩
           ·rw [if_neg c33] at H
            exact absurd H (by simp)
          ·rw [if_neg c32] at H
           exact absurd H (by simp)
         ·rw [if_neg c31] at H
          exact absurd H (by simp)
    ·rw [if_neg c3] at H
     exact absurd H (by simp)
   ·rw [if_neg c2] at H
    have c2b0 : decide (x5_1 < (l0.length : Int)) = false := decide_eq_false c2
    clear c2
    replace H := Option.bind_eq_some_iff.mp H
    obtain ⟨t181, A520, H⟩ := H
    replace H : (if t181 = true then (some (x4_1, 0)) else (some (([] : List (S36)), 130))) = some (r1, r2) := H
    have A52 := Aside0.mk A520
    clear A520
    by_cases c53 : t181 = true
    ·subst c53
     have H1 : (some (x4_1, 0)) = some (r1, r2) := by rw [if_pos rfl] at H; exact H
     clear H
     have H := H1
     clear H1
     simp only [Option.some.injEq, Prod.mk.injEq] at H
     obtain ⟨rfl, rfl⟩ := H
     obtain ⟨Ao54, co54, eo54⟩ := Kd.S_slice HO_4.out
     subst eo54
     go_wp2_with (first | ((with_reducible refine gate_callee (f := 18) rfl ?_); refine goesL_ (some 54) rfl rfl Try.func18 (by kernel_rfl) rfl #[.slice Ao54 x4_1.length co54] rfl (by (try simp only [List.map_toArray, List.map_cons, List.map_nil]); first | done | rfl | (simp only [List.length_drop, List.length_take]; rfl)) ?_; (with_reducible refine (compositorref13_Check.calls k1 _ _ x4_1 true _ ?side1 ?side2 A52.out).mono ?_); (case side1 => repeat (first | exact (Kd.S_reads' HO_4.out).2.2 | (with_reducible apply Kd.C_alloc) | (with_reducible apply Kd.C_drewN) | (with_reducible apply Kd.C_drew))); (case side2 => exact (Kd.S_reads' HO_4.out).2.1); rintro e w55 ⟨rfl, hb⟩; refine ⟨_, rfl, ?_⟩; have n0_ := Aside0.mk (Kd.S_below (by (with_reducible repeat (first | apply Kd.S_alloc | apply Kd.S_drewN | apply Kd.S_drew)); exact HO_4.out) hb); have n1_ := Aside0.mk (below_step (by repeat (first | (with_reducible first | exact HB.out | apply below_alloc | apply pw_below_drewN | apply below_drew1) | exact HB.out)) hb); clear HO_4; clear HB; have HO_4 := n0_; have HB := n1_; clear n0_ n1_; (try clear hb); (try clear hb2); (try clear hk); (try clear hi)))
     go_ret2
     exact ⟨_, by first | rfl | (simp [errW_none, errW_some] <;> rfl) | (simp [*, errW_none, errW_some] <;> rfl), by (with_reducible repeat (first | apply Kd.S_alloc | apply Kd.S_drewN | apply Kd.S_drew)); exact HO_4.out, by repeat (first | (with_reducible first | exact HB.out | apply below_alloc | apply pw_below_drewN | apply below_drew1) | exact HB.out)⟩
    ·replace c53 := Bool.eq_false_iff.mpr c53
     subst c53
     have H1 : (some (([] : List (S36)), 130)) = some (r1, r2) := by rw [if_neg (show ¬ (false = true) by decide)] at H; exact H
     clear H
     have H := H1
     clear H1
     simp only [Option.some.injEq, Prod.mk.injEq] at H
     obtain ⟨rfl, rfl⟩ := H
     obtain ⟨Ao56, co56, eo56⟩ := Kd.S_slice HO_4.out
     subst eo56
     go_wp2_with (first | ((with_reducible refine gate_callee (f := 18) rfl ?_); refine goesL_ (some 54) rfl rfl Try.func18 (by kernel_rfl) rfl #[.slice Ao56 x4_1.length co56] rfl (by (try simp only [List.map_toArray, List.map_cons, List.map_nil]); first | done | rfl | (simp only [List.length_drop, List.length_take]; rfl)) ?_; (with_reducible refine (compositorref13_Check.calls k1 _ _ x4_1 false _ ?side1 ?side2 A52.out).mono ?_); (case side1 => repeat (first | exact (Kd.S_reads' HO_4.out).2.2 | (with_reducible apply Kd.C_alloc) | (with_reducible apply Kd.C_drewN) | (with_reducible apply Kd.C_drew))); (case side2 => exact (Kd.S_reads' HO_4.out).2.1); rintro e w57 ⟨rfl, hb⟩; refine ⟨_, rfl, ?_⟩; have n0_ := Aside0.mk (Kd.S_below (by (with_reducible repeat (first | apply Kd.S_alloc | apply Kd.S_drewN | apply Kd.S_drew)); exact HO_4.out) hb); have n1_ := Aside0.mk (below_step (by repeat (first | (with_reducible first | exact HB.out | apply below_alloc | apply pw_below_drewN | apply below_drew1) | exact HB.out)) hb); clear HO_4; clear HB; have HO_4 := n0_; have HB := n1_; clear n0_ n1_; (try clear hb); (try clear hb2); (try clear hk); (try clear hi)))
     go_ret2
     exact ⟨_, by first | rfl | (simp [errW_none, errW_some] <;> rfl) | (simp [*, errW_none, errW_some] <;> rfl), by first | exact Kd.S_nil _ _ _ _ _ | exact Kd.N_nil _ _ _ _ _ | exact Kd.V_nil _ _ _ _ _ | exact Kd.Q_nil _ _ _ _ _ | exact Kd.R_nil _ _ _ _ _, by repeat (first | (with_reducible first | exact HB.out | apply below_alloc | apply pw_below_drewN | apply below_drew1) | exact HB.out)⟩

end Go.Proofs.Ytanhafkoohnjhaa.G
