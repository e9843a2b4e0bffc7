/- Contracts of the functions of this seat: what each call computes, as a plain Lean function. Made by this session's own generator. -/
import Derived.Test.YtihiiidbhhlfnaaGx0
import Derived.Test.YtihiiidbhhlfnaaGx13
namespace Go.Proofs.Ytihiiidbhhlfnaa.G
open Go.RowKit Go.Proofs.YtihiiidbhhlfnaaMy Go.Proofs.YtihiiidbhhlfnaaW.PrintWords Go.Proofs.YtihiiidbhhlfnaaW.PrintLast Go.Proofs.YtihiiidbhhlfnaaW.PrintMore
attribute [local go_sem] max2_int min2_int max_two min_two max_three min_three max_four min_four   -- for this text's walks alone
set_option linter.unusedVariables false
set_option linter.unusedSimpArgs false

/-! ### compositorref23_Check: function 14 -/
mutual
def compositorref23_Check.l0 : Nat → List (S41) → Int → Option (Bool)
 | 0, _, _ => none
 | k + 1, x0, x3 => if x3 < (x0.length : Int) then (if 0 ≤ x3 then ((compositorref23_word.f ((rd_T41 x0 x3).f2)).bind fun t188 => ((compositorref23_word.f ((rd_T41 x0 x3).f3)).bind fun t189 => (if ((rd_T41 x0 x3).f0) < (-8) then (compositorref23_Check.j1 k x0 x3 true ((rd_T41 x0 x3).f0) ((rd_T41 x0 x3).f1) ((rd_T41 x0 x3).f2) ((rd_T41 x0 x3).f3) ((rd_T41 x0 x3).f4)) else (if ((rd_T41 x0 x3).f0) > 8 then (compositorref23_Check.j1 k x0 x3 true ((rd_T41 x0 x3).f0) ((rd_T41 x0 x3).f1) ((rd_T41 x0 x3).f2) ((rd_T41 x0 x3).f3) ((rd_T41 x0 x3).f4)) else (if ((rd_T41 x0 x3).f1) < 1 then (compositorref23_Check.j1 k x0 x3 true ((rd_T41 x0 x3).f0) ((rd_T41 x0 x3).f1) ((rd_T41 x0 x3).f2) ((rd_T41 x0 x3).f3) ((rd_T41 x0 x3).f4)) else (if ((rd_T41 x0 x3).f1) > 5 then (compositorref23_Check.j1 k x0 x3 true ((rd_T41 x0 x3).f0) ((rd_T41 x0 x3).f1) ((rd_T41 x0 x3).f2) ((rd_T41 x0 x3).f3) ((rd_T41 x0 x3).f4)) else (if t188 = true then (if t189 = true then (compositorref23_Check.j1 k x0 x3 (decide ((((rd_T41 x0 x3).f4).length : Int) > 600)) ((rd_T41 x0 x3).f0) ((rd_T41 x0 x3).f1) ((rd_T41 x0 x3).f2) ((rd_T41 x0 x3).f3) ((rd_T41 x0 x3).f4)) else (compositorref23_Check.j1 k x0 x3 true ((rd_T41 x0 x3).f0) ((rd_T41 x0 x3).f1) ((rd_T41 x0 x3).f2) ((rd_T41 x0 x3).f3) ((rd_T41 x0 x3).f4))) else (compositorref23_Check.j1 k x0 x3 true ((rd_T41 x0 x3).f0) ((rd_T41 x0 x3).f1) ((rd_T41 x0 x3).f2) ((rd_T41 x0 x3).f3) ((rd_T41 x0 x3).f4))))))))) else (none)) else (some true)
def compositorref23_Check.j1 : Nat → List (S41) → Int → Bool → Int → Int → Int → Int → List (S43) → Option (Bool)
 | 0, _, _, _, _, _, _, _, _ => none
 | k + 1, x0, x3, x59, x188000, x188001, x188002, x188003, x188004 => if x59 = true then (some false) else (compositorref23_Check.l1 k x0 x3 0 x188000 x188001 x188002 x188003 x188004)
def compositorref23_Check.l1 : Nat → List (S41) → Int → Int → Int → Int → Int → Int → List (S43) → Option (Bool)
 | 0, _, _, _, _, _, _, _, _ => none
 | k + 1, x0, x3, x7, x188000, x188001, x188002, x188003, x188004 => if x7 < (x188004.length : Int) then (if 0 ≤ x7 then ((compositorref23_word.f ((rd_T43 x188004 x7).f1)).bind fun t191 => (if ((rd_T43 x188004 x7).f0) < 0 then (some false) else (if ((rd_T43 x188004 x7).f0) > 255 then (some false) else (if t191 = true then (compositorref23_Check.l1 k x0 x3 (wrap64 (x7 + 1)) x188000 x188001 x188002 x188003 x188004) else (some false))))) else (none)) else (compositorref23_Check.l0 k x0 (wrap64 (x3 + 1)))
end
def compositorref23_Check.f (k : Nat) (l0 : List (S41)) : Option (Bool) := if (l0.length : Int) > 200 then (some false) else (compositorref23_Check.l0 k l0 0)
theorem compositorref23_Check.mono_l : ∀ k, (∀ y0 y1, LeO (compositorref23_Check.l0 k y0 y1) (compositorref23_Check.l0 (k + 1) y0 y1)) ∧ (∀ y0 y1 y2 y3 y4 y5 y6 y7, LeO (compositorref23_Check.j1 k y0 y1 y2 y3 y4 y5 y6 y7) (compositorref23_Check.j1 (k + 1) y0 y1 y2 y3 y4 y5 y6 y7)) ∧ (∀ y0 y1 y2 y3 y4 y5 y6 y7, LeO (compositorref23_Check.l1 k y0 y1 y2 y3 y4 y5 y6 y7) (compositorref23_Check.l1 (k + 1) y0 y1 y2 y3 y4 y5 y6 y7))
 | 0 => ⟨fun _ _ r h => by simp [compositorref23_Check.l0] at h, fun _ _ _ _ _ _ _ _ r h => by simp [compositorref23_Check.j1] at h, fun _ _ _ _ _ _ _ _ r h => by simp [compositorref23_Check.l1] at h⟩
 | k + 1 => by
  obtain ⟨ih0, ih1, ih2⟩ := compositorref23_Check.mono_l k
  refine ⟨?_, ?_, ?_⟩
  ·intro y0 y1
   unfold compositorref23_Check.l0
   repeat' first
   | (with_reducible exact ih0 _ _)
   | (with_reducible exact ih1 _ _ _ _ _ _ _ _)
   | (with_reducible exact ih2 _ _ _ _ _ _ _ _)
   | (with_reducible exact LeO.refl _)
   | (with_reducible exact LeO.none _)
   | (with_reducible refine LeO.ite ?_ ?_)
   | (with_reducible refine LeO.bind ?_ (fun _ => ?_))
   | exact ih0 _ _
   | exact ih1 _ _ _ _ _ _ _ _
   | exact ih2 _ _ _ _ _ _ _ _
   | exact LeO.none _
   | refine LeO.ite ?_ ?_
   | refine LeO.bind ?_ (fun _ => ?_)
  ·intro y0 y1 y2 y3 y4 y5 y6 y7
   unfold compositorref23_Check.j1
   repeat' first
   | (with_reducible exact ih0 _ _)
   | (with_reducible exact ih1 _ _ _ _ _ _ _ _)
   | (with_reducible exact ih2 _ _ _ _ _ _ _ _)
   | (with_reducible exact LeO.refl _)
   | (with_reducible exact LeO.none _)
   | (with_reducible refine LeO.ite ?_ ?_)
   | (with_reducible refine LeO.bind ?_ (fun _ => ?_))
   | exact ih0 _ _
   | exact ih1 _ _ _ _ _ _ _ _
   | exact ih2 _ _ _ _ _ _ _ _
   | exact LeO.none _
   | refine LeO.ite ?_ ?_
   | refine LeO.bind ?_ (fun _ => ?_)
  ·intro y0 y1 y2 y3 y4 y5 y6 y7
   unfold compositorref23_Check.l1
   repeat' first
   | (with_reducible exact ih0 _ _)
   | (with_reducible exact ih1 _ _ _ _ _ _ _ _)
   | (with_reducible exact ih2 _ _ _ _ _ _ _ _)
   | (with_reducible exact LeO.refl _)
   | (with_reducible exact LeO.none _)
   | (with_reducible refine LeO.ite ?_ ?_)
   | (with_reducible refine LeO.bind ?_ (fun _ => ?_))
   | exact ih0 _ _
   | exact ih1 _ _ _ _ _ _ _ _
   | exact ih2 _ _ _ _ _ _ _ _
   | exact LeO.none _
   | refine LeO.ite ?_ ?_
   | refine LeO.bind ?_ (fun _ => ?_)
theorem compositorref23_Check.mono : ∀ a0 k, LeO (compositorref23_Check.f k a0) (compositorref23_Check.f (k + 1) a0) := by
 intro a0 k
 obtain ⟨ih0, ih1, ih2⟩ := compositorref23_Check.mono_l k
 unfold compositorref23_Check.f
 repeat' first
   | (with_reducible exact ih0 _ _)
   | (with_reducible exact ih1 _ _ _ _ _ _ _ _)
   | (with_reducible exact ih2 _ _ _ _ _ _ _ _)
   | (with_reducible exact LeO.refl _)
   | (with_reducible exact LeO.none _)
   | (with_reducible refine LeO.ite ?_ ?_)
   | (with_reducible refine LeO.bind ?_ (fun _ => ?_))
   | exact ih0 _ _
   | exact ih1 _ _ _ _ _ _ _ _
   | exact ih2 _ _ _ _ _ _ _ _
   | exact LeO.none _
   | refine LeO.ite ?_ ?_
   | refine LeO.bind ?_ (fun _ => ?_)
set_option maxHeartbeats 8000000 in
set_option maxRecDepth 100000 in
theorem compositorref23_Check.calls (k : Nat) (A0 : Option Addr) (c0 : Nat) (l0 : List (S41)) (r : Bool) (w : World) (hr0 : Kd.C k41 w A0 l0.length l0) (hc0 : l0.length ≤ c0) (h : compositorref23_Check.f k l0 = some r) :
  Calls Try.prog 14 #[.slice A0 l0.length c0] w fun e w' => e = .returned (.bool r) ∧ Below w.heap.size w w' := by
 have hu41 := Try.underlying41
 have HR0 := Aside0.mk hr0
 have HC0 := Aside0.mk hc0
 clear hr0 hc0
 have HB := Aside0.mk (Below.refl w.heap.size w)
 have H : (if (l0.length : Int) > 200 then (some false) else (compositorref23_Check.l0 k l0 0)) = some r := h
 clear h
 by_cases c2 : (l0.length : Int) > 200
 ·rw [if_pos c2] at H
  have c2b0 : decide (200 < (l0.length : Int)) = true := decide_eq_true c2
  have c2b1 : decide (200 < l0.length) = true := decide_eq_true (by omega)
  clear c2
  obtain rfl := Option.some.inj H
  go_enter Try.func14, Try.ntmps14
  go_wp2
  go_ret
  exact ⟨by first | rfl | (simp [errW_none, errW_some] <;> rfl) | (simp [*, errW_none, errW_some] <;> rfl), by repeat (first | (with_reducible first | exact HB.out | apply below_alloc | apply pw_below_drewN | apply below_drew1) | exact HB.out)⟩
 ·rw [if_neg c2] at H
  have c2b0 : decide (200 < (l0.length : Int)) = false := decide_eq_false c2
  have c2b1 : decide (200 < l0.length) = false := decide_eq_false (by omega)
  clear c2
  have H' := Aside0.mk H
  clear H
  go_enter Try.func14, Try.ntmps14
  go_wp2
  go_loopg [3] k (fun kq v3 w' => ∃ (x3_1 : Int), v3 = .int .i64 x3_1 ∧ Aside0 (compositorref23_Check.l0 kq l0 x3_1 = some r) ∧ Aside0 (kq ≤ k) ∧ Aside0 (Below w.heap.size w w'))
  case atStart => exact ⟨(0), (by first | rfl | (simp; done) | (simp [*]; done)), H', ⟨Nat.le_refl _⟩, ⟨by repeat (first | (with_reducible first | exact HB.out | apply below_alloc | apply pw_below_drewN | apply below_drew1) | exact HB.out)⟩⟩
  case round =>
   clear H'
   try clear c1
   try clear c2
   try clear c2b0
   try clear c2b1
   try clear p2
   obtain ⟨x3_1, rfl, HA, HK1, HB⟩ := hrel
   cases gk with
   | zero => exact absurd HA.out (by simp [compositorref23_Check.l0])
   | succ k1 =>
    have H := HA.out
    clear HA
    simp only [compositorref23_Check.l0] at H
    by_cases c3 : x3_1 < (l0.length : Int)
    ·rw [if_pos c3] at H
     have c3b0 : decide (x3_1 < (l0.length : Int)) = true := decide_eq_true c3
     clear c3
     by_cases c4 : 0 ≤ x3_1
     ·rw [if_pos c4] at H
      have c4b0 : decide (0 ≤ x3_1) = true := decide_eq_true c4
      clear c4
      replace H := Option.bind_eq_some_iff.mp H
      obtain ⟨t188, A50, H⟩ := H
      replace H : ((compositorref23_word.f ((rd_T41 l0 x3_1).f3)).bind fun t189 => (if ((rd_T41 l0 x3_1).f0) < (-8) then (compositorref23_Check.j1 k1 l0 x3_1 true ((rd_T41 l0 x3_1).f0) ((rd_T41 l0 x3_1).f1) ((rd_T41 l0 x3_1).f2) ((rd_T41 l0 x3_1).f3) ((rd_T41 l0 x3_1).f4)) else (if ((rd_T41 l0 x3_1).f0) > 8 then (compositorref23_Check.j1 k1 l0 x3_1 true ((rd_T41 l0 x3_1).f0) ((rd_T41 l0 x3_1).f1) ((rd_T41 l0 x3_1).f2) ((rd_T41 l0 x3_1).f3) ((rd_T41 l0 x3_1).f4)) else (if ((rd_T41 l0 x3_1).f1) < 1 then (compositorref23_Check.j1 k1 l0 x3_1 true ((rd_T41 l0 x3_1).f0) ((rd_T41 l0 x3_1).f1) ((rd_T41 l0 x3_1).f2) ((rd_T41 l0 x3_1).f3) ((rd_T41 l0 x3_1).f4)) else (if ((rd_T41 l0 x3_1).f1) > 5 then (compositorref23_Check.j1 k1 l0 x3_1 true ((rd_T41 l0 x3_1).f0) ((rd_T41 l0 x3_1).f1) ((rd_T41 l0 x3_1).f2) ((rd_T41 l0 x3_1).f3) ((rd_T41 l0 x3_1).f4)) else (if t188 = true then (if t189 = true then (compositorref23_Check.j1 k1 l0 x3_1 (decide ((((rd_T41 l0 x3_1).f4).length : Int) > 600)) ((rd_T41 l0 x3_1).f0) ((rd_T41 l0 x3_1).f1) ((rd_T41 l0 x3_1).f2) ((rd_T41 l0 x3_1).f3) ((rd_T41 l0 x3_1).f4)) else (compositorref23_Check.j1 k1 l0 x3_1 true ((rd_T41 l0 x3_1).f0) ((rd_T41 l0 x3_1).f1) ((rd_T41 l0 x3_1).f2) ((rd_T41 l0 x3_1).f3) ((rd_T41 l0 x3_1).f4))) else (compositorref23_Check.j1 k1 l0 x3_1 true ((rd_T41 l0 x3_1).f0) ((rd_T41 l0 x3_1).f1) ((rd_T41 l0 x3_1).f2) ((rd_T41 l0 x3_1).f3) ((rd_T41 l0 x3_1).f4)))))))) = some r := H
      have A5 := Aside0.mk A50
      clear A50
      replace H := Option.bind_eq_some_iff.mp H
      obtain ⟨t189, A60, H⟩ := H
      replace H : (if ((rd_T41 l0 x3_1).f0) < (-8) then (compositorref23_Check.j1 k1 l0 x3_1 true ((rd_T41 l0 x3_1).f0) ((rd_T41 l0 x3_1).f1) ((rd_T41 l0 x3_1).f2) ((rd_T41 l0 x3_1).f3) ((rd_T41 l0 x3_1).f4)) else (if ((rd_T41 l0 x3_1).f0) > 8 then (compositorref23_Check.j1 k1 l0 x3_1 true ((rd_T41 l0 x3_1).f0) ((rd_T41 l0 x3_1).f1) ((rd_T41 l0 x3_1).f2) ((rd_T41 l0 x3_1).f3) ((rd_T41 l0 x3_1).f4)) else (if ((rd_T41 l0 x3_1).f1) < 1 then (compositorref23_Check.j1 k1 l0 x3_1 true ((rd_T41 l0 x3_1).f0) ((rd_T41 l0 x3_1).f1) ((rd_T41 l0 x3_1).f2) ((rd_T41 l0 x3_1).f3) ((rd_T41 l0 x3_1).f4)) else (if ((rd_T41 l0 x3_1).f1) > 5 then (compositorref23_Check.j1 k1 l0 x3_1 true ((rd_T41 l0 x3_1).f0) ((rd_T41 l0 x3_1).f1) ((rd_T41 l0 x3_1).f2) ((rd_T41 l0 x3_1).f3) ((rd_T41 l0 x3_1).f4)) else (if t188 = true then (if t189 = true then (compositorref23_Check.j1 k1 l0 x3_1 (decide ((((rd_T41 l0 x3_1).f4).length : Int) > 600)) ((rd_T41 l0 x3_1).f0) ((rd_T41 l0 x3_1).f1) ((rd_T41 l0 x3_1).f2) ((rd_T41 l0 x3_1).f3) ((rd_T41 l0 x3_1).f4)) else (compositorref23_Check.j1 k1 l0 x3_1 true ((rd_T41 l0 x3_1).f0) ((rd_T41 l0 x3_1).f1) ((rd_T41 l0 x3_1).f2) ((rd_T41 l0 x3_1).f3) ((rd_T41 l0 x3_1).f4))) else (compositorref23_Check.j1 k1 l0 x3_1 true ((rd_T41 l0 x3_1).f0) ((rd_T41 l0 x3_1).f1) ((rd_T41 l0 x3_1).f2) ((rd_T41 l0 x3_1).f3) ((rd_T41 l0 x3_1).f4))))))) = some r := H
      have A6 := Aside0.mk A60
      clear A60
      have HC7 := Aside0.mk H
      clear H
      have p186 : 0 ≤ (x3_1 : Int) := odt
      have q186 : x3_1 < (l0.length : Int) := odt
      obtain ⟨ad186, A186_4, c186_4, e186, hx186_0, hx186_1, hx186_2, hx186_3, hx186_4, hl186_4, hi186_4⟩ := at_T41 HR0.out x3_1 p186 q186
      cases e186
      replace hx186_0 := (HB.out.cell (World.block_lt_of_cell? w _ hx186_0)).trans hx186_0
      replace hx186_1 := (HB.out.cell (World.block_lt_of_cell? w _ hx186_1)).trans hx186_1
      replace hx186_2 := (HB.out.cell (World.block_lt_of_cell? w _ hx186_2)).trans hx186_2
      replace hx186_3 := (HB.out.cell (World.block_lt_of_cell? w _ hx186_3)).trans hx186_3
      replace hx186_4 := (HB.out.cell (World.block_lt_of_cell? w _ hx186_4)).trans hx186_4
      have HR186_4 := Aside0.mk hi186_4
      have HC186_4 := Aside0.mk hl186_4
      clear hi186_4 hl186_4
      replace p186 := eq_true p186
      replace q186 := eq_true q186
      have tk_ : True := trivial
      go_upto_region 9 with (first | ((with_reducible refine gate_dst (N := 4) rfl ?_); (try (refine gate_guard (by rfl) ?_; dsimp only)); refine box_event ?hg (N := 4) ?hd (cs := #[.int .i64 0, .int .i64 0, .int .i64 0, .int .i64 0, .slice none 0 0]) (t := 41) ?hr ?_; (case hd => rfl); (case hg => rfl); (case hr => first | (go_simp; done) | (go_simp; rfl)); intro gb187 hg w8 hbox hb; have n0_ := Aside0.mk (below_step (by repeat (first | (with_reducible first | exact HB.out | apply below_alloc | apply pw_below_drewN | apply below_drew1) | exact HB.out)) hb); have n1_ := Aside0.mk (hbox); have n2_ := Aside0.mk ((by rw [hg]; exact (below_size (by repeat (first | (with_reducible first | exact HB.out | apply below_alloc | apply pw_below_drewN | apply below_drew1) | exact HB.out))) : w.heap.size ≤ gb187)); have n3_ := Aside0.mk ((by rw [hg]; exact (below_size (by repeat (first | (with_reducible first | exact HB.out | apply below_alloc | apply pw_below_drewN | apply below_drew1) | exact HB.out))) : w.heap.size ≤ gb187)); clear HB; have HB := n0_; have BK187 := n1_; have GW187 := n2_; have GE187 := n3_; clear n0_ n1_ n2_ n3_; clear hb hbox hg; have hcz9_0 : w8.cell? ⟨gb187, 0, none⟩ = some (.int .i64 0) := (blk_cell BK187.out 0).trans rfl; have hcz9_1 : w8.cell? ⟨gb187, 1, none⟩ = some (.int .i64 0) := (blk_cell BK187.out 1).trans rfl; have hcz9_2 : w8.cell? ⟨gb187, 2, none⟩ = some (.int .i64 0) := (blk_cell BK187.out 2).trans rfl; have hcz9_3 : w8.cell? ⟨gb187, 3, none⟩ = some (.int .i64 0) := (blk_cell BK187.out 3).trans rfl; have hcz9_4 : w8.cell? ⟨gb187, 4, none⟩ = some (.slice none 0 0) := (blk_cell BK187.out 4).trans rfl; have hfz9_0 := blk_frozen BK187.out 0; have hfz9_1 := blk_frozen BK187.out 1; have hfz9_2 := blk_frozen BK187.out 2; have hfz9_3 := blk_frozen BK187.out 3; have hfz9_4 := blk_frozen BK187.out 4) | (go_at_call 29; clear tk_; (with_reducible refine (compositorref23_word.calls ((rd_T41 l0 x3_1).f2) t188 _ A5.out).mono ?_); rintro e w' ⟨rfl, ⟨nd, rfl⟩⟩))
      as_aux_lemma =>
      have tk_ : True := trivial
      go_upto_region 9 with (first | (go_at_call 29; clear tk_; (with_reducible refine (compositorref23_word.calls ((rd_T41 l0 x3_1).f3) t189 _ A6.out).mono ?_); rintro e w' ⟨rfl, ⟨nd, rfl⟩⟩))
      (try simp only [Act.put, List.setIfInBounds_toArray, List.set_cons_zero, List.set_cons_succ])
      go_cut [59] (fun v59 wc => ∃ (kq : Nat) (x59_6 : Bool), v59 = .bool x59_6 ∧ Aside0 (compositorref23_Check.j1 kq l0 x3_1 x59_6 ((rd_T41 l0 x3_1).f0) ((rd_T41 l0 x3_1).f1) ((rd_T41 l0 x3_1).f2) ((rd_T41 l0 x3_1).f3) ((rd_T41 l0 x3_1).f4) = some r) ∧ Aside0 (kq ≤ k1) ∧ Aside0 (wc.heap[gb187]? = some (.cells #[.int .i64 ((rd_T41 l0 x3_1).f0), .int .i64 ((rd_T41 l0 x3_1).f1), .int .i64 ((rd_T41 l0 x3_1).f2), .int .i64 ((rd_T41 l0 x3_1).f3), (.slice A186_4 ((rd_T41 l0 x3_1).f4).length c186_4)] 41 (0, 0))) ∧ Aside0 (Below w.heap.size w wc))
      case first =>
       have H := HC7.out
       clear HC7
       by_cases c10 : ((rd_T41 l0 x3_1).f0) < (-8)
       ·rw [if_pos c10] at H
        have c10b0 : decide (((rd_T41 l0 x3_1).f0) < (-8)) = true := decide_eq_true c10
        clear c10
        (first | rw [c10b0] | (simp only [i64_w, i32_w]; rw [c10b0]) | skip)
        have H' := Aside0.mk H
        clear H
        have hcz11_0 : w8.cell? ⟨gb187, 0, none⟩ = some (.int .i64 0) := (blk_cell BK187.out 0).trans rfl
        have hcz11_1 : w8.cell? ⟨gb187, 1, none⟩ = some (.int .i64 0) := (blk_cell BK187.out 1).trans rfl
        have hcz11_2 : w8.cell? ⟨gb187, 2, none⟩ = some (.int .i64 0) := (blk_cell BK187.out 2).trans rfl
        have hcz11_3 : w8.cell? ⟨gb187, 3, none⟩ = some (.int .i64 0) := (blk_cell BK187.out 3).trans rfl
        have hcz11_4 : w8.cell? ⟨gb187, 4, none⟩ = some (.slice none 0 0) := (blk_cell BK187.out 4).trans rfl
        have hfz11_0 := blk_frozen BK187.out 0
        have hfz11_1 := blk_frozen BK187.out 1
        have hfz11_2 := blk_frozen BK187.out 2
        have hfz11_3 := blk_frozen BK187.out 3
        have hfz11_4 := blk_frozen BK187.out 4
        go_wp2
        go_meet
        case rel => exact ⟨_, (true), (by first | rfl | (simp; done) | (simp [*]; done)), H', ⟨by have := HK1.out; first | omega | exact Nat.le_refl _⟩, ⟨by (with_reducible repeat (first | refine blk_drewN ?_ _ | refine blk_drew ?_ | refine blk_alloc ?_ _)); refine blk_put (cs := #[.int .i64 ((rd_T41 l0 x3_1).f0), .int .i64 ((rd_T41 l0 x3_1).f1), .int .i64 ((rd_T41 l0 x3_1).f2), .int .i64 ((rd_T41 l0 x3_1).f3), .slice none 0 0]) ?_ 4 _ rfl; (with_reducible repeat (first | refine blk_drewN ?_ _ | refine blk_drew ?_ | refine blk_alloc ?_ _)); refine blk_put (cs := #[.int .i64 ((rd_T41 l0 x3_1).f0), .int .i64 ((rd_T41 l0 x3_1).f1), .int .i64 ((rd_T41 l0 x3_1).f2), .int .i64 0, .slice none 0 0]) ?_ 3 _ rfl; (with_reducible repeat (first | refine blk_drewN ?_ _ | refine blk_drew ?_ | refine blk_alloc ?_ _)); refine blk_put (cs := #[.int .i64 ((rd_T41 l0 x3_1).f0), .int .i64 ((rd_T41 l0 x3_1).f1), .int .i64 0, .int .i64 0, .slice none 0 0]) ?_ 2 _ rfl; (with_reducible repeat (first | refine blk_drewN ?_ _ | refine blk_drew ?_ | refine blk_alloc ?_ _)); refine blk_put (cs := #[.int .i64 ((rd_T41 l0 x3_1).f0), .int .i64 0, .int .i64 0, .int .i64 0, .slice none 0 0]) ?_ 1 _ rfl; (with_reducible repeat (first | refine blk_drewN ?_ _ | refine blk_drew ?_ | refine blk_alloc ?_ _)); refine blk_put (cs := #[.int .i64 0, .int .i64 0, .int .i64 0, .int .i64 0, .slice none 0 0]) ?_ 0 _ rfl; (with_reducible repeat (first | refine blk_drewN ?_ _ | refine blk_drew ?_ | refine blk_alloc ?_ _)); exact BK187.out⟩, ⟨by repeat (first | (with_reducible first | exact HB.out | apply below_alloc | apply pw_below_drewN | apply below_drew1 | refine below_set ?_ GE187.out) | exact HB.out)⟩⟩
       ·rw [if_neg c10] at H
        have c10b0 : decide (((rd_T41 l0 x3_1).f0) < (-8)) = false := decide_eq_false c10
        clear c10
        (first | rw [c10b0] | (simp only [i64_w, i32_w]; rw [c10b0]) | skip)
        by_cases c12 : ((rd_T41 l0 x3_1).f0) > 8
        ·rw [if_pos c12] at H
         have c12b0 : decide (8 < ((rd_T41 l0 x3_1).f0)) = true := decide_eq_true c12
         clear c12
         have H' := Aside0.mk H
         clear H
         have hcz13_0 : w8.cell? ⟨gb187, 0, none⟩ = some (.int .i64 0) := (blk_cell BK187.out 0).trans rfl
         have hcz13_1 : w8.cell? ⟨gb187, 1, none⟩ = some (.int .i64 0) := (blk_cell BK187.out 1).trans rfl
         have hcz13_2 : w8.cell? ⟨gb187, 2, none⟩ = some (.int .i64 0) := (blk_cell BK187.out 2).trans rfl
         have hcz13_3 : w8.cell? ⟨gb187, 3, none⟩ = some (.int .i64 0) := (blk_cell BK187.out 3).trans rfl
         have hcz13_4 : w8.cell? ⟨gb187, 4, none⟩ = some (.slice none 0 0) := (blk_cell BK187.out 4).trans rfl
         have hfz13_0 := blk_frozen BK187.out 0
         have hfz13_1 := blk_frozen BK187.out 1
         have hfz13_2 := blk_frozen BK187.out 2
         have hfz13_3 := blk_frozen BK187.out 3
         have hfz13_4 := blk_frozen BK187.out 4
         go_wp2
         go_meet
         case rel => exact ⟨_, (true), (by first | rfl | (simp; done) | (simp [*]; done)), H', ⟨by have := HK1.out; first | omega | exact Nat.le_refl _⟩, ⟨by (with_reducible repeat (first | refine blk_drewN ?_ _ | refine blk_drew ?_ | refine blk_alloc ?_ _)); refine blk_put (cs := #[.int .i64 ((rd_T41 l0 x3_1).f0), .int .i64 ((rd_T41 l0 x3_1).f1), .int .i64 ((rd_T41 l0 x3_1).f2), .int .i64 ((rd_T41 l0 x3_1).f3), .slice none 0 0]) ?_ 4 _ rfl; (with_reducible repeat (first | refine blk_drewN ?_ _ | refine blk_drew ?_ | refine blk_alloc ?_ _)); refine blk_put (cs := #[.int .i64 ((rd_T41 l0 x3_1).f0), .int .i64 ((rd_T41 l0 x3_1).f1), .int .i64 ((rd_T41 l0 x3_1).f2), .int .i64 0, .slice none 0 0]) ?_ 3 _ rfl; (with_reducible repeat (first | refine blk_drewN ?_ _ | refine blk_drew ?_ | refine blk_alloc ?_ _)); refine blk_put (cs := #[.int .i64 ((rd_T41 l0 x3_1).f0), .int .i64 ((rd_T41 l0 x3_1).f1), .int .i64 0, .int .i64 0, .slice none 0 0]) ?_ 2 _ rfl; (with_reducible repeat (first | refine blk_drewN ?_ _ | refine blk_drew ?_ | refine blk_alloc ?_ _)); refine blk_put (cs := #[.int .i64 ((rd_T41 l0 x3_1).f0), .int .i64 0, .int .i64 0, .int .i64 0, .slice none 0 0]) ?_ 1 _ rfl; (with_reducible repeat (first | refine blk_drewN ?_ _ | refine blk_drew ?_ | refine blk_alloc ?_ _)); refine blk_put (cs := #[.int .i64 0, .int .i64 0, .int .i64 0, .int .i64 0, .slice none 0 0]) ?_ 0 _ rfl; (with_reducible repeat (first | refine blk_drewN ?_ _ | refine blk_drew ?_ | refine blk_alloc ?_ _)); exact BK187.out⟩, ⟨by repeat (first | (with_reducible first | exact HB.out | apply below_alloc | apply pw_below_drewN | apply below_drew1 | refine below_set ?_ GE187.out) | exact HB.out)⟩⟩
        ·rw [if_neg c12] at H
         have c12b0 : decide (8 < ((rd_T41 l0 x3_1).f0)) = false := decide_eq_false c12
         clear c12
         by_cases c14 : ((rd_T41 l0 x3_1).f1) < 1
         ·rw [if_pos c14] at H
          have c14b0 : decide (((rd_T41 l0 x3_1).f1) < 1) = true := decide_eq_true c14
          clear c14
          have H' := Aside0.mk H
          clear H
          have hcz15_0 : w8.cell? ⟨gb187, 0, none⟩ = some (.int .i64 0) := (blk_cell BK187.out 0).trans rfl
          have hcz15_1 : w8.cell? ⟨gb187, 1, none⟩ = some (.int .i64 0) := (blk_cell BK187.out 1).trans rfl
          have hcz15_2 : w8.cell? ⟨gb187, 2, none⟩ = some (.int .i64 0) := (blk_cell BK187.out 2).trans rfl
          have hcz15_3 : w8.cell? ⟨gb187, 3, none⟩ = some (.int .i64 0) := (blk_cell BK187.out 3).trans rfl
          have hcz15_4 : w8.cell? ⟨gb187, 4, none⟩ = some (.slice none 0 0) := (blk_cell BK187.out 4).trans rfl
          have hfz15_0 := blk_frozen BK187.out 0
          have hfz15_1 := blk_frozen BK187.out 1
          have hfz15_2 := blk_frozen BK187.out 2
          have hfz15_3 := blk_frozen BK187.out 3
          have hfz15_4 := blk_frozen BK187.out 4
          go_wp2
          go_meet
          case rel => exact ⟨_, (true), (by first | rfl | (simp; done) | (simp [*]; done)), H', ⟨by have := HK1.out; first | omega | exact Nat.le_refl _⟩, ⟨by (with_reducible repeat (first | refine blk_drewN ?_ _ | refine blk_drew ?_ | refine blk_alloc ?_ _)); refine blk_put (cs := #[.int .i64 ((rd_T41 l0 x3_1).f0), .int .i64 ((rd_T41 l0 x3_1).f1), .int .i64 ((rd_T41 l0 x3_1).f2), .int .i64 ((rd_T41 l0 x3_1).f3), .slice none 0 0]) ?_ 4 _ rfl; (with_reducible repeat (first | refine blk_drewN ?_ _ | refine blk_drew ?_ | refine blk_alloc ?_ _)); refine blk_put (cs := #[.int .i64 ((rd_T41 l0 x3_1).f0), .int .i64 ((rd_T41 l0 x3_1).f1), .int .i64 ((rd_T41 l0 x3_1).f2), .int .i64 0, .slice none 0 0]) ?_ 3 _ rfl; (with_reducible repeat (first | refine blk_drewN ?_ _ | refine blk_drew ?_ | refine blk_alloc ?_ _)); refine blk_put (cs := #[.int .i64 ((rd_T41 l0 x3_1).f0), .int .i64 ((rd_T41 l0 x3_1).f1), .int .i64 0, .int .i64 0, .slice none 0 0]) ?_ 2 _ rfl; (with_reducible repeat (first | refine blk_drewN ?_ _ | refine blk_drew ?_ | refine blk_alloc ?_ _)); refine blk_put (cs := #[.int .i64 ((rd_T41 l0 x3_1).f0), .int .i64 0, .int .i64 0, .int .i64 0, .slice none 0 0]) ?_ 1 _ rfl; (with_reducible repeat (first | refine blk_drewN ?_ _ | refine blk_drew ?_ | refine blk_alloc ?_ _)); refine blk_put (cs := #[.int .i64 0, .int .i64 0, .int .i64 0, .int .i64 0, .slice none 0 0]) ?_ 0 _ rfl; (with_reducible repeat (first | refine blk_drewN ?_ _ | refine blk_drew ?_ | refine blk_alloc ?_ _)); exact BK187.out⟩, ⟨by repeat (first | (with_reducible first | exact HB.out | apply below_alloc | apply pw_below_drewN | apply below_drew1 | refine below_set ?_ GE187.out) | exact HB.out)⟩⟩
         ·rw [if_neg c14] at H
          have c14b0 : decide (((rd_T41 l0 x3_1).f1) < 1) = false := decide_eq_false c14
          clear c14
          by_cases c16 : ((rd_T41 l0 x3_1).f1) > 5
          ·rw [if_pos c16] at H
           have c16b0 : decide (5 < ((rd_T41 l0 x3_1).f1)) = true := decide_eq_true c16
           clear c16
           have H' := Aside0.mk H
           clear H
           have hcz17_0 : w8.cell? ⟨gb187, 0, none⟩ = some (.int .i64 0) := (blk_cell BK187.out 0).trans rfl
           have hcz17_1 : w8.cell? ⟨gb187, 1, none⟩ = some (.int .i64 0) := (blk_cell BK187.out 1).trans rfl
           have hcz17_2 : w8.cell? ⟨gb187, 2, none⟩ = some (.int .i64 0) := (blk_cell BK187.out 2).trans rfl
           have hcz17_3 : w8.cell? ⟨gb187, 3, none⟩ = some (.int .i64 0) := (blk_cell BK187.out 3).trans rfl
           have hcz17_4 : w8.cell? ⟨gb187, 4, none⟩ = some (.slice none 0 0) := (blk_cell BK187.out 4).trans rfl
           have hfz17_0 := blk_frozen BK187.out 0
           have hfz17_1 := blk_frozen BK187.out 1
           have hfz17_2 := blk_frozen BK187.out 2
           have hfz17_3 := blk_frozen BK187.out 3
           have hfz17_4 := blk_frozen BK187.out 4
           go_wp2
           go_meet
           case rel => exact ⟨_, (true), (by first | rfl | (simp; done) | (simp [*]; done)), H', ⟨by have := HK1.out; first | omega | exact Nat.le_refl _⟩, ⟨by (with_reducible repeat (first | refine blk_drewN ?_ _ | refine blk_drew ?_ | refine blk_alloc ?_ _)); refine blk_put (cs := #[.int .i64 ((rd_T41 l0 x3_1).f0), .int .i64 ((rd_T41 l0 x3_1).f1), .int .i64 ((rd_T41 l0 x3_1).f2), .int .i64 ((rd_T41 l0 x3_1).f3), .slice none 0 0]) ?_ 4 _ rfl; (with_reducible repeat (first | refine blk_drewN ?_ _ | refine blk_drew ?_ | refine blk_alloc ?_ _)); refine blk_put (cs := #[.int .i64 ((rd_T41 l0 x3_1).f0), .int .i64 ((rd_T41 l0 x3_1).f1), .int .i64 ((rd_T41 l0 x3_1).f2), .int .i64 0, .slice none 0 0]) ?_ 3 _ rfl; (with_reducible repeat (first | refine blk_drewN ?_ _ | refine blk_drew ?_ | refine blk_alloc ?_ _)); refine blk_put (cs := #[.int .i64 ((rd_T41 l0 x3_1).f0), .int .i64 ((rd_T41 l0 x3_1).f1), .int .i64 0, .int .i64 0, .slice none 0 0]) ?_ 2 _ rfl; (with_reducible repeat (first | refine blk_drewN ?_ _ | refine blk_drew ?_ | refine blk_alloc ?_ _)); refine blk_put (cs := #[.int .i64 ((rd_T41 l0 x3_1).f0), .int .i64 0, .int .i64 0, .int .i64 0, .slice none 0 0]) ?_ 1 _ rfl; (with_reducible repeat (first | refine blk_drewN ?_ _ | refine blk_drew ?_ | refine blk_alloc ?_ _)); refine blk_put (cs := #[.int .i64 0, .int .i64 0, .int .i64 0, .int .i64 0, .slice none 0 0]) ?_ 0 _ rfl; (with_reducible repeat (first | refine blk_drewN ?_ _ | refine blk_drew ?_ | refine blk_alloc ?_ _)); exact BK187.out⟩, ⟨by repeat (first | (with_reducible first | exact HB.out | apply below_alloc | apply pw_below_drewN | apply below_drew1 | refine below_set ?_ GE187.out) | exact HB.out)⟩⟩
          ·rw [if_neg c16] at H
           have c16b0 : decide (5 < ((rd_T41 l0 x3_1).f1)) = false := decide_eq_false c16
           clear c16
           by_cases c18 : t188 = true
           ·subst c18
            have H1 : (if t189 = true then (compositorref23_Check.j1 k1 l0 x3_1 (decide ((((rd_T41 l0 x3_1).f4).length : Int) > 600)) ((rd_T41 l0 x3_1).f0) ((rd_T41 l0 x3_1).f1) ((rd_T41 l0 x3_1).f2) ((rd_T41 l0 x3_1).f3) ((rd_T41 l0 x3_1).f4)) else (compositorref23_Check.j1 k1 l0 x3_1 true ((rd_T41 l0 x3_1).f0) ((rd_T41 l0 x3_1).f1) ((rd_T41 l0 x3_1).f2) ((rd_T41 l0 x3_1).f3) ((rd_T41 l0 x3_1).f4))) = some r := by rw [if_pos rfl] at H; exact H
            clear H
            have H := H1
            clear H1
            by_cases c19 : t189 = true
            ·subst c19
             have H1 : (compositorref23_Check.j1 k1 l0 x3_1 (decide ((((rd_T41 l0 x3_1).f4).length : Int) > 600)) ((rd_T41 l0 x3_1).f0) ((rd_T41 l0 x3_1).f1) ((rd_T41 l0 x3_1).f2) ((rd_T41 l0 x3_1).f3) ((rd_T41 l0 x3_1).f4)) = some r := by rw [if_pos rfl] at H; exact H
             clear H
             have H := H1
             clear H1
             have H' := Aside0.mk H
             clear H
             have hcz20_0 : w8.cell? ⟨gb187, 0, none⟩ = some (.int .i64 0) := (blk_cell BK187.out 0).trans rfl
             have hcz20_1 : w8.cell? ⟨gb187, 1, none⟩ = some (.int .i64 0) := (blk_cell BK187.out 1).trans rfl
             have hcz20_2 : w8.cell? ⟨gb187, 2, none⟩ = some (.int .i64 0) := (blk_cell BK187.out 2).trans rfl
             have hcz20_3 : w8.cell? ⟨gb187, 3, none⟩ = some (.int .i64 0) := (blk_cell BK187.out 3).trans rfl
             have hcz20_4 : w8.cell? ⟨gb187, 4, none⟩ = some (.slice none 0 0) := (blk_cell BK187.out 4).trans rfl
             have hfz20_0 := blk_frozen BK187.out 0
             have hfz20_1 := blk_frozen BK187.out 1
             have hfz20_2 := blk_frozen BK187.out 2
             have hfz20_3 := blk_frozen BK187.out 3
             have hfz20_4 := blk_frozen BK187.out 4
             go_wp2
             go_meet
             case rel => exact ⟨_, (decide ((((rd_T41 l0 x3_1).f4).length : Int) > 600)), (by first | rfl | (simp; done) | (simp [*]; done)), H', ⟨by have := HK1.out; first | omega | exact Nat.le_refl _⟩, ⟨by (with_reducible repeat (first | refine blk_drewN ?_ _ | refine blk_drew ?_ | refine blk_alloc ?_ _)); refine blk_put (cs := #[.int .i64 ((rd_T41 l0 x3_1).f0), .int .i64 ((rd_T41 l0 x3_1).f1), .int .i64 ((rd_T41 l0 x3_1).f2), .int .i64 ((rd_T41 l0 x3_1).f3), .slice none 0 0]) ?_ 4 _ rfl; (with_reducible repeat (first | refine blk_drewN ?_ _ | refine blk_drew ?_ | refine blk_alloc ?_ _)); refine blk_put (cs := #[.int .i64 ((rd_T41 l0 x3_1).f0), .int .i64 ((rd_T41 l0 x3_1).f1), .int .i64 ((rd_T41 l0 x3_1).f2), .int .i64 0, .slice none 0 0]) ?_ 3 _ rfl; (with_reducible repeat (first | refine blk_drewN ?_ _ | refine blk_drew ?_ | refine blk_alloc ?_ _)); refine blk_put (cs := #[.int .i64 ((rd_T41 l0 x3_1).f0), .int .i64 ((rd_T41 l0 x3_1).f1), .int .i64 0, .int .i64 0, .slice none 0 0]) ?_ 2 _ rfl; (with_reducible repeat (first | refine blk_drewN ?_ _ | refine blk_drew ?_ | refine blk_alloc ?_ _)); refine blk_put (cs := #[.int .i64 ((rd_T41 l0 x3_1).f0), .int .i64 0, .int .i64 0, .int .i64 0, .slice none 0 0]) ?_ 1 _ rfl; (with_reducible repeat (first | refine blk_drewN ?_ _ | refine blk_drew ?_ | refine blk_alloc ?_ _)); refine blk_put (cs := #[.int .i64 0, .int .i64 0, .int .i64 0, .int .i64 0, .slice none 0 0]) ?_ 0 _ rfl; (with_reducible repeat (first | refine blk_drewN ?_ _ | refine blk_drew ?_ | refine blk_alloc ?_ _)); exact BK187.out⟩, ⟨by repeat (first | (with_reducible first | exact HB.out | apply below_alloc | apply pw_below_drewN | apply below_drew1 | refine below_set ?_ GE187.out) | exact HB.out)⟩⟩
            ·replace c19 := Bool.eq_false_iff.mpr c19
             subst c19
             have H1 : (compositorref23_Check.j1 k1 l0 x3_1 true ((rd_T41 l0 x3_1).f0) ((rd_T41 l0 x3_1).f1) ((rd_T41 l0 x3_1).f2) ((rd_T41 l0 x3_1).f3) ((rd_T41 l0 x3_1).f4)) = some r := by rw [if_neg (show ¬ (false = true) by decide)] at H; exact H
             clear H
             have H := H1
             clear H1
             have H' := Aside0.mk H
             clear H
             have hcz21_0 : w8.cell? ⟨gb187, 0, none⟩ = some (.int .i64 0) := (blk_cell BK187.out 0).trans rfl
             have hcz21_1 : w8.cell? ⟨gb187, 1, none⟩ = some (.int .i64 0) := (blk_cell BK187.out 1).trans rfl
             have hcz21_2 : w8.cell? ⟨gb187, 2, none⟩ = some (.int .i64 0) := (blk_cell BK187.out 2).trans rfl
             have hcz21_3 : w8.cell? ⟨gb187, 3, none⟩ = some (.int .i64 0) := (blk_cell BK187.out 3).trans rfl
             have hcz21_4 : w8.cell? ⟨gb187, 4, none⟩ = some (.slice none 0 0) := (blk_cell BK187.out 4).trans rfl
             have hfz21_0 := blk_frozen BK187.out 0
             have hfz21_1 := blk_frozen BK187.out 1
             have hfz21_2 := blk_frozen BK187.out 2
             have hfz21_3 := blk_frozen BK187.out 3
             have hfz21_4 := blk_frozen BK187.out 4
             go_wp2
             go_meet
             case rel => exact ⟨_, (true), (by first | rfl | (simp; done) | (simp [*]; done)), H', ⟨by have := HK1.out; first | omega | exact Nat.le_refl _⟩, ⟨by (with_reducible repeat (first | refine blk_drewN ?_ _ | refine blk_drew ?_ | refine blk_alloc ?_ _)); refine blk_put (cs := #[.int .i64 ((rd_T41 l0 x3_1).f0), .int .i64 ((rd_T41 l0 x3_1).f1), .int .i64 ((rd_T41 l0 x3_1).f2), .int .i64 ((rd_T41 l0 x3_1).f3), .slice none 0 0]) ?_ 4 _ rfl; (with_reducible repeat (first | refine blk_drewN ?_ _ | refine blk_drew ?_ | refine blk_alloc ?_ _)); refine blk_put (cs := #[.int .i64 ((rd_T41 l0 x3_1).f0), .int .i64 ((rd_T41 l0 x3_1).f1), .int .i64 ((rd_T41 l0 x3_1).f2), .int .i64 0, .slice none 0 0]) ?_ 3 _ rfl; (with_reducible repeat (first | refine blk_drewN ?_ _ | refine blk_drew ?_ | refine blk_alloc ?_ _)); refine blk_put (cs := #[.int .i64 ((rd_T41 l0 x3_1).f0), .int .i64 ((rd_T41 l0 x3_1).f1), .int .i64 0, .int .i64 0, .slice none 0 0]) ?_ 2 _ rfl; (with_reducible repeat (first | refine blk_drewN ?_ _ | refine blk_drew ?_ | refine blk_alloc ?_ _)); refine blk_put (cs := #[.int .i64 ((rd_T41 l0 x3_1).f0), .int .i64 0, .int .i64 0, .int .i64 0, .slice none 0 0]) ?_ 1 _ rfl; (with_reducible repeat (first | refine blk_drewN ?_ _ | refine blk_drew ?_ | refine blk_alloc ?_ _)); refine blk_put (cs := #[.int .i64 0, .int .i64 0, .int .i64 0, .int .i64 0, .slice none 0 0]) ?_ 0 _ rfl; (with_reducible repeat (first | refine blk_drewN ?_ _ | refine blk_drew ?_ | refine blk_alloc ?_ _)); exact BK187.out⟩, ⟨by repeat (first | (with_reducible first | exact HB.out | apply below_alloc | apply pw_below_drewN | apply below_drew1 | refine below_set ?_ GE187.out) | exact HB.out)⟩⟩
           ·replace c18 := Bool.eq_false_iff.mpr c18
            subst c18
            have H1 : (compositorref23_Check.j1 k1 l0 x3_1 true ((rd_T41 l0 x3_1).f0) ((rd_T41 l0 x3_1).f1) ((rd_T41 l0 x3_1).f2) ((rd_T41 l0 x3_1).f3) ((rd_T41 l0 x3_1).f4)) = some r := by rw [if_neg (show ¬ (false = true) by decide)] at H; exact H
            clear H
            have H := H1
            clear H1
            have H' := Aside0.mk H
            clear H
            have hcz22_0 : w8.cell? ⟨gb187, 0, none⟩ = some (.int .i64 0) := (blk_cell BK187.out 0).trans rfl
            have hcz22_1 : w8.cell? ⟨gb187, 1, none⟩ = some (.int .i64 0) := (blk_cell BK187.out 1).trans rfl
            have hcz22_2 : w8.cell? ⟨gb187, 2, none⟩ = some (.int .i64 0) := (blk_cell BK187.out 2).trans rfl
            have hcz22_3 : w8.cell? ⟨gb187, 3, none⟩ = some (.int .i64 0) := (blk_cell BK187.out 3).trans rfl
            have hcz22_4 : w8.cell? ⟨gb187, 4, none⟩ = some (.slice none 0 0) := (blk_cell BK187.out 4).trans rfl
            have hfz22_0 := blk_frozen BK187.out 0
            have hfz22_1 := blk_frozen BK187.out 1
            have hfz22_2 := blk_frozen BK187.out 2
            have hfz22_3 := blk_frozen BK187.out 3
            have hfz22_4 := blk_frozen BK187.out 4
            go_wp2
            go_meet
            case rel => exact ⟨_, (true), (by first | rfl | (simp; done) | (simp [*]; done)), H', ⟨by have := HK1.out; first | omega | exact Nat.le_refl _⟩, ⟨by (with_reducible repeat (first | refine blk_drewN ?_ _ | refine blk_drew ?_ | refine blk_alloc ?_ _)); refine blk_put (cs := #[.int .i64 ((rd_T41 l0 x3_1).f0), .int .i64 ((rd_T41 l0 x3_1).f1), .int .i64 ((rd_T41 l0 x3_1).f2), .int .i64 ((rd_T41 l0 x3_1).f3), .slice none 0 0]) ?_ 4 _ rfl; (with_reducible repeat (first | refine blk_drewN ?_ _ | refine blk_drew ?_ | refine blk_alloc ?_ _)); refine blk_put (cs := #[.int .i64 ((rd_T41 l0 x3_1).f0), .int .i64 ((rd_T41 l0 x3_1).f1), .int .i64 ((rd_T41 l0 x3_1).f2), .int .i64 0, .slice none 0 0]) ?_ 3 _ rfl; (with_reducible repeat (first | refine blk_drewN ?_ _ | refine blk_drew ?_ | refine blk_alloc ?_ _)); refine blk_put (cs := #[.int .i64 ((rd_T41 l0 x3_1).f0), .int .i64 ((rd_T41 l0 x3_1).f1), .int .i64 0, .int .i64 0, .slice none 0 0]) ?_ 2 _ rfl; (with_reducible repeat (first | refine blk_drewN ?_ _ | refine blk_drew ?_ | refine blk_alloc ?_ _)); refine blk_put (cs := #[.int .i64 ((rd_T41 l0 x3_1).f0), .int .i64 0, .int .i64 0, .int .i64 0, .slice none 0 0]) ?_ 1 _ rfl; (with_reducible repeat (first | refine blk_drewN ?_ _ | refine blk_drew ?_ | refine blk_alloc ?_ _)); refine blk_put (cs := #[.int .i64 0, .int .i64 0, .int .i64 0, .int .i64 0, .slice none 0 0]) ?_ 0 _ rfl; (with_reducible repeat (first | refine blk_drewN ?_ _ | refine blk_drew ?_ | refine blk_alloc ?_ _)); exact BK187.out⟩, ⟨by repeat (first | (with_reducible first | exact HB.out | apply below_alloc | apply pw_below_drewN | apply below_drew1 | refine below_set ?_ GE187.out) | exact HB.out)⟩⟩
      case rest =>
       clear HC7
       try clear c1
       try clear p1
       try clear q1
       try clear hx1
       try clear c2
       try clear c2b0
       try clear c2b1
       try clear p2
       try clear c3
       try clear c3b0
       try clear c4
       try clear c4b0
       try clear c10
       try clear c10b0
       try clear c12
       try clear c12b0
       try clear c14
       try clear c14b0
       try clear c16
       try clear c16b0
       try clear c18
       try clear p18
       try clear q18
       try clear hx18
       try clear c19
       try clear hcz11_0
       try clear hcz11_1
       try clear hcz11_2
       try clear hcz11_3
       try clear hcz11_4
       try clear hcz13_0
       try clear hcz13_1
       try clear hcz13_2
       try clear hcz13_3
       try clear hcz13_4
       try clear hcz15_0
       try clear hcz15_1
       try clear hcz15_2
       try clear hcz15_3
       try clear hcz15_4
       try clear hcz17_0
       try clear hcz17_1
       try clear hcz17_2
       try clear hcz17_3
       try clear hcz17_4
       try clear hcz20_0
       try clear hcz20_1
       try clear hcz20_2
       try clear hcz20_3
       try clear hcz20_4
       try clear hcz21_0
       try clear hcz21_1
       try clear hcz21_2
       try clear hcz21_3
       try clear hcz21_4
       try clear hcz22_0
       try clear hcz22_1
       try clear hcz22_2
       try clear hcz22_3
       try clear hcz22_4
       try clear hcz9_0
       try clear hcz9_1
       try clear hcz9_2
       try clear hcz9_3
       try clear hcz9_4
       try clear hfz11_0
       try clear hfz11_1
       try clear hfz11_2
       try clear hfz11_3
       try clear hfz11_4
       try clear hfz13_0
       try clear hfz13_1
       try clear hfz13_2
       try clear hfz13_3
       try clear hfz13_4
       try clear hfz15_0
       try clear hfz15_1
       try clear hfz15_2
       try clear hfz15_3
       try clear hfz15_4
       try clear hfz17_0
       try clear hfz17_1
       try clear hfz17_2
       try clear hfz17_3
       try clear hfz17_4
       try clear hfz20_0
       try clear hfz20_1
       try clear hfz20_2
       try clear hfz20_3
       try clear hfz20_4
       try clear hfz21_0
       try clear hfz21_1
       try clear hfz21_2
       try clear hfz21_3
       try clear hfz21_4
       try clear hfz22_0
       try clear hfz22_1
       try clear hfz22_2
       try clear hfz22_3
       try clear hfz22_4
       try clear hfz9_0
       try clear hfz9_1
       try clear hfz9_2
       try clear hfz9_3
       try clear hfz9_4
       try clear hx186_0
       try clear hx186_1
       try clear hx186_2
       try clear hx186_3
       try clear hx186_4
       try clear p186
       try clear p2
       try clear q186
       obtain ⟨kq, x59_6, rfl, HA, HJ6, BK187, HB⟩ := hcut
       cases kq with
       | zero => exact absurd HA.out (by simp [compositorref23_Check.j1])
       | succ kj6 =>
        have H := HA.out
        clear HA
        simp only [compositorref23_Check.j1] at H
        by_cases c23 : x59_6 = true
        ·subst c23
         have H1 : (some false) = some r := by rw [if_pos rfl] at H; exact H
         clear H
         have H := H1
         clear H1
         obtain rfl := Option.some.inj H
         go_wp2
         go_ret
         exact ⟨by first | rfl | (simp [errW_none, errW_some] <;> rfl) | (simp [*, errW_none, errW_some] <;> rfl), by repeat (first | (with_reducible first | exact HB.out | apply below_alloc | apply pw_below_drewN | apply below_drew1 | refine below_set ?_ GE187.out) | exact HB.out)⟩
        ·replace c23 := Bool.eq_false_iff.mpr c23
         subst c23
         have H1 : (compositorref23_Check.l1 kj6 l0 x3_1 0 ((rd_T41 l0 x3_1).f0) ((rd_T41 l0 x3_1).f1) ((rd_T41 l0 x3_1).f2) ((rd_T41 l0 x3_1).f3) ((rd_T41 l0 x3_1).f4)) = some r := by rw [if_neg (show ¬ (false = true) by decide)] at H; exact H
         clear H
         have H := H1
         clear H1
         have H' := Aside0.mk H
         clear H
         go_wp2
         go_loopg [7] kj6 (fun kq v7 w' => ∃ (x7_3 : Int), v7 = .int .i64 x7_3 ∧ Aside0 (compositorref23_Check.l1 kq l0 x3_1 x7_3 ((rd_T41 l0 x3_1).f0) ((rd_T41 l0 x3_1).f1) ((rd_T41 l0 x3_1).f2) ((rd_T41 l0 x3_1).f3) ((rd_T41 l0 x3_1).f4) = some r) ∧ Aside0 (kq ≤ kj6) ∧ Aside0 (w'.heap[gb187]? = some (.cells #[.int .i64 ((rd_T41 l0 x3_1).f0), .int .i64 ((rd_T41 l0 x3_1).f1), .int .i64 ((rd_T41 l0 x3_1).f2), .int .i64 ((rd_T41 l0 x3_1).f3), (.slice A186_4 ((rd_T41 l0 x3_1).f4).length c186_4)] 41 (0, 0))) ∧ Aside0 (Below w.heap.size w w'))
         case atStart => exact ⟨(0), (by first | rfl | (simp; done) | (simp [*]; done)), H', ⟨Nat.le_refl _⟩, ⟨by (with_reducible repeat (first | refine blk_drewN ?_ _ | refine blk_drew ?_ | refine blk_alloc ?_ _)); exact BK187.out⟩, ⟨by repeat (first | (with_reducible first | exact HB.out | apply below_alloc | apply pw_below_drewN | apply below_drew1 | refine below_set ?_ GE187.out) | exact HB.out)⟩⟩
         case round =>
          clear H'
          try clear c1
          try clear p1
          try clear q1
          try clear hx1
          try clear c2
          try clear c2b0
          try clear c2b1
          try clear p2
          try clear c3
          try clear c3b0
          try clear c4
          try clear c4b0
          try clear c10
          try clear c10b0
          try clear c12
          try clear c12b0
          try clear c14
          try clear c14b0
          try clear c16
          try clear c16b0
          try clear c18
          try clear p18
          try clear q18
          try clear hx18
          try clear c19
          try clear c23
          try clear hcz11_0
          try clear hcz11_1
          try clear hcz11_2
          try clear hcz11_3
          try clear hcz11_4
          try clear hcz13_0
          try clear hcz13_1
          try clear hcz13_2
          try clear hcz13_3
          try clear hcz13_4
          try clear hcz15_0
          try clear hcz15_1
          try clear hcz15_2
          try clear hcz15_3
          try clear hcz15_4
          try clear hcz17_0
          try clear hcz17_1
          try clear hcz17_2
          try clear hcz17_3
          try clear hcz17_4
          try clear hcz20_0
          try clear hcz20_1
          try clear hcz20_2
          try clear hcz20_3
          try clear hcz20_4
          try clear hcz21_0
          try clear hcz21_1
          try clear hcz21_2
          try clear hcz21_3
          try clear hcz21_4
          try clear hcz22_0
          try clear hcz22_1
          try clear hcz22_2
          try clear hcz22_3
          try clear hcz22_4
          try clear hcz9_0
          try clear hcz9_1
          try clear hcz9_2
          try clear hcz9_3
          try clear hcz9_4
          try clear hfz11_0
          try clear hfz11_1
          try clear hfz11_2
          try clear hfz11_3
          try clear hfz11_4
          try clear hfz13_0
          try clear hfz13_1
          try clear hfz13_2
          try clear hfz13_3
          try clear hfz13_4
          try clear hfz15_0
          try clear hfz15_1
          try clear hfz15_2
          try clear hfz15_3
          try clear hfz15_4
          try clear hfz17_0
          try clear hfz17_1
          try clear hfz17_2
          try clear hfz17_3
          try clear hfz17_4
          try clear hfz20_0
          try clear hfz20_1
          try clear hfz20_2
          try clear hfz20_3
          try clear hfz20_4
          try clear hfz21_0
          try clear hfz21_1
          try clear hfz21_2
          try clear hfz21_3
          try clear hfz21_4
          try clear hfz22_0
          try clear hfz22_1
          try clear hfz22_2
          try clear hfz22_3
          try clear hfz22_4
          try clear hfz9_0
          try clear hfz9_1
          try clear hfz9_2
          try clear hfz9_3
          try clear hfz9_4
          try clear hx186_0
          try clear hx186_1
          try clear hx186_2
          try clear hx186_3
          try clear hx186_4
          try clear p1
          try clear p18
          try clear p186
          try clear p2
          try clear q1
          try clear q18
          try clear q186
          obtain ⟨x7_3, rfl, HA, HK3, BK187, HB⟩ := hrel
          cases gk with
          | zero => exact absurd HA.out (by simp [compositorref23_Check.l1])
          | succ k3 =>
           have H := HA.out
           clear HA
           simp only [compositorref23_Check.l1] at H
           by_cases c24 : x7_3 < (((rd_T41 l0 x3_1).f4).length : Int)
           ·rw [if_pos c24] at H
            have c24b0 : decide (x7_3 < (((rd_T41 l0 x3_1).f4).length : Int)) = true := decide_eq_true c24
            clear c24
            by_cases c25 : 0 ≤ x7_3
            ·rw [if_pos c25] at H
             have c25b0 : decide (0 ≤ x7_3) = true := decide_eq_true c25
             clear c25
             replace H := Option.bind_eq_some_iff.mp H
             obtain ⟨t191, A260, H⟩ := H
             replace H : (if ((rd_T43 ((rd_T41 l0 x3_1).f4) x7_3).f0) < 0 then (some false) else (if ((rd_T43 ((rd_T41 l0 x3_1).f4) x7_3).f0) > 255 then (some false) else (if t191 = true then (compositorref23_Check.l1 k3 l0 x3_1 (wrap64 (x7_3 + 1)) ((rd_T41 l0 x3_1).f0) ((rd_T41 l0 x3_1).f1) ((rd_T41 l0 x3_1).f2) ((rd_T41 l0 x3_1).f3) ((rd_T41 l0 x3_1).f4)) else (some false)))) = some r := H
             have A26 := Aside0.mk A260
             clear A260
             by_cases c27 : ((rd_T43 ((rd_T41 l0 x3_1).f4) x7_3).f0) < 0
             ·rw [if_pos c27] at H
              have c27b0 : decide (((rd_T43 ((rd_T41 l0 x3_1).f4) x7_3).f0) < 0) = true := decide_eq_true c27
              clear c27
              obtain rfl := Option.some.inj H
              have hcz28_0 : wr.cell? ⟨gb187, 0, none⟩ = some (.int .i64 ((rd_T41 l0 x3_1).f0)) := (blk_cell BK187.out 0).trans rfl
              have hcz28_1 : wr.cell? ⟨gb187, 1, none⟩ = some (.int .i64 ((rd_T41 l0 x3_1).f1)) := (blk_cell BK187.out 1).trans rfl
              have hcz28_2 : wr.cell? ⟨gb187, 2, none⟩ = some (.int .i64 ((rd_T41 l0 x3_1).f2)) := (blk_cell BK187.out 2).trans rfl
              have hcz28_3 : wr.cell? ⟨gb187, 3, none⟩ = some (.int .i64 ((rd_T41 l0 x3_1).f3)) := (blk_cell BK187.out 3).trans rfl
              have hcz28_4 : wr.cell? ⟨gb187, 4, none⟩ = some (.slice A186_4 ((rd_T41 l0 x3_1).f4).length c186_4) := (blk_cell BK187.out 4).trans rfl
              have hfz28_0 := blk_frozen BK187.out 0
              have hfz28_1 := blk_frozen BK187.out 1
              have hfz28_2 := blk_frozen BK187.out 2
              have hfz28_3 := blk_frozen BK187.out 3
              have hfz28_4 := blk_frozen BK187.out 4
              have p190 : 0 ≤ (x7_3 : Int) := odt
              have q190 : x7_3 < (((rd_T41 l0 x3_1).f4).length : Int) := odt
              obtain ⟨ad190, e190, hx190_0, hx190_1⟩ := at_T43 HR186_4.out x7_3 p190 q190
              cases e190
              replace hx190_0 := (HB.out.cell (World.block_lt_of_cell? w _ hx190_0)).trans hx190_0
              replace hx190_1 := (HB.out.cell (World.block_lt_of_cell? w _ hx190_1)).trans hx190_1
              replace p190 := eq_true p190
              replace q190 := eq_true q190
              go_wp2_with (first | ((with_reducible refine gate_callee (f := 29) rfl ?_); refine goesL_ (some 73) rfl rfl Try.func29 (by kernel_rfl) rfl #[.int .i64 ((rd_T43 ((rd_T41 l0 x3_1).f4) x7_3).f1)] rfl (by (try simp only [List.map_toArray, List.map_cons, List.map_nil]); first | done | rfl | (simp only [List.length_drop, List.length_take]; rfl)) ?_; (with_reducible refine (compositorref23_word.calls ((rd_T43 ((rd_T41 l0 x3_1).f4) x7_3).f1) t191 _ A26.out).mono ?_); rintro e w' ⟨rfl, ⟨nd, rfl⟩⟩; refine ⟨_, rfl, ?_⟩; have p192 : 0 ≤ (x7_3 : Int) := odt; have q192 : x7_3 < (((rd_T41 l0 x3_1).f4).length : Int) := odt; obtain ⟨ad192, e192, hx192_0, hx192_1⟩ := at_T43 HR186_4.out x7_3 p192 q192; obtain rfl : ad190 = ad192 := (by injection e192); replace hx192_0 := (HB.out.cell (World.block_lt_of_cell? w _ hx192_0)).trans hx192_0; replace hx192_1 := (HB.out.cell (World.block_lt_of_cell? w _ hx192_1)).trans hx192_1; replace p192 := eq_true p192; replace q192 := eq_true q192))
              go_ret
              exact ⟨by first | rfl | (simp [errW_none, errW_some] <;> rfl) | (simp [*, errW_none, errW_some] <;> rfl), by repeat (first | (with_reducible first | exact HB.out | apply below_alloc | apply pw_below_drewN | apply below_drew1 | refine below_set ?_ GE187.out) | exact HB.out)⟩
             ·rw [if_neg c27] at H
              have c27b0 : decide (((rd_T43 ((rd_T41 l0 x3_1).f4) x7_3).f0) < 0) = false := decide_eq_false c27
              clear c27
              by_cases c29 : ((rd_T43 ((rd_T41 l0 x3_1).f4) x7_3).f0) > 255
              ·rw [if_pos c29] at H
               have c29b0 : decide (255 < ((rd_T43 ((rd_T41 l0 x3_1).f4) x7_3).f0)) = true := decide_eq_true c29
               clear c29
               obtain rfl := Option.some.inj H
               have hcz30_0 : wr.cell? ⟨gb187, 0, none⟩ = some (.int .i64 ((rd_T41 l0 x3_1).f0)) := (blk_cell BK187.out 0).trans rfl
               have hcz30_1 : wr.cell? ⟨gb187, 1, none⟩ = some (.int .i64 ((rd_T41 l0 x3_1).f1)) := (blk_cell BK187.out 1).trans rfl
               have hcz30_2 : wr.cell? ⟨gb187, 2, none⟩ = some (.int .i64 ((rd_T41 l0 x3_1).f2)) := (blk_cell BK187.out 2).trans rfl
               have hcz30_3 : wr.cell? ⟨gb187, 3, none⟩ = some (.int .i64 ((rd_T41 l0 x3_1).f3)) := (blk_cell BK187.out 3).trans rfl
               have hcz30_4 : wr.cell? ⟨gb187, 4, none⟩ = some (.slice A186_4 ((rd_T41 l0 x3_1).f4).length c186_4) := (blk_cell BK187.out 4).trans rfl
               have hfz30_0 := blk_frozen BK187.out 0
               have hfz30_1 := blk_frozen BK187.out 1
               have hfz30_2 := blk_frozen BK187.out 2
               have hfz30_3 := blk_frozen BK187.out 3
               have hfz30_4 := blk_frozen BK187.out 4
               have p190 : 0 ≤ (x7_3 : Int) := odt
               have q190 : x7_3 < (((rd_T41 l0 x3_1).f4).length : Int) := odt
               obtain ⟨ad190, e190, hx190_0, hx190_1⟩ := at_T43 HR186_4.out x7_3 p190 q190
               cases e190
               replace hx190_0 := (HB.out.cell (World.block_lt_of_cell? w _ hx190_0)).trans hx190_0
               replace hx190_1 := (HB.out.cell (World.block_lt_of_cell? w _ hx190_1)).trans hx190_1
               replace p190 := eq_true p190
               replace q190 := eq_true q190
               go_wp2_with (first | ((with_reducible refine gate_callee (f := 29) rfl ?_); refine goesL_ (some 73) rfl rfl Try.func29 (by kernel_rfl) rfl #[.int .i64 ((rd_T43 ((rd_T41 l0 x3_1).f4) x7_3).f1)] rfl (by (try simp only [List.map_toArray, List.map_cons, List.map_nil]); first | done | rfl | (simp only [List.length_drop, List.length_take]; rfl)) ?_; (with_reducible refine (compositorref23_word.calls ((rd_T43 ((rd_T41 l0 x3_1).f4) x7_3).f1) t191 _ A26.out).mono ?_); rintro e w' ⟨rfl, ⟨nd, rfl⟩⟩; refine ⟨_, rfl, ?_⟩; have p192 : 0 ≤ (x7_3 : Int) := odt; have q192 : x7_3 < (((rd_T41 l0 x3_1).f4).length : Int) := odt; obtain ⟨ad192, e192, hx192_0, hx192_1⟩ := at_T43 HR186_4.out x7_3 p192 q192; obtain rfl : ad190 = ad192 := (by injection e192); replace hx192_0 := (HB.out.cell (World.block_lt_of_cell? w _ hx192_0)).trans hx192_0; replace hx192_1 := (HB.out.cell (World.block_lt_of_cell? w _ hx192_1)).trans hx192_1; replace p192 := eq_true p192; replace q192 := eq_true q192; have p193 : 0 ≤ (x7_3 : Int) := odt; have q193 : x7_3 < (((rd_T41 l0 x3_1).f4).length : Int) := odt; obtain ⟨ad193, e193, hx193_0, hx193_1⟩ := at_T43 HR186_4.out x7_3 p193 q193; obtain rfl : ad190 = ad193 := (by injection e193); replace hx193_0 := (HB.out.cell (World.block_lt_of_cell? w _ hx193_0)).trans hx193_0; replace hx193_1 := (HB.out.cell (World.block_lt_of_cell? w _ hx193_1)).trans hx193_1; replace p193 := eq_true p193; replace q193 := eq_true q193))
               go_ret
               exact ⟨by first | rfl | (simp [errW_none, errW_some] <;> rfl) | (simp [*, errW_none, errW_some] <;> rfl), by repeat (first | (with_reducible first | exact HB.out | apply below_alloc | apply pw_below_drewN | apply below_drew1 | refine below_set ?_ GE187.out) | exact HB.out)⟩
              ·rw [if_neg c29] at H
               have c29b0 : decide (255 < ((rd_T43 ((rd_T41 l0 x3_1).f4) x7_3).f0)) = false := decide_eq_false c29
               clear c29
               by_cases c31 : t191 = true
               ·subst c31
                have H1 : (compositorref23_Check.l1 k3 l0 x3_1 (wrap64 (x7_3 + 1)) ((rd_T41 l0 x3_1).f0) ((rd_T41 l0 x3_1).f1) ((rd_T41 l0 x3_1).f2) ((rd_T41 l0 x3_1).f3) ((rd_T41 l0 x3_1).f4)) = some r := by rw [if_pos rfl] at H; exact H
                clear H
                have H := H1
                clear H1
                have H' := Aside0.mk H
                clear H
                have hcz32_0 : wr.cell? ⟨gb187, 0, none⟩ = some (.int .i64 ((rd_T41 l0 x3_1).f0)) := (blk_cell BK187.out 0).trans rfl
                have hcz32_1 : wr.cell? ⟨gb187, 1, none⟩ = some (.int .i64 ((rd_T41 l0 x3_1).f1)) := (blk_cell BK187.out 1).trans rfl
                have hcz32_2 : wr.cell? ⟨gb187, 2, none⟩ = some (.int .i64 ((rd_T41 l0 x3_1).f2)) := (blk_cell BK187.out 2).trans rfl
                have hcz32_3 : wr.cell? ⟨gb187, 3, none⟩ = some (.int .i64 ((rd_T41 l0 x3_1).f3)) := (blk_cell BK187.out 3).trans rfl
                have hcz32_4 : wr.cell? ⟨gb187, 4, none⟩ = some (.slice A186_4 ((rd_T41 l0 x3_1).f4).length c186_4) := (blk_cell BK187.out 4).trans rfl
                have hfz32_0 := blk_frozen BK187.out 0
                have hfz32_1 := blk_frozen BK187.out 1
                have hfz32_2 := blk_frozen BK187.out 2
                have hfz32_3 := blk_frozen BK187.out 3
                have hfz32_4 := blk_frozen BK187.out 4
                have p190 : 0 ≤ (x7_3 : Int) := odt
                have q190 : x7_3 < (((rd_T41 l0 x3_1).f4).length : Int) := odt
                obtain ⟨ad190, e190, hx190_0, hx190_1⟩ := at_T43 HR186_4.out x7_3 p190 q190
                cases e190
                replace hx190_0 := (HB.out.cell (World.block_lt_of_cell? w _ hx190_0)).trans hx190_0
                replace hx190_1 := (HB.out.cell (World.block_lt_of_cell? w _ hx190_1)).trans hx190_1
                replace p190 := eq_true p190
                replace q190 := eq_true q190
                go_wp2_with (first | ((with_reducible refine gate_callee (f := 29) rfl ?_); refine goesL_ (some 73) rfl rfl Try.func29 (by kernel_rfl) rfl #[.int .i64 ((rd_T43 ((rd_T41 l0 x3_1).f4) x7_3).f1)] rfl (by (try simp only [List.map_toArray, List.map_cons, List.map_nil]); first | done | rfl | (simp only [List.length_drop, List.length_take]; rfl)) ?_; (with_reducible refine (compositorref23_word.calls ((rd_T43 ((rd_T41 l0 x3_1).f4) x7_3).f1) true _ A26.out).mono ?_); rintro e w' ⟨rfl, ⟨nd, rfl⟩⟩; refine ⟨_, rfl, ?_⟩; have p192 : 0 ≤ (x7_3 : Int) := odt; have q192 : x7_3 < (((rd_T41 l0 x3_1).f4).length : Int) := odt; obtain ⟨ad192, e192, hx192_0, hx192_1⟩ := at_T43 HR186_4.out x7_3 p192 q192; obtain rfl : ad190 = ad192 := (by injection e192); replace hx192_0 := (HB.out.cell (World.block_lt_of_cell? w _ hx192_0)).trans hx192_0; replace hx192_1 := (HB.out.cell (World.block_lt_of_cell? w _ hx192_1)).trans hx192_1; replace p192 := eq_true p192; replace q192 := eq_true q192; have p193 : 0 ≤ (x7_3 : Int) := odt; have q193 : x7_3 < (((rd_T41 l0 x3_1).f4).length : Int) := odt; obtain ⟨ad193, e193, hx193_0, hx193_1⟩ := at_T43 HR186_4.out x7_3 p193 q193; obtain rfl : ad190 = ad193 := (by injection e193); replace hx193_0 := (HB.out.cell (World.block_lt_of_cell? w _ hx193_0)).trans hx193_0; replace hx193_1 := (HB.out.cell (World.block_lt_of_cell? w _ hx193_1)).trans hx193_1; replace p193 := eq_true p193; replace q193 := eq_true q193))
                go_roundg k3
                case measure => have := HK1.out; have := HJ6.out; have := HK3.out; omega
                case rel => exact ⟨(wrap64 (x7_3 + 1)), (by first | rfl | (simp; done) | (simp [*]; done)), H', ⟨by have := HK1.out; have := HJ6.out; have := HK3.out; omega⟩, ⟨by (with_reducible repeat (first | refine blk_drewN ?_ _ | refine blk_drew ?_ | refine blk_alloc ?_ _)); exact BK187.out⟩, ⟨by repeat (first | (with_reducible first | exact HB.out | apply below_alloc | apply pw_below_drewN | apply below_drew1 | refine below_set ?_ GE187.out) | exact HB.out)⟩⟩
               ·replace c31 := Bool.eq_false_iff.mpr c31
                subst c31
                have H1 : (some false) = some r := by rw [if_neg (show ¬ (false = true) by decide)] at H; exact H
                clear H
                have H := H1
                clear H1
                obtain rfl := Option.some.inj H
                have hcz33_0 : wr.cell? ⟨gb187, 0, none⟩ = some (.int .i64 ((rd_T41 l0 x3_1).f0)) := (blk_cell BK187.out 0).trans rfl
                have hcz33_1 : wr.cell? ⟨gb187, 1, none⟩ = some (.int .i64 ((rd_T41 l0 x3_1).f1)) := (blk_cell BK187.out 1).trans rfl
                have hcz33_2 : wr.cell? ⟨gb187, 2, none⟩ = some (.int .i64 ((rd_T41 l0 x3_1).f2)) := (blk_cell BK187.out 2).trans rfl
                have hcz33_3 : wr.cell? ⟨gb187, 3, none⟩ = some (.int .i64 ((rd_T41 l0 x3_1).f3)) := (blk_cell BK187.out 3).trans rfl
                have hcz33_4 : wr.cell? ⟨gb187, 4, none⟩ = some (.slice A186_4 ((rd_T41 l0 x3_1).f4).length c186_4) := (blk_cell BK187.out 4).trans rfl
                have hfz33_0 := blk_frozen BK187.out 0
                have hfz33_1 := blk_frozen BK187.out 1
                have hfz33_2 := blk_frozen BK187.out 2
                have hfz33_3 := blk_frozen BK187.out 3
                have hfz33_4 := blk_frozen BK187.out 4
                have p190 : 0 ≤ (x7_3 : Int) := odt
                have q190 : x7_3 < (((rd_T41 l0 x3_1).f4).length : Int) := odt
                obtain ⟨ad190, e190, hx190_0, hx190_1⟩ := at_T43 HR186_4.out x7_3 p190 q190
                cases e190
                replace hx190_0 := (HB.out.cell (World.block_lt_of_cell? w _ hx190_0)).trans hx190_0
                replace hx190_1 := (HB.out.cell (World.block_lt_of_cell? w _ hx190_1)).trans hx190_1
                replace p190 := eq_true p190
                replace q190 := eq_true q190
                go_wp2_with (first | ((with_reducible refine gate_callee (f := 29) rfl ?_); refine goesL_ (some 73) rfl rfl Try.func29 (by kernel_rfl) rfl #[.int .i64 ((rd_T43 ((rd_T41 l0 x3_1).f4) x7_3).f1)] rfl (by (try simp only [List.map_toArray, List.map_cons, List.map_nil]); first | done | rfl | (simp only [List.length_drop, List.length_take]; rfl)) ?_; (with_reducible refine (compositorref23_word.calls ((rd_T43 ((rd_T41 l0 x3_1).f4) x7_3).f1) false _ A26.out).mono ?_); rintro e w' ⟨rfl, ⟨nd, rfl⟩⟩; refine ⟨_, rfl, ?_⟩; have p192 : 0 ≤ (x7_3 : Int) := odt; have q192 : x7_3 < (((rd_T41 l0 x3_1).f4).length : Int) := odt; obtain ⟨ad192, e192, hx192_0, hx192_1⟩ := at_T43 HR186_4.out x7_3 p192 q192; obtain rfl : ad190 = ad192 := (by injection e192); replace hx192_0 := (HB.out.cell (World.block_lt_of_cell? w _ hx192_0)).trans hx192_0; replace hx192_1 := (HB.out.cell (World.block_lt_of_cell? w _ hx192_1)).trans hx192_1; replace p192 := eq_true p192; replace q192 := eq_true q192; have p193 : 0 ≤ (x7_3 : Int) := odt; have q193 : x7_3 < (((rd_T41 l0 x3_1).f4).length : Int) := odt; obtain ⟨ad193, e193, hx193_0, hx193_1⟩ := at_T43 HR186_4.out x7_3 p193 q193; obtain rfl : ad190 = ad193 := (by injection e193); replace hx193_0 := (HB.out.cell (World.block_lt_of_cell? w _ hx193_0)).trans hx193_0; replace hx193_1 := (HB.out.cell (World.block_lt_of_cell? w _ hx193_1)).trans hx193_1; replace p193 := eq_true p193; replace q193 := eq_true q193))
                go_ret
                exact ⟨by first | rfl | (simp [errW_none, errW_some] <;> rfl) | (simp [*, errW_none, errW_some] <;> rfl), by repeat (first | (with_reducible first | exact HB.out | apply below_alloc | apply pw_below_drewN | apply below_drew1 | refine below_set ?_ GE187.out) | exact HB.out)⟩
            ·rw [if_neg c25] at H
             exact absurd H (by simp)
           ·rw [if_neg c24] at H
            have c24b0 : decide (x7_3 < (((rd_T41 l0 x3_1).f4).length : Int)) = false := decide_eq_false c24
            clear c24
            have H' := Aside0.mk H
            clear H
            have hcz34_0 : wr.cell? ⟨gb187, 0, none⟩ = some (.int .i64 ((rd_T41 l0 x3_1).f0)) := (blk_cell BK187.out 0).trans rfl
            have hcz34_1 : wr.cell? ⟨gb187, 1, none⟩ = some (.int .i64 ((rd_T41 l0 x3_1).f1)) := (blk_cell BK187.out 1).trans rfl
            have hcz34_2 : wr.cell? ⟨gb187, 2, none⟩ = some (.int .i64 ((rd_T41 l0 x3_1).f2)) := (blk_cell BK187.out 2).trans rfl
            have hcz34_3 : wr.cell? ⟨gb187, 3, none⟩ = some (.int .i64 ((rd_T41 l0 x3_1).f3)) := (blk_cell BK187.out 3).trans rfl
            have hcz34_4 : wr.cell? ⟨gb187, 4, none⟩ = some (.slice A186_4 ((rd_T41 l0 x3_1).f4).length c186_4) := (blk_cell BK187.out 4).trans rfl
            have hfz34_0 := blk_frozen BK187.out 0
            have hfz34_1 := blk_frozen BK187.out 1
            have hfz34_2 := blk_frozen BK187.out 2
            have hfz34_3 := blk_frozen BK187.out 3
            have hfz34_4 := blk_frozen BK187.out 4
            go_wp2
            go_roundg k3
            case measure => have := HK1.out; have := HJ6.out; have := HK3.out; omega
            case rel => exact ⟨(wrap64 (x3_1 + 1)), (by first | rfl | (simp; done) | (simp [*]; done)), H', ⟨by have := HK1.out; have := HJ6.out; have := HK3.out; omega⟩, ⟨by repeat (first | (with_reducible first | exact HB.out | apply below_alloc | apply pw_below_drewN | apply below_drew1 | refine below_set ?_ GE187.out) | exact HB.out)⟩⟩
     ·rw [if_neg c4] at H
      exact absurd H (by simp)
    ·rw [if_neg c3] at H
     have c3b0 : decide (x3_1 < (l0.length : Int)) = false := decide_eq_false c3
     clear c3
     obtain rfl := Option.some.inj H
     go_wp2
     go_ret
     exact ⟨by first | rfl | (simp [errW_none, errW_some] <;> rfl) | (simp [*, errW_none, errW_some] <;> rfl), by repeat (first | (with_reducible first | exact HB.out | apply below_alloc | apply pw_below_drewN | apply below_drew1) | exact HB.out)⟩

end Go.Proofs.Ytihiiidbhhlfnaa.G
