/- Contracts of the functions of this seat: what each call computes, as a plain Lean function. Made by this session's own generator. -/
import Derived.Test.YtihiiidbhhlfnaaGx0
import Derived.Test.YtihiiidbhhlfnaaGx14
import Derived.Test.YtihiiidbhhlfnaaGx15
namespace Go.Proofs.Ytihiiidbhhlfnaa.G
open Go.RowKit Go.Proofs.YtihiiidbhhlfnaaMy Go.Proofs.YtihiiidbhhlfnaaW.PrintWords Go.Proofs.YtihiiidbhhlfnaaW.PrintLast Go.Proofs.YtihiiidbhhlfnaaW.PrintMore
attribute [local go_sem] max2_int min2_int max_two min_two max_three min_three max_four min_four   -- for this text's walks alone
set_option linter.unusedVariables false
set_option linter.unusedSimpArgs false

/-! ### compositorref23_Write: function 10 -/
mutual
def compositorref23_Write.l0 : Nat → List (S41) → List Int → Int → Option (List Int × Int)
 | 0, _, _, _ => none
 | k + 1, x0, x5, x6 => if x6 < (x0.length : Int) then (if 0 ≤ x6 then ((some (([(wrap64 (((rd_T41 x0 x6).f0) + 8)) % 256, ((rd_T41 x0 x6).f1) % 256] : List Int) : List Int)).bind fun y219 => (if x5.length + y219.length < 140737488355328 then ((compositorref06_PutFix.f k (x5 ++ y219) ((rd_T41 x0 x6).f2)).bind fun bt226 => ((compositorref06_PutFix.f k bt226.1 ((rd_T41 x0 x6).f3)).bind fun bt231 => ((compositorref06_Put.f k bt231.1 (((rd_T41 x0 x6).f4).length : Int) 2).bind fun bt236 => (compositorref23_Write.l1 k x0 bt236.1 x6 0)))) else (none))) else (none)) else (some (x5, 0))
def compositorref23_Write.l1 : Nat → List (S41) → List Int → Int → Int → Option (List Int × Int)
 | 0, _, _, _, _ => none
 | k + 1, x0, x5, x6, x7 => if 0 ≤ x6 then (if x6 < (x0.length : Int) then (if x7 < (((rd_T41 x0 x6).f4).length : Int) then (if 0 ≤ x7 then ((compositorref06_PutFix.f k ([] : List Int) ((rd_T43 ((rd_T41 x0 x6).f4) x7).f1)).bind fun bt243 => (if x5.length < 140737488355328 then ((some (x5 ++ [((rd_T43 ((rd_T41 x0 x6).f4) x7).f0) % 256] : List Int)).bind fun y249 => (if y249.length + bt243.1.length < 140737488355328 then (compositorref23_Write.l1 k x0 (y249 ++ bt243.1) x6 (wrap64 (x7 + 1))) else (none))) else (none))) else (none)) else (compositorref23_Write.l0 k x0 x5 (wrap64 (x6 + 1)))) else (none)) else (none)
end
def compositorref23_Write.f (k : Nat) (l0 : List (S41)) : Option (List Int × Int) := (compositorref23_Check.f k l0).bind fun t213 => (if t213 = true then (compositorref23_Write.l0 k l0 (([67, 79, ((l0.length : Int)) % 256] : List Int)) 0) else (some (([] : List Int), 230)))
theorem compositorref23_Write.mono_l : ∀ k, (∀ y0 y1 y2, LeO (compositorref23_Write.l0 k y0 y1 y2) (compositorref23_Write.l0 (k + 1) y0 y1 y2)) ∧ (∀ y0 y1 y2 y3, LeO (compositorref23_Write.l1 k y0 y1 y2 y3) (compositorref23_Write.l1 (k + 1) y0 y1 y2 y3))
 | 0 => ⟨fun _ _ _ r h => by simp [compositorref23_Write.l0] at h, fun _ _ _ _ r h => by simp [compositorref23_Write.l1] at h⟩
 | k + 1 => by
  obtain ⟨ih0, ih1⟩ := compositorref23_Write.mono_l k
  refine ⟨?_, ?_⟩
  ·intro y0 y1 y2
   unfold compositorref23_Write.l0
   repeat' first
   | (with_reducible exact ih0 _ _ _)
   | (with_reducible exact ih1 _ _ _ _)
   | (with_reducible exact compositorref06_Put.mono _ _ _ _)
   | (with_reducible exact compositorref06_PutFix.mono _ _ _)
   | (with_reducible exact compositorref23_Check.mono _ _)
   | (with_reducible exact LeO.refl _)
   | (with_reducible exact LeO.none _)
   | (with_reducible refine LeO.ite ?_ ?_)
   | (with_reducible refine LeO.bind ?_ (fun _ => ?_))
   | exact ih0 _ _ _
   | exact ih1 _ _ _ _
   | exact compositorref06_Put.mono _ _ _ _
   | exact compositorref06_PutFix.mono _ _ _
   | exact compositorref23_Check.mono _ _
   | exact LeO.none _
   | refine LeO.ite ?_ ?_
   | refine LeO.bind ?_ (fun _ => ?_)
  ·intro y0 y1 y2 y3
   unfold compositorref23_Write.l1
   repeat' first
   | (with_reducible exact ih0 _ _ _)
   | (with_reducible exact ih1 _ _ _ _)
   | (with_reducible exact compositorref06_Put.mono _ _ _ _)
   | (with_reducible exact compositorref06_PutFix.mono _ _ _)
   | (with_reducible exact compositorref23_Check.mono _ _)
   | (with_reducible exact LeO.refl _)
   | (with_reducible exact LeO.none _)
   | (with_reducible refine LeO.ite ?_ ?_)
   | (with_reducible refine LeO.bind ?_ (fun _ => ?_))
   | exact ih0 _ _ _
   | exact ih1 _ _ _ _
   | exact compositorref06_Put.mono _ _ _ _
   | exact compositorref06_PutFix.mono _ _ _
   | exact compositorref23_Check.mono _ _
   | exact LeO.none _
   | refine LeO.ite ?_ ?_
   | refine LeO.bind ?_ (fun _ => ?_)
theorem compositorref23_Write.mono : ∀ a0 k, LeO (compositorref23_Write.f k a0) (compositorref23_Write.f (k + 1) a0) := by
 intro a0 k
 obtain ⟨ih0, ih1⟩ := compositorref23_Write.mono_l k
 unfold compositorref23_Write.f
 repeat' first
   | (with_reducible exact ih0 _ _ _)
   | (with_reducible exact ih1 _ _ _ _)
   | (with_reducible exact compositorref06_Put.mono _ _ _ _)
   | (with_reducible exact compositorref06_PutFix.mono _ _ _)
   | (with_reducible exact compositorref23_Check.mono _ _)
   | (with_reducible exact LeO.refl _)
   | (with_reducible exact LeO.none _)
   | (with_reducible refine LeO.ite ?_ ?_)
   | (with_reducible refine LeO.bind ?_ (fun _ => ?_))
   | exact ih0 _ _ _
   | exact ih1 _ _ _ _
   | exact compositorref06_Put.mono _ _ _ _
   | exact compositorref06_PutFix.mono _ _ _
   | exact compositorref23_Check.mono _ _
   | exact LeO.none _
   | refine LeO.ite ?_ ?_
   | refine LeO.bind ?_ (fun _ => ?_)
def compositorref23_Write.T8 : Bool × List (List Nat × List Nat) := (true, [([], []), ([], []), ([], []), ([1, 2], [1, 2]), ([3], [3]), ([4], [4]), ([5], [5]), ([6], [6]), ([], []), ([], []), ([8, 9], [8, 9]), ([10], [10]), ([11], [11]), ([12], [12]), ([7, 13], [7, 13]), ([0, 14], [0, 14]), ([15, 15, 0, 1, 2, 3, 4, 5, 6, 7, 8, 9, 10, 11, 12, 13, 14, 15], [0, 15])])
def compositorref23_Write.B8 : List Nat := [0, 0, 0, 6, 14, 30, 62, 126, 0, 0, 768, 1792, 3840, 7936, 16382, 32767, 65535]
theorem compositorref23_Write.tab8 : rtab .any (opsOf Try.f10 8) = compositorref23_Write.T8 := by kernel_rfl
theorem compositorref23_Write.bits8 : waitsOk compositorref23_Write.T8.2 compositorref23_Write.B8 = true := by kernel_rfl
set_option maxHeartbeats 8000000 in
set_option maxRecDepth 100000 in
theorem compositorref23_Write.calls (k : Nat) (A0 : Option Addr) (c0 : Nat) (l0 : List (S41)) (r1 : List Int) (r2 : Int) (w : World) (hr0 : Kd.C k41 w A0 l0.length l0) (hc0 : l0.length ≤ c0) (h : compositorref23_Write.f k l0 = some (r1, r2)) :
  Calls Try.prog 10 #[.slice A0 l0.length c0] w fun e w' => ∃ v0_ : Value, e = .returned (.tuple #[v0_, .int .i64 r2]) ∧ Kd.R (Kd.int .u8) 5 w' w.heap.size (fun _ => True) v0_ r1 ∧ Below w.heap.size w w' := by
 have HR0 := Aside0.mk hr0
 have HC0 := Aside0.mk hc0
 clear hr0 hc0
 have HB := Aside0.mk (Below.refl w.heap.size w)
 have H : ((compositorref23_Check.f k l0).bind fun t213 => (if t213 = true then (compositorref23_Write.l0 k l0 (([67, 79, ((l0.length : Int)) % 256] : List Int)) 0) else (some (([] : List Int), 230)))) = some (r1, r2) := h
 clear h
 replace H := Option.bind_eq_some_iff.mp H
 obtain ⟨t213, A20, H⟩ := H
 replace H : (if t213 = true then (compositorref23_Write.l0 k l0 (([67, 79, ((l0.length : Int)) % 256] : List Int)) 0) else (some (([] : List Int), 230))) = some (r1, r2) := H
 have A2 := Aside0.mk A20
 clear A20
 by_cases c3 : t213 = true
 ·subst c3
  have H1 : (compositorref23_Write.l0 k l0 (([67, 79, ((l0.length : Int)) % 256] : List Int)) 0) = some (r1, r2) := by rw [if_pos rfl] at H; exact H
  clear H
  have H := H1
  clear H1
  obtain ⟨y214, hy214⟩ : ∃ y_ : List Int, y_ = (([67, 79, ((l0.length : Int)) % 256] : List Int)) := ⟨_, rfl⟩
  replace H : (compositorref23_Write.l0 k l0 y214 0) = some (r1, r2) := by first | (rw [hy214]; with_reducible exact H) | (have H2_ := (Option.bind_some _ _).symm.trans H; rw [hy214]; with_reducible exact H2_) | (have H2_ := (Option.bind_some _ _).symm.trans H; with_reducible exact H2_) | with_reducible exact H | (rw [hy214]; exact H) | exact H
  have Ny214 := Aside0.mk hy214
  clear hy214
  have H' := Aside0.mk H
  clear H
  go_enter Try.func10, Try.ntmps10
  go_wp2_with (first | ((with_reducible refine gate_callee (f := 14) rfl ?_); refine goesL_ (some 11) rfl rfl Try.func14 (by kernel_rfl) rfl #[.slice A0 l0.length c0] rfl (by (try simp only [List.map_toArray, List.map_cons, List.map_nil]); first | done | rfl | (simp only [List.length_drop, List.length_take]; rfl)) ?_; (with_reducible refine (compositorref23_Check.calls k _ _ l0 true _ ?side1 ?side2 A2.out).mono ?_); (case side1 => repeat (first | exact HR0.out | (with_reducible apply Kd.C_alloc) | (with_reducible apply Kd.C_drewN) | (with_reducible apply Kd.C_drew))); (case side2 => exact HC0.out); rintro e w4 ⟨rfl, hb⟩; refine ⟨_, rfl, ?_⟩; have n0_ := Aside0.mk (below_step (by repeat (first | (with_reducible first | exact HB.out | apply below_alloc | apply pw_below_drewN | apply below_drew1) | exact HB.out)) hb); clear HB; have HB := n0_; clear n0_; (try clear hb); (try clear hb2); (try clear hk); (try clear hi)) | ((with_reducible refine gate_dst (N := 17) rfl ?_); refine Kd.R_lit (Kd.int .u8) _ 5 ?hg (N := 17) ?hd (xs := ([67, 79, ((l0.length : Int)) % 256] : List Int)) (inner := [.int .u8 67, .int .u8 79, .int .u8 (((l0.length : Int)) % 256)]) (ok := fun _ => True) (okp := fun _ => True) ?hr ?hp (fun _ hk => hk) trivial (Below.refl _ _) (Nat.le_refl _) (by simp) ?_; (case hd => rfl); (case hg => rfl); (case hr => first | (go_simp; done) | (go_simp; rfl)); (case hp => exact (Reps.one (show Kd.M (Kd.int .u8) _ _ _ 67 [.int .u8 67] from rfl) (Reps.one (show Kd.M (Kd.int .u8) _ _ _ 79 [.int .u8 79] from rfl) (Reps.one (show Kd.M (Kd.int .u8) _ _ _ (((l0.length : Int)) % 256) [.int .u8 (((l0.length : Int)) % 256)] from rfl) (Reps.none _ _))))); intro v215 w5 ho6 hb hg_ hnew_; clear hg_ hnew_; (first | rw [← Ny214.out] at ho6 | (simp only [Int.reduceToNat] at ho6; rw [← Ny214.out] at ho6)); have n0_ := Aside0.mk (Kd.R_lower ho6 (below_size (by repeat (first | (with_reducible first | exact HB.out | apply below_alloc | apply pw_below_drewN | apply below_drew1) | exact HB.out)))); have n1_ := Aside0.mk (below_step (by repeat (first | (with_reducible first | exact HB.out | apply below_alloc | apply pw_below_drewN | apply below_drew1) | exact HB.out)) hb); clear HB; have HO216 := n0_; have HB := n1_; clear n0_ n1_; clear hb ho6))
  go_loopg [5, 6] k (fun kq v5 v6 w' => ∃ (x5_1 : List Int) (x6_1 : Int), v6 = .int .i64 x6_1 ∧ Aside0 (compositorref23_Write.l0 kq l0 x5_1 x6_1 = some (r1, r2)) ∧ Aside0 (kq ≤ k) ∧ Aside0 (Kd.R (Kd.int .u8) 5 w' w.heap.size (fun _ => True) v5 x5_1) ∧ Aside0 (Below w.heap.size w w'))
  case atStart => exact ⟨(y214), (0), (by first | rfl | (simp; done) | (simp [*]; done)), H', ⟨Nat.le_refl _⟩, ⟨by (with_reducible repeat (first | apply Kd.R_alloc | apply Kd.R_drewN | apply Kd.R_drew)); exact HO216.out⟩, ⟨by repeat (first | (with_reducible first | exact HB.out | apply below_alloc | apply pw_below_drewN | apply below_drew1) | exact HB.out)⟩⟩
  case round =>
   clear H'
   try clear c1
   try clear p2
   try clear c3
   obtain ⟨x5_1, x6_1, rfl, HA, HK1, HO_5, HB⟩ := hrel
   cases gk with
   | zero => exact absurd HA.out (by simp [compositorref23_Write.l0])
   | succ k1 =>
    have H := HA.out
    clear HA
    simp only [compositorref23_Write.l0] at H
    by_cases c7 : x6_1 < (l0.length : Int)
    ·rw [if_pos c7] at H
     have c7b0 : decide (x6_1 < (l0.length : Int)) = true := decide_eq_true c7
     clear c7
     by_cases c8 : 0 ≤ x6_1
     ·rw [if_pos c8] at H
      have c8b0 : decide (0 ≤ x6_1) = true := decide_eq_true c8
      clear c8
      obtain ⟨y219, hy219⟩ : ∃ y_ : List Int, y_ = (([(wrap64 (((rd_T41 l0 x6_1).f0) + 8)) % 256, ((rd_T41 l0 x6_1).f1) % 256] : List Int)) := ⟨_, rfl⟩
      replace H : (if x5_1.length + y219.length < 140737488355328 then ((compositorref06_PutFix.f k1 (x5_1 ++ y219) ((rd_T41 l0 x6_1).f2)).bind fun bt226 => ((compositorref06_PutFix.f k1 bt226.1 ((rd_T41 l0 x6_1).f3)).bind fun bt231 => ((compositorref06_Put.f k1 bt231.1 (((rd_T41 l0 x6_1).f4).length : Int) 2).bind fun bt236 => (compositorref23_Write.l1 k1 l0 bt236.1 x6_1 0)))) else (none)) = some (r1, r2) := by first | (rw [hy219]; with_reducible exact H) | (have H2_ := (Option.bind_some _ _).symm.trans H; rw [hy219]; with_reducible exact H2_) | (have H2_ := (Option.bind_some _ _).symm.trans H; with_reducible exact H2_) | with_reducible exact H | (rw [hy219]; exact H) | exact H
      have Ny219 := Aside0.mk hy219
      clear hy219
      by_cases c9 : x5_1.length + y219.length < 140737488355328
      ·rw [if_pos c9] at H
       have LMc9 := Aside0.mk c9
       clear c9
       obtain ⟨y222, hy222⟩ : ∃ y_ : List Int, y_ = (x5_1 ++ y219) := ⟨_, rfl⟩
       replace H : ((compositorref06_PutFix.f k1 y222 ((rd_T41 l0 x6_1).f2)).bind fun bt226 => ((compositorref06_PutFix.f k1 bt226.1 ((rd_T41 l0 x6_1).f3)).bind fun bt231 => ((compositorref06_Put.f k1 bt231.1 (((rd_T41 l0 x6_1).f4).length : Int) 2).bind fun bt236 => (compositorref23_Write.l1 k1 l0 bt236.1 x6_1 0)))) = some (r1, r2) := by first | (rw [hy222]; with_reducible exact H) | (have H2_ := (Option.bind_some _ _).symm.trans H; rw [hy222]; with_reducible exact H2_) | (have H2_ := (Option.bind_some _ _).symm.trans H; with_reducible exact H2_) | with_reducible exact H | (rw [hy222]; exact H) | exact H
       have Ny222 := Aside0.mk hy222
       clear hy222
       replace H := Option.bind_eq_some_iff.mp H
       obtain ⟨⟨t226, t227⟩, A100, H⟩ := H
       replace H : ((compositorref06_PutFix.f k1 t226 ((rd_T41 l0 x6_1).f3)).bind fun bt231 => ((compositorref06_Put.f k1 bt231.1 (((rd_T41 l0 x6_1).f4).length : Int) 2).bind fun bt236 => (compositorref23_Write.l1 k1 l0 bt236.1 x6_1 0))) = some (r1, r2) := H
       have A10 := Aside0.mk A100
       clear A100
       replace H := Option.bind_eq_some_iff.mp H
       obtain ⟨⟨t231, t232⟩, A110, H⟩ := H
       replace H : ((compositorref06_Put.f k1 t231 (((rd_T41 l0 x6_1).f4).length : Int) 2).bind fun bt236 => (compositorref23_Write.l1 k1 l0 bt236.1 x6_1 0)) = some (r1, r2) := H
       have A11 := Aside0.mk A110
       clear A110
       replace H := Option.bind_eq_some_iff.mp H
       obtain ⟨⟨t236, t237⟩, A120, H⟩ := H
       replace H : (compositorref23_Write.l1 k1 l0 t236 x6_1 0) = some (r1, r2) := H
       have A12 := Aside0.mk A120
       clear A120
       have H' := Aside0.mk H
       clear H
       try go_wp2
       have n0_ := Aside0.mk (Kd.R_drew HO_5.out)
       have n1_ := Aside0.mk (below_drew1 HB.out)
       clear HO_5
       clear HB
       have HO_5 := n0_
       have HB := n1_
       clear n0_ n1_
       have p217 : 0 ≤ (x6_1 : Int) := odt
       have q217 : x6_1 < (l0.length : Int) := odt
       obtain ⟨ad217, A217_4, c217_4, e217, hx217_0, hx217_1, hx217_2, hx217_3, hx217_4, hl217_4, hi217_4⟩ := at_T41 HR0.out x6_1 p217 q217
       have hw217_4 := hx217_4
       have hw217_3 := hx217_3
       have hw217_2 := hx217_2
       have hw217_1 := hx217_1
       have hw217_0 := hx217_0
       cases e217
       replace hx217_0 := (HB.out.cell (World.block_lt_of_cell? w _ hx217_0)).trans hx217_0
       replace hx217_1 := (HB.out.cell (World.block_lt_of_cell? w _ hx217_1)).trans hx217_1
       replace hx217_2 := (HB.out.cell (World.block_lt_of_cell? w _ hx217_2)).trans hx217_2
       replace hx217_3 := (HB.out.cell (World.block_lt_of_cell? w _ hx217_3)).trans hx217_3
       replace hx217_4 := (HB.out.cell (World.block_lt_of_cell? w _ hx217_4)).trans hx217_4
       have HR217_4 := Aside0.mk hi217_4
       have HC217_4 := Aside0.mk hl217_4
       clear hi217_4 hl217_4
       replace p217 := eq_true p217
       replace q217 := eq_true q217
       have p218 : 0 ≤ (x6_1 : Int) := odt
       have q218 : x6_1 < (l0.length : Int) := odt
       obtain ⟨ad218, A218_4, c218_4, e218, hx218_0, hx218_1, hx218_2, hx218_3, hx218_4, hl218_4, hi218_4⟩ := at_T41 HR0.out x6_1 p218 q218
       have hw218_4 := hx218_4
       have hw218_3 := hx218_3
       have hw218_2 := hx218_2
       have hw218_1 := hx218_1
       have hw218_0 := hx218_0
       obtain rfl : ad217 = ad218 := (by injection e218)
       replace hx218_0 := (HB.out.cell (World.block_lt_of_cell? w _ hx218_0)).trans hx218_0
       replace hx218_1 := (HB.out.cell (World.block_lt_of_cell? w _ hx218_1)).trans hx218_1
       replace hx218_2 := (HB.out.cell (World.block_lt_of_cell? w _ hx218_2)).trans hx218_2
       replace hx218_3 := (HB.out.cell (World.block_lt_of_cell? w _ hx218_3)).trans hx218_3
       replace hx218_4 := (HB.out.cell (World.block_lt_of_cell? w _ hx218_4)).trans hx218_4
       have HR218_4 := Aside0.mk hi218_4
       have HC218_4 := Aside0.mk hl218_4
       clear hi218_4 hl218_4
       replace p218 := eq_true p218
       replace q218 := eq_true q218
       have ea_ := Option.some.inj (hx217_4.symm.trans hx218_4)
       injection ea_ with ea_ en_ ec_
       subst ea_
       subst ec_
       clear en_
       refine start_ (n := 17) (S := fun w' => w'.cell? (ad217.add ((x6_1).toNat * 5)) = some (.int .i64 ((rd_T41 l0 x6_1).f0)) ∧ w'.cell? ⟨(ad217.add ((x6_1).toNat * 5)).block, (ad217.add ((x6_1).toNat * 5)).off + 1, none⟩ = some (.int .i64 ((rd_T41 l0 x6_1).f1)) ∧ w'.cell? ⟨(ad217.add ((x6_1).toNat * 5)).block, (ad217.add ((x6_1).toNat * 5)).off + 2, none⟩ = some (.int .i64 ((rd_T41 l0 x6_1).f2)) ∧ w'.cell? ⟨(ad217.add ((x6_1).toNat * 5)).block, (ad217.add ((x6_1).toNat * 5)).off + 3, none⟩ = some (.int .i64 ((rd_T41 l0 x6_1).f3)) ∧ w'.cell? ⟨(ad217.add ((x6_1).toNat * 5)).block, (ad217.add ((x6_1).toNat * 5)).off + 4, none⟩ = some (.slice A217_4 ((rd_T41 l0 x6_1).f4).length c217_4) ∧ w'.cell? (ad217.add ((x6_1).toNat * 5)) = some (.int .i64 ((rd_T41 l0 x6_1).f0)) ∧ w'.cell? ⟨(ad217.add ((x6_1).toNat * 5)).block, (ad217.add ((x6_1).toNat * 5)).off + 1, none⟩ = some (.int .i64 ((rd_T41 l0 x6_1).f1)) ∧ w'.cell? ⟨(ad217.add ((x6_1).toNat * 5)).block, (ad217.add ((x6_1).toNat * 5)).off + 2, none⟩ = some (.int .i64 ((rd_T41 l0 x6_1).f2)) ∧ w'.cell? ⟨(ad217.add ((x6_1).toNat * 5)).block, (ad217.add ((x6_1).toNat * 5)).off + 3, none⟩ = some (.int .i64 ((rd_T41 l0 x6_1).f3)) ∧ w'.cell? ⟨(ad217.add ((x6_1).toNat * 5)).block, (ad217.add ((x6_1).toNat * 5)).off + 4, none⟩ = some (.slice A217_4 ((rd_T41 l0 x6_1).f4).length c217_4)) (ds := []) #[false, false, false, false, false, false, false, false, false, false, false, false, false, false, false, false, false] (by kernel_rfl) rfl rfl ⟨((HB.out.cell (World.block_lt_of_cell? w _ hw217_0)).trans hw217_0), ((HB.out.cell (World.block_lt_of_cell? w _ hw217_1)).trans hw217_1), ((HB.out.cell (World.block_lt_of_cell? w _ hw217_2)).trans hw217_2), ((HB.out.cell (World.block_lt_of_cell? w _ hw217_3)).trans hw217_3), ((HB.out.cell (World.block_lt_of_cell? w _ hw217_4)).trans hw217_4), ((HB.out.cell (World.block_lt_of_cell? w _ hw218_0)).trans hw218_0), ((HB.out.cell (World.block_lt_of_cell? w _ hw218_1)).trans hw218_1), ((HB.out.cell (World.block_lt_of_cell? w _ hw218_2)).trans hw218_2), ((HB.out.cell (World.block_lt_of_cell? w _ hw218_3)).trans hw218_3), ((HB.out.cell (World.block_lt_of_cell? w _ hw218_4)).trans hw218_4)⟩ (fun hHeld => ?_); refine with_tabW compositorref23_Write.tab8 compositorref23_Write.bits8 (fun HT_ HW_ => ?_)
       generalize wr.drew = w13 at HO_5 HB HR217_4 HR218_4 hx217_0 hx217_1 hx217_2 hx217_3 hx217_4 hx218_0 hx218_1 hx218_2 hx218_3 hx218_4 hHeld ⊢
       refine pure_ (i := 0) (N := some 24) (v := ?_) (a' := ?_) #[true, false, false, false, false, false, false, false, false, false, false, false, false, false, false, false, false] rfl rfl (any_of HT_.out (by kernel_rfl)) (fun _ _ _ h => h) (Or.inl ⟨by rfl, ?_⟩) ?_ ?_
       rotate_left
       ·intro w'
        go_simp
        with_reducible rfl
       rotate_left
       ·simp only [Act.put, List.setIfInBounds_toArray, List.set_cons_zero, List.set_cons_succ, i64_w, i32_w]
        rfl
       refine pure_ (i := 1) (N := some 25) (v := ?_) (a' := ?_) #[true, true, false, false, false, false, false, false, false, false, false, false, false, false, false, false, false] rfl rfl (any_of HT_.out (by kernel_rfl)) (fun _ _ _ h => h) (Or.inl ⟨by rfl, ?_⟩) ?_ ?_
       rotate_left
       ·intro w'
        go_simp
        with_reducible rfl
       rotate_left
       ·simp only [Act.put, List.setIfInBounds_toArray, List.set_cons_zero, List.set_cons_succ, i64_w, i32_w]
        rfl
       refine pure_ (i := 2) (N := some 26) (v := ?_) (a' := ?_) #[true, true, true, false, false, false, false, false, false, false, false, false, false, false, false, false, false] rfl rfl (any_of HT_.out (by kernel_rfl)) (fun _ _ _ h => h) (Or.inl ⟨by rfl, ?_⟩) ?_ ?_
       rotate_left
       ·intro w'
        go_simp
        with_reducible rfl
       rotate_left
       ·simp only [Act.put, List.setIfInBounds_toArray, List.set_cons_zero, List.set_cons_succ, i64_w, i32_w]
        rfl
       refine pure_ (i := 3) (N := some 27) (v := ?_) (a' := ?_) #[true, true, true, true, false, false, false, false, false, false, false, false, false, false, false, false, false] rfl rfl (any_of HT_.out (by kernel_rfl)) (fun _ _ _ h => h) (Or.inl ⟨by rfl, ?_⟩) ?_ ?_
       rotate_left
       ·intro w'
        go_simp
        with_reducible rfl
       rotate_left
       ·simp only [Act.put, List.setIfInBounds_toArray, List.set_cons_zero, List.set_cons_succ, i64_w, i32_w]
        rfl
       refine pure_ (i := 4) (N := some 28) (v := ?_) (a' := ?_) #[true, true, true, true, true, false, false, false, false, false, false, false, false, false, false, false, false] rfl rfl (any_of HT_.out (by kernel_rfl)) (fun _ _ _ h => h) (Or.inl ⟨by rfl, ?_⟩) ?_ ?_
       rotate_left
       ·intro w'
        go_simp
        with_reducible rfl
       rotate_left
       ·simp only [Act.put, List.setIfInBounds_toArray, List.set_cons_zero, List.set_cons_succ, i64_w, i32_w]
        rfl
       refine pure_ (i := 8) (N := some 32) (v := ?_) (a' := ?_) #[true, true, true, true, true, false, false, false, true, false, false, false, false, false, false, false, false] rfl rfl (any_of HT_.out (by kernel_rfl)) (fun _ _ _ h => h) (Or.inl ⟨by rfl, ?_⟩) ?_ ?_
       rotate_left
       ·intro w'
        go_simp
        with_reducible rfl
       rotate_left
       ·simp only [Act.put, List.setIfInBounds_toArray, List.set_cons_zero, List.set_cons_succ, i64_w, i32_w]
        rfl
       refine pure_ (i := 9) (N := some 33) (v := ?_) (a' := ?_) #[true, true, true, true, true, false, false, false, true, true, false, false, false, false, false, false, false] rfl rfl (any_of HT_.out (by kernel_rfl)) (fun _ _ _ h => h) (Or.inl ⟨by rfl, ?_⟩) ?_ ?_
       rotate_left
       ·intro w'
        go_simp
        with_reducible rfl
       rotate_left
       ·simp only [Act.put, List.setIfInBounds_toArray, List.set_cons_zero, List.set_cons_succ, i64_w, i32_w]
        rfl
       refine pure_ (i := 10) (N := some 34) (v := ?_) (a' := ?_) #[true, true, true, true, true, false, false, false, true, true, true, false, false, false, false, false, false] rfl rfl (any_of HT_.out (by kernel_rfl)) (fun _ _ _ h => h) (Or.inl ⟨by rfl, ?_⟩) ?_ ?_
       rotate_left
       ·intro w'
        go_simp
        with_reducible rfl
       rotate_left
       ·simp only [Act.put, List.setIfInBounds_toArray, List.set_cons_zero, List.set_cons_succ, i64_w, i32_w]
        rfl
       refine pure_ (i := 11) (N := some 35) (v := ?_) (a' := ?_) #[true, true, true, true, true, false, false, false, true, true, true, true, false, false, false, false, false] rfl rfl (any_of HT_.out (by kernel_rfl)) (fun _ _ _ h => h) (Or.inl ⟨by rfl, ?_⟩) ?_ ?_
       rotate_left
       ·intro w'
        go_simp
        with_reducible rfl
       rotate_left
       ·simp only [Act.put, List.setIfInBounds_toArray, List.set_cons_zero, List.set_cons_succ, i64_w, i32_w]
        rfl
       refine take_ (i := 5) (N := some 29) (v := ?_) (a' := ?_) #[true, true, true, true, true, true, false, false, true, true, true, true, false, false, false, false, false] rfl rfl (take_ofW HT_.out HW_.out (by kernel_rfl)) (fun _ _ _ h => h) (Or.inl ⟨by rfl, ?_⟩) hHeld ?_ ?_
       rotate_left
       ·rintro w' ⟨s0, s1, s2, s3, s4, s5, s6, s7, s8, s9⟩
        go_simp
        with_reducible rfl
       rotate_left
       ·simp only [Act.put, List.setIfInBounds_toArray, List.set_cons_zero, List.set_cons_succ, i64_w, i32_w]
        rfl
       refine pure_ (i := 6) (N := some 30) (v := ?_) (a' := ?_) #[true, true, true, true, true, true, true, false, true, true, true, true, false, false, false, false, false] rfl rfl (any_of HT_.out (by kernel_rfl)) (fun _ _ _ h => h) (Or.inl ⟨by rfl, ?_⟩) ?_ ?_
       rotate_left
       ·intro w'
        go_simp
        with_reducible rfl
       rotate_left
       ·simp only [Act.put, List.setIfInBounds_toArray, List.set_cons_zero, List.set_cons_succ, i64_w, i32_w]
        rfl
       refine pure_ (i := 7) (N := some 31) (v := ?_) (a' := ?_) #[true, true, true, true, true, true, true, true, true, true, true, true, false, false, false, false, false] rfl rfl (any_of HT_.out (by kernel_rfl)) (fun _ _ _ h => h) (Or.inl ⟨by rfl, ?_⟩) ?_ ?_
       rotate_left
       ·intro w'
        go_simp
        with_reducible rfl
       rotate_left
       ·simp only [Act.put, List.setIfInBounds_toArray, List.set_cons_zero, List.set_cons_succ, i64_w, i32_w]
        rfl
       refine take_ (i := 12) (N := some 36) (v := ?_) (a' := ?_) #[true, true, true, true, true, true, true, true, true, true, true, true, true, false, false, false, false] rfl rfl (take_ofW HT_.out HW_.out (by kernel_rfl)) (fun _ _ _ h => h) (Or.inl ⟨by rfl, ?_⟩) hHeld ?_ ?_
       rotate_left
       ·rintro w' ⟨s0, s1, s2, s3, s4, s5, s6, s7, s8, s9⟩
        go_simp
        with_reducible rfl
       rotate_left
       ·simp only [Act.put, List.setIfInBounds_toArray, List.set_cons_zero, List.set_cons_succ, i64_w, i32_w]
        rfl
       refine pure_ (i := 13) (N := some 37) (v := ?_) (a' := ?_) #[true, true, true, true, true, true, true, true, true, true, true, true, true, true, false, false, false] rfl rfl (any_of HT_.out (by kernel_rfl)) (fun _ _ _ h => h) (Or.inl ⟨by rfl, ?_⟩) ?_ ?_
       rotate_left
       ·intro w'
        go_simp
        with_reducible rfl
       rotate_left
       ·simp only [Act.put, List.setIfInBounds_toArray, List.set_cons_zero, List.set_cons_succ, i64_w, i32_w]
        rfl
       refine one_ (i := 14) (N := some 38) #[true, true, true, true, true, true, true, true, true, true, true, true, true, true, true, false, false] rfl rfl (one_of HT_.out (by kernel_rfl)) (by decide) (fun K hK => ?_)
       refine Kd.R_lit_step (Kd.int .u8) _ 5 ?hg (N := 38) ?hd (xs := ([(wrap64 (((rd_T41 l0 x6_1).f0) + 8)) % 256, ((rd_T41 l0 x6_1).f1) % 256] : List Int)) (inner := [.int .u8 ((wrap64 (((rd_T41 l0 x6_1).f0) + 8)) % 256), .int .u8 (((rd_T41 l0 x6_1).f1) % 256)]) (ok := fun _ => True) (okp := fun _ => True) ?hr ?hp (fun _ hk => hk) trivial (Below.refl _ _) (Nat.le_refl _) (by simp) ?_; (case hd => rfl); (case hg => rfl); (case hr => first | (go_simp; done) | (go_simp; rfl)); (case hp => exact (Reps.one (show Kd.M (Kd.int .u8) _ _ _ ((wrap64 (((rd_T41 l0 x6_1).f0) + 8)) % 256) [.int .u8 ((wrap64 (((rd_T41 l0 x6_1).f0) + 8)) % 256)] from rfl) (Reps.one (show Kd.M (Kd.int .u8) _ _ _ (((rd_T41 l0 x6_1).f1) % 256) [.int .u8 (((rd_T41 l0 x6_1).f1) % 256)] from rfl) (Reps.none _ _))))
       intro v220 w14 ho15 hb hg_ hnew_
       clear hg_ hnew_
       (first | rw [← Ny219.out] at ho15 | (simp only [Int.reduceToNat] at ho15; rw [← Ny219.out] at ho15))
       have n0_ := Aside0.mk (Kd.R_elder' (by (with_reducible repeat (first | apply Kd.R_alloc | apply Kd.R_drewN | apply Kd.R_drew)); exact HO_5.out) (Kd.R_base ho15) hb)
       have n1_ := Aside0.mk (Kd.R_lower (Kd.R_new' ho15 (Kd.R_lt (by (with_reducible repeat (first | apply Kd.R_alloc | apply Kd.R_drewN | apply Kd.R_drew)); exact HO_5.out))) (below_size (by repeat (first | (with_reducible first | exact HB.out | apply below_alloc | apply pw_below_drewN | apply below_drew1) | exact HB.out))))
       have n2_ := Aside0.mk (below_step (by repeat (first | (with_reducible first | exact HB.out | apply below_alloc | apply pw_below_drewN | apply below_drew1) | exact HB.out)) hb)
       clear HO_5
       clear HB
       have HO_5 := n0_
       have HO221 := n1_
       have HB := n2_
       clear n0_ n1_ n2_
       clear hb ho15
       obtain ⟨Ao17, co17, eo17⟩ := Kd.R_slice HO221.out
       (first | subst eo17 | (injection eo17 with f1_ f2_ f3_; have f4_ := f1_.symm; have f5_ := f3_.symm; clear f1_ f2_ f3_; subst f4_; subst f5_))
       refine hK.out _ _ ⟨((HB.out.cell (World.block_lt_of_cell? w _ hw217_0)).trans hw217_0), ((HB.out.cell (World.block_lt_of_cell? w _ hw217_1)).trans hw217_1), ((HB.out.cell (World.block_lt_of_cell? w _ hw217_2)).trans hw217_2), ((HB.out.cell (World.block_lt_of_cell? w _ hw217_3)).trans hw217_3), ((HB.out.cell (World.block_lt_of_cell? w _ hw217_4)).trans hw217_4), ((HB.out.cell (World.block_lt_of_cell? w _ hw218_0)).trans hw218_0), ((HB.out.cell (World.block_lt_of_cell? w _ hw218_1)).trans hw218_1), ((HB.out.cell (World.block_lt_of_cell? w _ hw218_2)).trans hw218_2), ((HB.out.cell (World.block_lt_of_cell? w _ hw218_3)).trans hw218_3), ((HB.out.cell (World.block_lt_of_cell? w _ hw218_4)).trans hw218_4)⟩ (fun hHeld => ?_)
       clear hK K
       refine norm_ (a' := ?_) ?_ ?_
       rotate_left
       ·show Act.put _ (some 38) _ = _
        simp only [Act.put, List.setIfInBounds_toArray, List.set_cons_zero, List.set_cons_succ, i64_w, i32_w]
        rfl
       refine one_ (i := 15) (N := some 39) #[true, true, true, true, true, true, true, true, true, true, true, true, true, true, true, true, false] rfl rfl (one_of HT_.out (by kernel_rfl)) (by decide) (fun K hK => ?_)
       refine Kd.R_append_rows_step (Kd.int .u8) (w0 := w) w.heap.size (by rfl) (.tmp 24) (.tmp 38) 25 5 (.int .u8 0) 1 rfl Try.underlying25 info5 rfl (by decide) (by omega) u5 x5_1 y219 _ _ _ (fun k_ => some k_ ≠ (.slice Ao17 y219.length co17 : Value).ownBlock) (fun _ => False) rfl rfl ?aO ?aR (fun _ _ h => h) (fun _ h => h.elim) ?aF ?aB ?aS ?aL ?_
       (case aR => repeat (first | exact (Kd.R_reads' HO221.out).2.2 | (with_reducible apply Kd.C_alloc) | (with_reducible apply Kd.C_drewN) | (with_reducible apply Kd.C_drew)))
       (case aB => exact (by repeat (first | (with_reducible first | exact HB.out | apply below_alloc | apply pw_below_drewN | apply below_drew1) | exact HB.out)))
       (case aF => exact (fun k_ hk => Kd.fresh' (Kd.R_lt (by (with_reducible repeat (first | apply Kd.R_alloc | apply Kd.R_drewN | apply Kd.R_drew)); exact HO221.out)) k_ hk))
       (case aO => exact (by (with_reducible repeat (first | apply Kd.R_alloc | apply Kd.R_drewN | apply Kd.R_drew)); exact Kd.R_mono HO_5.out (fun _ hk => hk.2)))
       (case aS => exact (below_size (by repeat (first | (with_reducible first | exact HB.out | apply below_alloc | apply pw_below_drewN | apply below_drew1) | exact HB.out))))
       (case aL => have := LMc9.out; omega)
       intro v223 w16 ho hb hg hat
       rw [← Ny222.out] at ho
       have n0_ := Aside0.mk (Kd.R_after (ok := (fun _ => True)) (by (with_reducible repeat (first | apply Kd.R_alloc | apply Kd.R_drewN | apply Kd.R_drew)); exact HO221.out) hg hat)
       have n1_ := Aside0.mk (hb)
       have n2_ := Aside0.mk (ho)
       clear HO221
       clear HB
       clear HO_5
       have HO221 := n0_
       have HB := n1_
       have HO224 := n2_
       clear n0_ n1_ n2_
       clear ho hb hg hat
       refine hK.out _ _ ⟨((HB.out.cell (World.block_lt_of_cell? w _ hw217_0)).trans hw217_0), ((HB.out.cell (World.block_lt_of_cell? w _ hw217_1)).trans hw217_1), ((HB.out.cell (World.block_lt_of_cell? w _ hw217_2)).trans hw217_2), ((HB.out.cell (World.block_lt_of_cell? w _ hw217_3)).trans hw217_3), ((HB.out.cell (World.block_lt_of_cell? w _ hw217_4)).trans hw217_4), ((HB.out.cell (World.block_lt_of_cell? w _ hw218_0)).trans hw218_0), ((HB.out.cell (World.block_lt_of_cell? w _ hw218_1)).trans hw218_1), ((HB.out.cell (World.block_lt_of_cell? w _ hw218_2)).trans hw218_2), ((HB.out.cell (World.block_lt_of_cell? w _ hw218_3)).trans hw218_3), ((HB.out.cell (World.block_lt_of_cell? w _ hw218_4)).trans hw218_4)⟩ (fun hHeld => ?_)
       clear hK K
       refine norm_ (a' := ?_) ?_ ?_
       rotate_left
       ·show Act.put _ (some 39) _ = _
        simp only [Act.put, List.setIfInBounds_toArray, List.set_cons_zero, List.set_cons_succ, i64_w, i32_w]
        rfl
       refine pure_ (i := 16) (N := some 5) (v := ?_) (a' := ?_) #[true, true, true, true, true, true, true, true, true, true, true, true, true, true, true, true, true] rfl rfl (any_of HT_.out (by kernel_rfl)) (fun _ _ _ h => h) (Or.inl ⟨by rfl, ?_⟩) ?_ ?_
       rotate_left
       ·intro w'
        go_simp
        with_reducible rfl
       rotate_left
       ·simp only [Act.put, List.setIfInBounds_toArray, List.set_cons_zero, List.set_cons_succ, i64_w, i32_w]
        rfl
       refine done_ (done_of HT_.out (by kernel_rfl)) ?_
       have p225 : 0 ≤ (x6_1 : Int) := odt
       have q225 : x6_1 < (l0.length : Int) := odt
       obtain ⟨ad225, A225_4, c225_4, e225, hx225_0, hx225_1, hx225_2, hx225_3, hx225_4, hl225_4, hi225_4⟩ := at_T41 HR0.out x6_1 p225 q225
       obtain rfl : ad217 = ad225 := (by injection e225)
       replace hx225_0 := (HB.out.cell (World.block_lt_of_cell? w _ hx225_0)).trans hx225_0
       replace hx225_1 := (HB.out.cell (World.block_lt_of_cell? w _ hx225_1)).trans hx225_1
       replace hx225_2 := (HB.out.cell (World.block_lt_of_cell? w _ hx225_2)).trans hx225_2
       replace hx225_3 := (HB.out.cell (World.block_lt_of_cell? w _ hx225_3)).trans hx225_3
       replace hx225_4 := (HB.out.cell (World.block_lt_of_cell? w _ hx225_4)).trans hx225_4
       have HR225_4 := Aside0.mk hi225_4
       have HC225_4 := Aside0.mk hl225_4
       clear hi225_4 hl225_4
       replace p225 := eq_true p225
       replace q225 := eq_true q225
       obtain ⟨Ao18, co18, eo18⟩ := Kd.R_slice HO224.out
       subst eo18
       try go_wp2_with (first | ((with_reducible refine gate_callee (f := 24) rfl ?_); refine goesL_ (some 47) rfl rfl Try.func24 (by kernel_rfl) rfl #[.slice Ao18 y222.length co18, .int .i64 ((rd_T41 l0 x6_1).f2)] rfl (by (try simp only [List.map_toArray, List.map_cons, List.map_nil]); first | done | rfl | (simp only [List.length_drop, List.length_take]; rfl)) ?_; (with_reducible refine (compositorref06_PutFix.calls k1 _ _ y222 ((rd_T41 l0 x6_1).f2) t226 t227 _ ?side1 ?side2 A10.out).mono ?_); (case side1 => repeat (first | exact (Kd.R_reads' HO224.out).2.2 | (with_reducible apply Kd.C_alloc) | (with_reducible apply Kd.C_drewN) | (with_reducible apply Kd.C_drew))); (case side2 => exact (Kd.R_reads' HO224.out).2.1); rintro e w19 ⟨v228, rfl, ho0, hb⟩; refine ⟨_, rfl, ?_⟩; have n0_ := Aside0.mk (Kd.R_elder' (by (with_reducible repeat (first | apply Kd.R_alloc | apply Kd.R_drewN | apply Kd.R_drew)); exact HO221.out) (Kd.R_base ho0) hb); have n1_ := Aside0.mk (Kd.R_elder' (by (with_reducible repeat (first | apply Kd.R_alloc | apply Kd.R_drewN | apply Kd.R_drew)); exact HO224.out) (Kd.R_base ho0) hb); have n2_ := Aside0.mk (Kd.R_lower (Kd.R_new' (Kd.R_new' ho0 (Kd.R_lt (by (with_reducible repeat (first | apply Kd.R_alloc | apply Kd.R_drewN | apply Kd.R_drew)); exact HO221.out))) (Kd.R_lt (by (with_reducible repeat (first | apply Kd.R_alloc | apply Kd.R_drewN | apply Kd.R_drew)); exact HO224.out))) (below_size (by repeat (first | (with_reducible first | exact HB.out | apply below_alloc | apply pw_below_drewN | apply below_drew1) | exact HB.out)))); have n3_ := Aside0.mk (below_step (by repeat (first | (with_reducible first | exact HB.out | apply below_alloc | apply pw_below_drewN | apply below_drew1) | exact HB.out)) hb); clear HO221; clear HO224; clear HB; have HO221 := n0_; have HO224 := n1_; have HO229 := n2_; have HB := n3_; clear n0_ n1_ n2_ n3_; (try clear hb); (try clear hb2); (try clear hk); (try clear hi); (try clear ho0); have p230 : 0 ≤ (x6_1 : Int) := odt; have q230 : x6_1 < (l0.length : Int) := odt; obtain ⟨ad230, A230_4, c230_4, e230, hx230_0, hx230_1, hx230_2, hx230_3, hx230_4, hl230_4, hi230_4⟩ := at_T41 HR0.out x6_1 p230 q230; obtain rfl : ad217 = ad230 := (by injection e230); replace hx230_0 := (HB.out.cell (World.block_lt_of_cell? w _ hx230_0)).trans hx230_0; replace hx230_1 := (HB.out.cell (World.block_lt_of_cell? w _ hx230_1)).trans hx230_1; replace hx230_2 := (HB.out.cell (World.block_lt_of_cell? w _ hx230_2)).trans hx230_2; replace hx230_3 := (HB.out.cell (World.block_lt_of_cell? w _ hx230_3)).trans hx230_3; replace hx230_4 := (HB.out.cell (World.block_lt_of_cell? w _ hx230_4)).trans hx230_4; have HR230_4 := Aside0.mk hi230_4; have HC230_4 := Aside0.mk hl230_4; clear hi230_4 hl230_4; replace p230 := eq_true p230; replace q230 := eq_true q230; obtain ⟨Ao20, co20, eo20⟩ := Kd.R_slice HO229.out; subst eo20) | ((with_reducible refine gate_callee (f := 24) rfl ?_); refine goesL_ (some 57) rfl rfl Try.func24 (by kernel_rfl) rfl #[.slice Ao20 t226.length co20, .int .i64 ((rd_T41 l0 x6_1).f3)] rfl (by (try simp only [List.map_toArray, List.map_cons, List.map_nil]); first | done | rfl | (simp only [List.length_drop, List.length_take]; rfl)) ?_; (with_reducible refine (compositorref06_PutFix.calls k1 _ _ t226 ((rd_T41 l0 x6_1).f3) t231 t232 _ ?side1 ?side2 A11.out).mono ?_); (case side1 => repeat (first | exact (Kd.R_reads' HO229.out).2.2 | (with_reducible apply Kd.C_alloc) | (with_reducible apply Kd.C_drewN) | (with_reducible apply Kd.C_drew))); (case side2 => exact (Kd.R_reads' HO229.out).2.1); rintro e w21 ⟨v233, rfl, ho0, hb⟩; refine ⟨_, rfl, ?_⟩; have n0_ := Aside0.mk (Kd.R_elder' (by (with_reducible repeat (first | apply Kd.R_alloc | apply Kd.R_drewN | apply Kd.R_drew)); exact HO221.out) (Kd.R_base ho0) hb); have n1_ := Aside0.mk (Kd.R_elder' (by (with_reducible repeat (first | apply Kd.R_alloc | apply Kd.R_drewN | apply Kd.R_drew)); exact HO224.out) (Kd.R_base ho0) hb); have n2_ := Aside0.mk (Kd.R_elder' (by (with_reducible repeat (first | apply Kd.R_alloc | apply Kd.R_drewN | apply Kd.R_drew)); exact HO229.out) (Kd.R_base ho0) hb); have n3_ := Aside0.mk (Kd.R_lower (Kd.R_new' (Kd.R_new' (Kd.R_new' ho0 (Kd.R_lt (by (with_reducible repeat (first | apply Kd.R_alloc | apply Kd.R_drewN | apply Kd.R_drew)); exact HO221.out))) (Kd.R_lt (by (with_reducible repeat (first | apply Kd.R_alloc | apply Kd.R_drewN | apply Kd.R_drew)); exact HO224.out))) (Kd.R_lt (by (with_reducible repeat (first | apply Kd.R_alloc | apply Kd.R_drewN | apply Kd.R_drew)); exact HO229.out))) (below_size (by repeat (first | (with_reducible first | exact HB.out | apply below_alloc | apply pw_below_drewN | apply below_drew1) | exact HB.out)))); have n4_ := Aside0.mk (below_step (by repeat (first | (with_reducible first | exact HB.out | apply below_alloc | apply pw_below_drewN | apply below_drew1) | exact HB.out)) hb); clear HO221; clear HO224; clear HO229; clear HB; have HO221 := n0_; have HO224 := n1_; have HO229 := n2_; have HO234 := n3_; have HB := n4_; clear n0_ n1_ n2_ n3_ n4_; (try clear hb); (try clear hb2); (try clear hk); (try clear hi); (try clear ho0); have p235 : 0 ≤ (x6_1 : Int) := odt; have q235 : x6_1 < (l0.length : Int) := odt; obtain ⟨ad235, A235_4, c235_4, e235, hx235_0, hx235_1, hx235_2, hx235_3, hx235_4, hl235_4, hi235_4⟩ := at_T41 HR0.out x6_1 p235 q235; obtain rfl : ad217 = ad235 := (by injection e235); replace hx235_0 := (HB.out.cell (World.block_lt_of_cell? w _ hx235_0)).trans hx235_0; replace hx235_1 := (HB.out.cell (World.block_lt_of_cell? w _ hx235_1)).trans hx235_1; replace hx235_2 := (HB.out.cell (World.block_lt_of_cell? w _ hx235_2)).trans hx235_2; replace hx235_3 := (HB.out.cell (World.block_lt_of_cell? w _ hx235_3)).trans hx235_3; replace hx235_4 := (HB.out.cell (World.block_lt_of_cell? w _ hx235_4)).trans hx235_4; have HR235_4 := Aside0.mk hi235_4; have HC235_4 := Aside0.mk hl235_4; clear hi235_4 hl235_4; replace p235 := eq_true p235; replace q235 := eq_true q235; obtain ⟨Ao22, co22, eo22⟩ := Kd.R_slice HO234.out; subst eo22) | ((with_reducible refine gate_callee (f := 25) rfl ?_); refine goesL_ (some 68) rfl rfl Try.func25 (by kernel_rfl) rfl #[.slice Ao22 t231.length co22, .int .i64 (((rd_T41 l0 x6_1).f4).length : Int), .int .i64 2] rfl (by (try simp only [List.map_toArray, List.map_cons, List.map_nil]); first | done | rfl | (simp only [List.length_drop, List.length_take]; rfl)) ?_; (with_reducible refine (compositorref06_Put.calls k1 _ _ t231 (((rd_T41 l0 x6_1).f4).length : Int) 2 t236 t237 _ ?side1 ?side2 A12.out).mono ?_); (case side1 => repeat (first | exact (Kd.R_reads' HO234.out).2.2 | (with_reducible apply Kd.C_alloc) | (with_reducible apply Kd.C_drewN) | (with_reducible apply Kd.C_drew))); (case side2 => exact (Kd.R_reads' HO234.out).2.1); rintro e w23 ⟨v238, rfl, ho0, hb⟩; refine ⟨_, rfl, ?_⟩; have n0_ := Aside0.mk (Kd.R_elder' (by (with_reducible repeat (first | apply Kd.R_alloc | apply Kd.R_drewN | apply Kd.R_drew)); exact HO221.out) (Kd.R_base ho0) hb); have n1_ := Aside0.mk (Kd.R_elder' (by (with_reducible repeat (first | apply Kd.R_alloc | apply Kd.R_drewN | apply Kd.R_drew)); exact HO224.out) (Kd.R_base ho0) hb); have n2_ := Aside0.mk (Kd.R_elder' (by (with_reducible repeat (first | apply Kd.R_alloc | apply Kd.R_drewN | apply Kd.R_drew)); exact HO229.out) (Kd.R_base ho0) hb); have n3_ := Aside0.mk (Kd.R_elder' (by (with_reducible repeat (first | apply Kd.R_alloc | apply Kd.R_drewN | apply Kd.R_drew)); exact HO234.out) (Kd.R_base ho0) hb); have n4_ := Aside0.mk (Kd.R_lower (Kd.R_new' (Kd.R_new' (Kd.R_new' (Kd.R_new' ho0 (Kd.R_lt (by (with_reducible repeat (first | apply Kd.R_alloc | apply Kd.R_drewN | apply Kd.R_drew)); exact HO221.out))) (Kd.R_lt (by (with_reducible repeat (first | apply Kd.R_alloc | apply Kd.R_drewN | apply Kd.R_drew)); exact HO224.out))) (Kd.R_lt (by (with_reducible repeat (first | apply Kd.R_alloc | apply Kd.R_drewN | apply Kd.R_drew)); exact HO229.out))) (Kd.R_lt (by (with_reducible repeat (first | apply Kd.R_alloc | apply Kd.R_drewN | apply Kd.R_drew)); exact HO234.out))) (below_size (by repeat (first | (with_reducible first | exact HB.out | apply below_alloc | apply pw_below_drewN | apply below_drew1) | exact HB.out)))); have n5_ := Aside0.mk (below_step (by repeat (first | (with_reducible first | exact HB.out | apply below_alloc | apply pw_below_drewN | apply below_drew1) | exact HB.out)) hb); clear HO221; clear HO224; clear HO229; clear HO234; clear HB; have HO221 := n0_; have HO224 := n1_; have HO229 := n2_; have HO234 := n3_; have HO239 := n4_; have HB := n5_; clear n0_ n1_ n2_ n3_ n4_ n5_; (try clear hb); (try clear hb2); (try clear hk); (try clear hi); (try clear ho0)))
       go_loopg [5, 7] k1 (fun kq v5 v7 w' => ∃ (x5_2 : List Int) (x7_2 : Int), v7 = .int .i64 x7_2 ∧ Aside0 (compositorref23_Write.l1 kq l0 x5_2 x6_1 x7_2 = some (r1, r2)) ∧ Aside0 (kq ≤ k1) ∧ Aside0 (Kd.R (Kd.int .u8) 5 w' w.heap.size (fun _ => True) v5 x5_2) ∧ Aside0 (Below w.heap.size w w'))
       case atStart => exact ⟨(t236), (0), (by first | rfl | (simp; done) | (simp [*]; done)), H', ⟨Nat.le_refl _⟩, ⟨by (with_reducible repeat (first | apply Kd.R_alloc | apply Kd.R_drewN | apply Kd.R_drew)); exact Kd.R_mono HO239.out (fun _ hk => trivial)⟩, ⟨by repeat (first | (with_reducible first | exact HB.out | apply below_alloc | apply pw_below_drewN | apply below_drew1) | exact HB.out)⟩⟩
       case round =>
        clear H'
        try clear c1
        try clear c2
        try clear p2
        try clear q2
        try clear hx2
        try clear c3
        try clear p6
        try clear c7
        try clear c7b0
        try clear c8
        try clear c8b0
        try clear c9
        try clear c10
        try clear c14
        try clear c21
        try clear p21
        try clear q21
        try clear hx21
        try clear c22
        try clear p22
        try clear q22
        try clear hx22
        try clear c23
        try clear p23
        try clear q23
        try clear hx23
        try clear hx217_0
        try clear hx217_1
        try clear hx217_2
        try clear hx217_3
        try clear hx217_4
        try clear hx218_0
        try clear hx218_1
        try clear hx218_2
        try clear hx218_3
        try clear hx218_4
        try clear hx225_0
        try clear hx225_1
        try clear hx225_2
        try clear hx225_3
        try clear hx225_4
        try clear hx230_0
        try clear hx230_1
        try clear hx230_2
        try clear hx230_3
        try clear hx230_4
        try clear hx235_0
        try clear hx235_1
        try clear hx235_2
        try clear hx235_3
        try clear hx235_4
        try clear p2
        try clear p217
        try clear p218
        try clear p225
        try clear p230
        try clear p235
        try clear q217
        try clear q218
        try clear q225
        try clear q230
        try clear q235
        obtain ⟨x5_2, x7_2, rfl, HA, HK2, HO_5, HB⟩ := hrel
        cases gk with
        | zero => exact absurd HA.out (by simp [compositorref23_Write.l1])
        | succ k2 =>
         have H := HA.out
         clear HA
         simp only [compositorref23_Write.l1] at H
         by_cases c24 : 0 ≤ x6_1
         ·rw [if_pos c24] at H
          have c24b0 : decide (0 ≤ x6_1) = true := decide_eq_true c24
          clear c24
          by_cases c25 : x6_1 < (l0.length : Int)
          ·rw [if_pos c25] at H
           have c25b0 : decide (x6_1 < (l0.length : Int)) = true := decide_eq_true c25
           clear c25
           by_cases c26 : x7_2 < (((rd_T41 l0 x6_1).f4).length : Int)
           ·rw [if_pos c26] at H
            have c26b0 : decide (x7_2 < (((rd_T41 l0 x6_1).f4).length : Int)) = true := decide_eq_true c26
            clear c26
            by_cases c27 : 0 ≤ x7_2
            ·rw [if_pos c27] at H
             have c27b0 : decide (0 ≤ x7_2) = true := decide_eq_true c27
             clear c27
             replace H := Option.bind_eq_some_iff.mp H
             obtain ⟨⟨t243, t244⟩, A280, H⟩ := H
             replace H : (if x5_2.length < 140737488355328 then ((some (x5_2 ++ [((rd_T43 ((rd_T41 l0 x6_1).f4) x7_2).f0) % 256] : List Int)).bind fun y249 => (if y249.length + t243.length < 140737488355328 then (compositorref23_Write.l1 k2 l0 (y249 ++ t243) x6_1 (wrap64 (x7_2 + 1))) else (none))) else (none)) = some (r1, r2) := H
             have A28 := Aside0.mk A280
             clear A280
             by_cases c29 : x5_2.length < 140737488355328
             ·rw [if_pos c29] at H
              have LMc29 := Aside0.mk c29
              clear c29
              obtain ⟨y249, hy249⟩ : ∃ y_ : List Int, y_ = (x5_2 ++ [((rd_T43 ((rd_T41 l0 x6_1).f4) x7_2).f0) % 256]) := ⟨_, rfl⟩
              replace H : (if y249.length + t243.length < 140737488355328 then (compositorref23_Write.l1 k2 l0 (y249 ++ t243) x6_1 (wrap64 (x7_2 + 1))) else (none)) = some (r1, r2) := by first | (rw [hy249]; with_reducible exact H) | (have H2_ := (Option.bind_some _ _).symm.trans H; rw [hy249]; with_reducible exact H2_) | (have H2_ := (Option.bind_some _ _).symm.trans H; with_reducible exact H2_) | with_reducible exact H | (rw [hy249]; exact H) | exact H
              have Ny249 := Aside0.mk hy249
              clear hy249
              by_cases c30 : y249.length + t243.length < 140737488355328
              ·rw [if_pos c30] at H
               have LMc30 := Aside0.mk c30
               clear c30
               obtain ⟨y252, hy252⟩ : ∃ y_ : List Int, y_ = (y249 ++ t243) := ⟨_, rfl⟩
               replace H : (compositorref23_Write.l1 k2 l0 y252 x6_1 (wrap64 (x7_2 + 1))) = some (r1, r2) := by first | (rw [hy252]; with_reducible exact H) | (have H2_ := (Option.bind_some _ _).symm.trans H; rw [hy252]; with_reducible exact H2_) | (have H2_ := (Option.bind_some _ _).symm.trans H; with_reducible exact H2_) | with_reducible exact H | (rw [hy252]; exact H) | exact H
               have Ny252 := Aside0.mk hy252
               clear hy252
               have H' := Aside0.mk H
               clear H
               have p240 : 0 ≤ (x6_1 : Int) := odt
               have q240 : x6_1 < (l0.length : Int) := odt
               obtain ⟨ad240, A240_4, c240_4, e240, hx240_0, hx240_1, hx240_2, hx240_3, hx240_4, hl240_4, hi240_4⟩ := at_T41 HR0.out x6_1 p240 q240
               obtain rfl : ad217 = ad240 := (by injection e240)
               replace hx240_0 := (HB.out.cell (World.block_lt_of_cell? w _ hx240_0)).trans hx240_0
               replace hx240_1 := (HB.out.cell (World.block_lt_of_cell? w _ hx240_1)).trans hx240_1
               replace hx240_2 := (HB.out.cell (World.block_lt_of_cell? w _ hx240_2)).trans hx240_2
               replace hx240_3 := (HB.out.cell (World.block_lt_of_cell? w _ hx240_3)).trans hx240_3
               replace hx240_4 := (HB.out.cell (World.block_lt_of_cell? w _ hx240_4)).trans hx240_4
               have HR240_4 := Aside0.mk hi240_4
               have HC240_4 := Aside0.mk hl240_4
               clear hi240_4 hl240_4
               replace p240 := eq_true p240
               replace q240 := eq_true q240
               have p241 : 0 ≤ (x6_1 : Int) := odt
               have q241 : x6_1 < (l0.length : Int) := odt
               obtain ⟨ad241, A241_4, c241_4, e241, hx241_0, hx241_1, hx241_2, hx241_3, hx241_4, hl241_4, hi241_4⟩ := at_T41 HR0.out x6_1 p241 q241
               obtain rfl : ad217 = ad241 := (by injection e241)
               replace hx241_0 := (HB.out.cell (World.block_lt_of_cell? w _ hx241_0)).trans hx241_0
               replace hx241_1 := (HB.out.cell (World.block_lt_of_cell? w _ hx241_1)).trans hx241_1
               replace hx241_2 := (HB.out.cell (World.block_lt_of_cell? w _ hx241_2)).trans hx241_2
               replace hx241_3 := (HB.out.cell (World.block_lt_of_cell? w _ hx241_3)).trans hx241_3
               replace hx241_4 := (HB.out.cell (World.block_lt_of_cell? w _ hx241_4)).trans hx241_4
               have HR241_4 := Aside0.mk hi241_4
               have HC241_4 := Aside0.mk hl241_4
               clear hi241_4 hl241_4
               replace p241 := eq_true p241
               replace q241 := eq_true q241
               have ea_ := Option.some.inj (hx240_4.symm.trans hx241_4)
               injection ea_ with ea_ en_ ec_
               subst ea_
               subst ec_
               clear en_
               have p242 : 0 ≤ (x7_2 : Int) := odt
               have q242 : x7_2 < (((rd_T41 l0 x6_1).f4).length : Int) := odt
               obtain ⟨ad242, e242, hx242_0, hx242_1⟩ := at_T43 HR241_4.out x7_2 p242 q242
               cases e242
               replace hx242_0 := (HB.out.cell (World.block_lt_of_cell? w _ hx242_0)).trans hx242_0
               replace hx242_1 := (HB.out.cell (World.block_lt_of_cell? w _ hx242_1)).trans hx242_1
               replace p242 := eq_true p242
               replace q242 := eq_true q242
               go_wp2_with (first | ((with_reducible refine gate_callee (f := 24) rfl ?_); refine goesL_ (some 91) rfl rfl Try.func24 (by kernel_rfl) rfl #[.slice none 0 0, .int .i64 ((rd_T43 ((rd_T41 l0 x6_1).f4) x7_2).f1)] rfl (by (try simp only [List.map_toArray, List.map_cons, List.map_nil]); first | done | rfl | (simp only [List.length_drop, List.length_take]; rfl)) ?_; (refine (compositorref06_PutFix.calls k2 _ _ ([] : List Int) ((rd_T43 ((rd_T41 l0 x6_1).f4) x7_2).f1) t243 t244 _ ?side1 ?side2 A28.out).mono ?_); (case side1 => exact Kd.C_nil _ _); (case side2 => exact Nat.le_refl _); rintro e w31 ⟨v245, rfl, ho0, hb⟩; refine ⟨_, rfl, ?_⟩; have n0_ := Aside0.mk (Kd.R_elder' (by (with_reducible repeat (first | apply Kd.R_alloc | apply Kd.R_drewN | apply Kd.R_drew)); exact HO_5.out) (Kd.R_base ho0) hb); have n1_ := Aside0.mk (Kd.R_lower (Kd.R_new' ho0 (Kd.R_lt (by (with_reducible repeat (first | apply Kd.R_alloc | apply Kd.R_drewN | apply Kd.R_drew)); exact HO_5.out))) (below_size (by repeat (first | (with_reducible first | exact HB.out | apply below_alloc | apply pw_below_drewN | apply below_drew1) | exact HB.out)))); have n2_ := Aside0.mk (below_step (by repeat (first | (with_reducible first | exact HB.out | apply below_alloc | apply pw_below_drewN | apply below_drew1) | exact HB.out)) hb); clear HO_5; clear HB; have HO_5 := n0_; have HO246 := n1_; have HB := n2_; clear n0_ n1_ n2_; (try clear hb); (try clear hb2); (try clear hk); (try clear hi); (try clear ho0); have p247 : 0 ≤ (x6_1 : Int) := odt; have q247 : x6_1 < (l0.length : Int) := odt; obtain ⟨ad247, A247_4, c247_4, e247, hx247_0, hx247_1, hx247_2, hx247_3, hx247_4, hl247_4, hi247_4⟩ := at_T41 HR0.out x6_1 p247 q247; obtain rfl : ad217 = ad247 := (by injection e247); replace hx247_0 := (HB.out.cell (World.block_lt_of_cell? w _ hx247_0)).trans hx247_0; replace hx247_1 := (HB.out.cell (World.block_lt_of_cell? w _ hx247_1)).trans hx247_1; replace hx247_2 := (HB.out.cell (World.block_lt_of_cell? w _ hx247_2)).trans hx247_2; replace hx247_3 := (HB.out.cell (World.block_lt_of_cell? w _ hx247_3)).trans hx247_3; replace hx247_4 := (HB.out.cell (World.block_lt_of_cell? w _ hx247_4)).trans hx247_4; have HR247_4 := Aside0.mk hi247_4; have HC247_4 := Aside0.mk hl247_4; clear hi247_4 hl247_4; replace p247 := eq_true p247; replace q247 := eq_true q247; have p248 : 0 ≤ (x7_2 : Int) := odt; have q248 : x7_2 < (((rd_T41 l0 x6_1).f4).length : Int) := odt; obtain ⟨ad248, e248, hx248_0, hx248_1⟩ := at_T43 HR247_4.out x7_2 p248 q248; cases e248; replace hx248_0 := (HB.out.cell (World.block_lt_of_cell? w _ hx248_0)).trans hx248_0; replace hx248_1 := (HB.out.cell (World.block_lt_of_cell? w _ hx248_1)).trans hx248_1; replace p248 := eq_true p248; replace q248 := eq_true q248) | ((with_reducible refine gate_builtin (b := .append) (xs := #[.tmp 94, .tmp 105]) rfl ?_); at_builtin; refine Kd.R_append (Kd.int .u8) (w0 := w) w.heap.size rfl (.tmp 94) (.tmp 105) 25 5 (.int .u8 0) 1 rfl Try.underlying25 info5 rfl (by decide) (by omega) u5 x5_2 (((rd_T43 ((rd_T41 l0 x6_1).f4) x7_2).f0) % 256) [.int .u8 (((rd_T43 ((rd_T41 l0 x6_1).f4) x7_2).f0) % 256)] (fun k_ => some k_ ≠ (v245 : Value).ownBlock) (fun _ => False) rfl rfl ?aP (fun _ hk => hk.elim) ?aF ?aO ?aB ?aS ?aL ?_; (case aP => exact rfl); (case aB => exact (by repeat (first | (with_reducible first | exact HB.out | apply below_alloc | apply pw_below_drewN | apply below_drew1) | exact HB.out))); (case aF => exact (fun k_ hk => Kd.fresh' (Kd.R_lt (by (with_reducible repeat (first | apply Kd.R_alloc | apply Kd.R_drewN | apply Kd.R_drew)); exact HO246.out)) k_ hk)); (case aO => exact (by (with_reducible repeat (first | apply Kd.R_alloc | apply Kd.R_drewN | apply Kd.R_drew)); exact Kd.R_mono HO_5.out (fun _ hk => hk.2))); (case aS => exact (below_size (by repeat (first | (with_reducible first | exact HB.out | apply below_alloc | apply pw_below_drewN | apply below_drew1) | exact HB.out)))); (case aL => have := LMc29.out; omega); intro v250 w32 ho hb hg hat; rw [← Ny249.out] at ho; have n0_ := Aside0.mk (Kd.R_after (ok := (fun _ => True)) (by (with_reducible repeat (first | apply Kd.R_alloc | apply Kd.R_drewN | apply Kd.R_drew)); exact HO246.out) hg hat); have n1_ := Aside0.mk (hb); have n2_ := Aside0.mk (ho); clear HO246; clear HB; clear HO_5; have HO246 := n0_; have HB := n1_; have HO251 := n2_; clear n0_ n1_ n2_; clear ho hb hg hat; obtain ⟨Ao34, co34, eo34⟩ := Kd.R_slice HO246.out; subst eo34) | ((with_reducible refine gate_builtin (b := .append) (xs := #[.tmp 106, .tmp 107]) rfl ?_); at_builtin; refine Kd.R_append_rows (Kd.int .u8) (w0 := w) w.heap.size rfl (.tmp 106) (.tmp 107) 25 5 (.int .u8 0) 1 rfl Try.underlying25 info5 rfl (by decide) (by omega) v250 y249 t243 _ _ _ (fun k_ => some k_ ≠ (.slice Ao34 t243.length co34 : Value).ownBlock) (fun _ => False) rfl rfl ?aO ?aR (fun _ _ h => h) (fun _ h => h.elim) ?aF ?aB ?aS ?aL ?_; (case aR => repeat (first | exact (Kd.R_reads' HO246.out).2.2 | (with_reducible apply Kd.C_alloc) | (with_reducible apply Kd.C_drewN) | (with_reducible apply Kd.C_drew))); (case aB => exact (by repeat (first | (with_reducible first | exact HB.out | apply below_alloc | apply pw_below_drewN | apply below_drew1) | exact HB.out))); (case aF => exact (fun k_ hk => Kd.fresh' (Kd.R_lt (by (with_reducible repeat (first | apply Kd.R_alloc | apply Kd.R_drewN | apply Kd.R_drew)); exact HO246.out)) k_ hk)); (case aO => exact (by (with_reducible repeat (first | apply Kd.R_alloc | apply Kd.R_drewN | apply Kd.R_drew)); exact HO251.out)); (case aS => exact (below_size (by repeat (first | (with_reducible first | exact HB.out | apply below_alloc | apply pw_below_drewN | apply below_drew1) | exact HB.out)))); (case aL => have := LMc30.out; omega); intro v253 w33 ho hb hg hat; rw [← Ny252.out] at ho; have n0_ := Aside0.mk (Kd.R_after (ok := (fun _ => True)) (by (with_reducible repeat (first | apply Kd.R_alloc | apply Kd.R_drewN | apply Kd.R_drew)); exact HO246.out) hg hat); have n1_ := Aside0.mk (hb); have n2_ := Aside0.mk (ho); clear HO246; clear HB; clear HO251; have HO246 := n0_; have HB := n1_; have HO254 := n2_; clear n0_ n1_ n2_; clear ho hb hg hat))
               go_roundg k2
               case measure => have := HK1.out; have := HK2.out; omega
               case rel => exact ⟨(y252), (wrap64 (x7_2 + 1)), (by first | rfl | (simp; done) | (simp [*]; done)), H', ⟨by have := HK1.out; have := HK2.out; omega⟩, ⟨by (with_reducible repeat (first | apply Kd.R_alloc | apply Kd.R_drewN | apply Kd.R_drew)); exact Kd.R_mono HO254.out (fun _ hk => trivial)⟩, ⟨by repeat (first | (with_reducible first | exact HB.out | apply below_alloc | apply pw_below_drewN | apply below_drew1) | exact HB.out)⟩⟩
              ·rw [if_neg c30] at H
               exact absurd H (by simp)
             ·rw [if_neg c29] at H
              exact absurd H (by simp)
            ·rw [if_neg c27] at H
             exact absurd H (by simp)
           ·rw [if_neg c26] at H
            have c26b0 : decide (x7_2 < (((rd_T41 l0 x6_1).f4).length : Int)) = false := decide_eq_false c26
            clear c26
            have H' := Aside0.mk H
            clear H
            have p240 : 0 ≤ (x6_1 : Int) := odt
            have q240 : x6_1 < (l0.length : Int) := odt
            obtain ⟨ad240, A240_4, c240_4, e240, hx240_0, hx240_1, hx240_2, hx240_3, hx240_4, hl240_4, hi240_4⟩ := at_T41 HR0.out x6_1 p240 q240
            obtain rfl : ad217 = ad240 := (by injection e240)
            replace hx240_0 := (HB.out.cell (World.block_lt_of_cell? w _ hx240_0)).trans hx240_0
            replace hx240_1 := (HB.out.cell (World.block_lt_of_cell? w _ hx240_1)).trans hx240_1
            replace hx240_2 := (HB.out.cell (World.block_lt_of_cell? w _ hx240_2)).trans hx240_2
            replace hx240_3 := (HB.out.cell (World.block_lt_of_cell? w _ hx240_3)).trans hx240_3
            replace hx240_4 := (HB.out.cell (World.block_lt_of_cell? w _ hx240_4)).trans hx240_4
            have HR240_4 := Aside0.mk hi240_4
            have HC240_4 := Aside0.mk hl240_4
            clear hi240_4 hl240_4
            replace p240 := eq_true p240
            replace q240 := eq_true q240
            go_wp2
            go_roundg k2
            case measure => have := HK1.out; have := HK2.out; omega
            case rel => exact ⟨(x5_2), (wrap64 (x6_1 + 1)), (by first | rfl | (simp; done) | (simp [*]; done)), H', ⟨by have := HK1.out; have := HK2.out; omega⟩, ⟨by (with_reducible repeat (first | apply Kd.R_alloc | apply Kd.R_drewN | apply Kd.R_drew)); exact HO_5.out⟩, ⟨by repeat (first | (with_reducible first | exact HB.out | apply below_alloc | apply pw_below_drewN | apply below_drew1) | exact HB.out)⟩⟩
          ·rw [if_neg c25] at H
           exact absurd H (by simp)
         ·rw [if_neg c24] at H
          exact absurd H (by simp)
      ·rw [if_neg c9] at H
       exact absurd H (by simp)
     ·rw [if_neg c8] at H
      exact absurd H (by simp)
    ·rw [if_neg c7] at H
     have c7b0 : decide (x6_1 < (l0.length : Int)) = false := decide_eq_false c7
     clear c7
     simp only [Option.some.injEq, Prod.mk.injEq] at H
     obtain ⟨rfl, rfl⟩ := H
     go_wp2
     go_ret2
     exact ⟨_, by first | rfl | (simp [errW_none, errW_some] <;> rfl) | (simp [*, errW_none, errW_some] <;> rfl), by (with_reducible repeat (first | apply Kd.R_alloc | apply Kd.R_drewN | apply Kd.R_drew)); exact HO_5.out, by repeat (first | (with_reducible first | exact HB.out | apply below_alloc | apply pw_below_drewN | apply below_drew1) | exact HB.out)⟩
 ·replace c3 := Bool.eq_false_iff.mpr c3
  subst c3
  have H1 : (some (([] : List Int), 230)) = some (r1, r2) := by rw [if_neg (show ¬ (false = true) by decide)] at H; exact H
  clear H
  have H := H1
  clear H1
  simp only [Option.some.injEq, Prod.mk.injEq] at H
  obtain ⟨rfl, rfl⟩ := H
  go_enter Try.func10, Try.ntmps10
  go_wp2_with (first | ((with_reducible refine gate_callee (f := 14) rfl ?_); refine goesL_ (some 11) rfl rfl Try.func14 (by kernel_rfl) rfl #[.slice A0 l0.length c0] rfl (by (try simp only [List.map_toArray, List.map_cons, List.map_nil]); first | done | rfl | (simp only [List.length_drop, List.length_take]; rfl)) ?_; (with_reducible refine (compositorref23_Check.calls k _ _ l0 false _ ?side1 ?side2 A2.out).mono ?_); (case side1 => repeat (first | exact HR0.out | (with_reducible apply Kd.C_alloc) | (with_reducible apply Kd.C_drewN) | (with_reducible apply Kd.C_drew))); (case side2 => exact HC0.out); rintro e w35 ⟨rfl, hb⟩; refine ⟨_, rfl, ?_⟩; have n0_ := Aside0.mk (below_step (by repeat (first | (with_reducible first | exact HB.out | apply below_alloc | apply pw_below_drewN | apply below_drew1) | exact HB.out)) hb); clear HB; have HB := n0_; clear n0_; (try clear hb); (try clear hb2); (try clear hk); (try clear hi)))
  go_ret2
  exact ⟨_, by first | rfl | (simp [errW_none, errW_some] <;> rfl) | (simp [*, errW_none, errW_some] <;> rfl), by first | exact Kd.R_nil _ _ _ _ _ | exact Kd.N_nil _ _ _ _ _ | exact Kd.V_nil _ _ _ _ _ | exact Kd.Q_nil _ _ _ _ _ | exact Kd.S_nil _ _ _ _ _, by repeat (first | (with_reducible first | exact HB.out | apply below_alloc | apply pw_below_drewN | apply below_drew1) | exact HB.out)⟩

end Go.Proofs.Ytihiiidbhhlfnaa.G
