/- Contracts of the functions of this seat: what each call computes, as a plain Lean function. Made by this session's own generator. -/
import Derived.Test.YtpijgpjoobffoaaGx0
namespace Go.Proofs.Ytpijgpjoobffoaa.G
open Go.RowKit Go.Proofs.YtpijgpjoobffoaaMy Go.Proofs.YtpijgpjoobffoaaW.PrintWords Go.Proofs.YtpijgpjoobffoaaW.PrintLast Go.Proofs.YtpijgpjoobffoaaW.PrintMore
attribute [local go_sem] max2_int min2_int max_two min_two max_three min_three max_four min_four   -- for this text's walks alone
set_option linter.unusedVariables false
set_option linter.unusedSimpArgs false

/-! ### tfm_Read_2: function 40 -/
-- by hand
theorem tfm_Read_2.info : (Try.prog.info? 51).map (fun i => (i.zero, i.size, i.bytes)) = some (some (.agg #[(.int .i64 0), (.int .i64 0), (.int .i64 0), (.int .i64 0)]), 4, 32) := by kernel_rfl
set_option maxHeartbeats 4000000 in
theorem tfm_Read_2.calls (x0 x1 x2 x3 : Int) (A : Option Addr) (c : Nat) (acc : List S51) (gf : Nat) (A3 : Option Addr) (c3 : Nat) (p0 p1 p2 p3 p4 p5 p6 p7 p9 p10 : Value) (w0 u : World) (hB : Below w0.heap.size w0 u) (hb : w0.heap.size ≤ gf) (hf : u.heap[gf]? = some (.cells #[p0, p1, p2, p3, p4, p5, p6, p7, (.slice A3 acc.length c3), p9, p10] 26 (0, 0))) (hO : Kd.R k51 51 u w0.heap.size (fun _ => True) (.slice A3 acc.length c3) acc) (hC : Kd.C (Kd.int .u8) u A 4 [x0, x1, x2, x3]) (hl : acc.length < 1000000) :
  Calls Try.prog 40 #[.slice A 4 c, .pointer (some ⟨gf, 0, none⟩)] u fun e u' => e = .returned (.tuple #[]) ∧ (∃ A4 c4, u'.heap[gf]? = some (.cells #[p0, p1, p2, p3, p4, p5, p6, p7, (.slice A4 (acc.length + 1) c4), p9, p10] 26 (0, 0)) ∧ Kd.R k51 51 u' w0.heap.size (fun _ => True) (.slice A4 (acc.length + 1) c4) (acc ++ [⟨wrap64 x0, wrap64 x1, wrap64 x2, wrap64 x3⟩])) ∧ Below w0.heap.size w0 u' ∧ (∀ (k : Nat) (cs : Array Value) (t : TypeId) (fr : Nat × Nat), u.heap[k]? = some (Obj.cells cs t fr) → k ≠ gf → t ≠ 51 → u'.heap[k]? = u.heap[k]?) ∧ (∀ k, k < w0.heap.size → u'.heap[k]? = u.heap[k]?) ∧ u.heap.size ≤ u'.heap.size := by
 have hu := Try.underlying26
 obtain ⟨ad, c0, rfl, hcl, hK, hcc⟩ := C_elem hC 0 (by simp)
 have hcell : ∀ (j : Nat) (hj : j < 4), u.cell? (ad.add j) = some (.int .u8 ([x0, x1, x2, x3][j])) := fun j hj => by
  obtain ⟨ad2, c2, e2, _, hK2, hcc2⟩ := C_elem hC j hj
  obtain rfl := Option.some.inj e2
  obtain rfl : c2 = [.int .u8 ([x0, x1, x2, x3][j])] := hK2
  simpa [Kd.int, Kd.scalar] using hcc2 0 _ rfl
 have HX0 := Aside0.mk (show u.drew.cell? ad = some (.int .u8 x0) from hcell 0 (by decide))
 have HX1 := Aside0.mk (show u.drew.cell? ⟨ad.block, ad.off + 1, none⟩ = some (.int .u8 x1) from hcell 1 (by decide))
 have HX2 := Aside0.mk (show u.drew.cell? ⟨ad.block, ad.off + 2, none⟩ = some (.int .u8 x2) from hcell 2 (by decide))
 have HX3 := Aside0.mk (show u.drew.cell? ⟨ad.block, ad.off + 3, none⟩ = some (.int .u8 x3) from hcell 3 (by decide))
 have HF := Aside0.mk hf
 have HO := Aside0.mk hO
 have HB := Aside0.mk hB
 have HL := Aside0.mk hl
 have HG := Aside0.mk hb
 have hx := blk_cell hf
 clear hcl hK hcc hcell hf hO hB hl hb hC
 go_enter Try.func40, Try.ntmps40
 go_upto_region 0 with (fail)
 refine start_ (n := 23) (S := fun w' => w'.cell? ⟨gf, 8, none⟩ = some (.slice A3 acc.length c3) ∧ w'.cell? ad = some (.int .u8 x0) ∧ w'.cell? ⟨ad.block, ad.off + 1, none⟩ = some (.int .u8 x1) ∧ w'.cell? ⟨ad.block, ad.off + 2, none⟩ = some (.int .u8 x2) ∧ w'.cell? ⟨ad.block, ad.off + 3, none⟩ = some (.int .u8 x3)) (ds := [20, 22]) #[false, false, false, false, false, false, false, false, false, false, false, false, false, false, false, false, false, false, false, false, false, false, false] (by kernel_rfl) rfl rfl ⟨((blk_cell HF.out 8).trans rfl), HX0.out, HX1.out, HX2.out, HX3.out⟩ (fun hHeld => ?_)
 refine pure_ (i := 0) (N := some 3) (v := ?_) (a' := ?_) #[true, false, false, false, false, false, false, false, false, false, false, false, false, false, false, false, false, false, false, false, false, false, false] rfl rfl (by kernel_rfl) (fun _ _ _ h => h) (Or.inl ⟨by rfl, ?_⟩) ?_ ?_
 rotate_left
 ·intro w'
  go_simp
  with_reducible rfl
 rotate_left
 ·simp only [Act.put, List.setIfInBounds_toArray, List.set_cons_zero, List.set_cons_succ, i64_w, i32_w]
  rfl
 refine pure_ (i := 2) (N := some 5) (v := ?_) (a' := ?_) #[true, false, true, false, false, false, false, false, false, false, false, false, false, false, false, false, false, false, false, false, false, false, false] rfl rfl (by kernel_rfl) (fun _ _ _ h => h) (Or.inl ⟨by rfl, ?_⟩) ?_ ?_
 rotate_left
 ·intro w'
  go_simp
  with_reducible rfl
 rotate_left
 ·simp only [Act.put, List.setIfInBounds_toArray, List.set_cons_zero, List.set_cons_succ, i64_w, i32_w]
  rfl
 refine pure_ (i := 3) (N := some 6) (v := ?_) (a' := ?_) #[true, false, true, true, false, false, false, false, false, false, false, false, false, false, false, false, false, false, false, false, false, false, false] rfl rfl (by kernel_rfl) (fun _ _ _ h => h) (Or.inl ⟨by rfl, ?_⟩) ?_ ?_
 rotate_left
 ·intro w'
  go_simp
  with_reducible rfl
 rotate_left
 ·simp only [Act.put, List.setIfInBounds_toArray, List.set_cons_zero, List.set_cons_succ, i64_w, i32_w]
  rfl
 refine pure_ (i := 6) (N := some 9) (v := ?_) (a' := ?_) #[true, false, true, true, false, false, true, false, false, false, false, false, false, false, false, false, false, false, false, false, false, false, false] rfl rfl (by kernel_rfl) (fun _ _ _ h => h) (Or.inl ⟨by rfl, ?_⟩) ?_ ?_
 rotate_left
 ·intro w'
  go_simp
  with_reducible rfl
 rotate_left
 ·simp only [Act.put, List.setIfInBounds_toArray, List.set_cons_zero, List.set_cons_succ, i64_w, i32_w]
  rfl
 refine pure_ (i := 7) (N := some 10) (v := ?_) (a' := ?_) #[true, false, true, true, false, false, true, true, false, false, false, false, false, false, false, false, false, false, false, false, false, false, false] rfl rfl (by kernel_rfl) (fun _ _ _ h => h) (Or.inl ⟨by rfl, ?_⟩) ?_ ?_
 rotate_left
 ·intro w'
  go_simp
  with_reducible rfl
 rotate_left
 ·simp only [Act.put, List.setIfInBounds_toArray, List.set_cons_zero, List.set_cons_succ, i64_w, i32_w]
  rfl
 refine pure_ (i := 10) (N := some 13) (v := ?_) (a' := ?_) #[true, false, true, true, false, false, true, true, false, false, true, false, false, false, false, false, false, false, false, false, false, false, false] rfl rfl (by kernel_rfl) (fun _ _ _ h => h) (Or.inl ⟨by rfl, ?_⟩) ?_ ?_
 rotate_left
 ·intro w'
  go_simp
  with_reducible rfl
 rotate_left
 ·simp only [Act.put, List.setIfInBounds_toArray, List.set_cons_zero, List.set_cons_succ, i64_w, i32_w]
  rfl
 refine pure_ (i := 11) (N := some 14) (v := ?_) (a' := ?_) #[true, false, true, true, false, false, true, true, false, false, true, true, false, false, false, false, false, false, false, false, false, false, false] rfl rfl (by kernel_rfl) (fun _ _ _ h => h) (Or.inl ⟨by rfl, ?_⟩) ?_ ?_
 rotate_left
 ·intro w'
  go_simp
  with_reducible rfl
 rotate_left
 ·simp only [Act.put, List.setIfInBounds_toArray, List.set_cons_zero, List.set_cons_succ, i64_w, i32_w]
  rfl
 refine pure_ (i := 14) (N := some 17) (v := ?_) (a' := ?_) #[true, false, true, true, false, false, true, true, false, false, true, true, false, false, true, false, false, false, false, false, false, false, false] rfl rfl (by kernel_rfl) (fun _ _ _ h => h) (Or.inl ⟨by rfl, ?_⟩) ?_ ?_
 rotate_left
 ·intro w'
  go_simp
  with_reducible rfl
 rotate_left
 ·simp only [Act.put, List.setIfInBounds_toArray, List.set_cons_zero, List.set_cons_succ, i64_w, i32_w]
  rfl
 refine pure_ (i := 15) (N := some 18) (v := ?_) (a' := ?_) #[true, false, true, true, false, false, true, true, false, false, true, true, false, false, true, true, false, false, false, false, false, false, false] rfl rfl (by kernel_rfl) (fun _ _ _ h => h) (Or.inl ⟨by rfl, ?_⟩) ?_ ?_
 rotate_left
 ·intro w'
  go_simp
  with_reducible rfl
 rotate_left
 ·simp only [Act.put, List.setIfInBounds_toArray, List.set_cons_zero, List.set_cons_succ, i64_w, i32_w]
  rfl
 refine take_ (i := 1) (N := some 4) (v := ?_) (a' := ?_) #[true, true, true, true, false, false, true, true, false, false, true, true, false, false, true, true, false, false, false, false, false, false, false] rfl rfl (by kernel_rfl) (fun _ _ _ h => h) (Or.inl ⟨by rfl, ?_⟩) hHeld ?_ ?_
 rotate_left
 ·rintro w' ⟨s0, s1, s2, s3, s4⟩
  go_simp
  with_reducible rfl
 rotate_left
 ·simp only [Act.put, List.setIfInBounds_toArray, List.set_cons_zero, List.set_cons_succ, i64_w, i32_w]
  rfl
 refine take_ (i := 4) (N := some 7) (v := ?_) (a' := ?_) #[true, true, true, true, true, false, true, true, false, false, true, true, false, false, true, true, false, false, false, false, false, false, false] rfl rfl (by kernel_rfl) (fun _ _ _ h => h) (Or.inl ⟨by rfl, ?_⟩) hHeld ?_ ?_
 rotate_left
 ·rintro w' ⟨s0, s1, s2, s3, s4⟩
  go_simp
  with_reducible rfl
 rotate_left
 ·simp only [Act.put, List.setIfInBounds_toArray, List.set_cons_zero, List.set_cons_succ, i64_w, i32_w]
  rfl
 refine pure_ (i := 5) (N := some 8) (v := ?_) (a' := ?_) #[true, true, true, true, true, true, true, true, false, false, true, true, false, false, true, true, false, false, false, false, false, false, false] rfl rfl (by kernel_rfl) (fun _ _ _ h => h) (Or.inl ⟨by rfl, ?_⟩) ?_ ?_
 rotate_left
 ·intro w'
  go_simp
  with_reducible rfl
 rotate_left
 ·simp only [Act.put, List.setIfInBounds_toArray, List.set_cons_zero, List.set_cons_succ, i64_w, i32_w]
  rfl
 refine take_ (i := 8) (N := some 11) (v := ?_) (a' := ?_) #[true, true, true, true, true, true, true, true, true, false, true, true, false, false, true, true, false, false, false, false, false, false, false] rfl rfl (by kernel_rfl) (fun _ _ _ h => h) (Or.inl ⟨by rfl, ?_⟩) hHeld ?_ ?_
 rotate_left
 ·rintro w' ⟨s0, s1, s2, s3, s4⟩
  go_simp
  with_reducible rfl
 rotate_left
 ·simp only [Act.put, List.setIfInBounds_toArray, List.set_cons_zero, List.set_cons_succ, i64_w, i32_w]
  rfl
 refine pure_ (i := 9) (N := some 12) (v := ?_) (a' := ?_) #[true, true, true, true, true, true, true, true, true, true, true, true, false, false, true, true, false, false, false, false, false, false, false] rfl rfl (by kernel_rfl) (fun _ _ _ h => h) (Or.inl ⟨by rfl, ?_⟩) ?_ ?_
 rotate_left
 ·intro w'
  go_simp
  with_reducible rfl
 rotate_left
 ·simp only [Act.put, List.setIfInBounds_toArray, List.set_cons_zero, List.set_cons_succ, i64_w, i32_w]
  rfl
 refine take_ (i := 12) (N := some 15) (v := ?_) (a' := ?_) #[true, true, true, true, true, true, true, true, true, true, true, true, true, false, true, true, false, false, false, false, false, false, false] rfl rfl (by kernel_rfl) (fun _ _ _ h => h) (Or.inl ⟨by rfl, ?_⟩) hHeld ?_ ?_
 rotate_left
 ·rintro w' ⟨s0, s1, s2, s3, s4⟩
  go_simp
  with_reducible rfl
 rotate_left
 ·simp only [Act.put, List.setIfInBounds_toArray, List.set_cons_zero, List.set_cons_succ, i64_w, i32_w]
  rfl
 refine pure_ (i := 13) (N := some 16) (v := ?_) (a' := ?_) #[true, true, true, true, true, true, true, true, true, true, true, true, true, true, true, true, false, false, false, false, false, false, false] rfl rfl (by kernel_rfl) (fun _ _ _ h => h) (Or.inl ⟨by rfl, ?_⟩) ?_ ?_
 rotate_left
 ·intro w'
  go_simp
  with_reducible rfl
 rotate_left
 ·simp only [Act.put, List.setIfInBounds_toArray, List.set_cons_zero, List.set_cons_succ, i64_w, i32_w]
  rfl
 refine take_ (i := 16) (N := some 19) (v := ?_) (a' := ?_) #[true, true, true, true, true, true, true, true, true, true, true, true, true, true, true, true, true, false, false, false, false, false, false] rfl rfl (by kernel_rfl) (fun _ _ _ h => h) (Or.inl ⟨by rfl, ?_⟩) hHeld ?_ ?_
 rotate_left
 ·rintro w' ⟨s0, s1, s2, s3, s4⟩
  go_simp
  with_reducible rfl
 rotate_left
 ·simp only [Act.put, List.setIfInBounds_toArray, List.set_cons_zero, List.set_cons_succ, i64_w, i32_w]
  rfl
 refine pure_ (i := 17) (N := some 20) (v := ?_) (a' := ?_) #[true, true, true, true, true, true, true, true, true, true, true, true, true, true, true, true, true, true, false, false, false, false, false] rfl rfl (by kernel_rfl) (fun _ _ _ h => h) (Or.inl ⟨by rfl, ?_⟩) ?_ ?_
 rotate_left
 ·intro w'
  go_simp
  with_reducible rfl
 rotate_left
 ·simp only [Act.put, List.setIfInBounds_toArray, List.set_cons_zero, List.set_cons_succ, i64_w, i32_w]
  rfl
 refine pure_ (i := 18) (N := some 21) (v := ?_) (a' := ?_) #[true, true, true, true, true, true, true, true, true, true, true, true, true, true, true, true, true, true, true, false, false, false, false] rfl rfl (by kernel_rfl) (fun _ _ _ h => h) (Or.inl ⟨by rfl, ?_⟩) ?_ ?_
 rotate_left
 ·intro w'
  go_simp
  with_reducible rfl
 rotate_left
 ·simp only [Act.put, List.setIfInBounds_toArray, List.set_cons_zero, List.set_cons_succ, i64_w, i32_w]
  rfl
 refine one_ (i := 19) (N := some 22) #[true, true, true, true, true, true, true, true, true, true, true, true, true, true, true, true, true, true, true, true, false, false, false] rfl rfl (by kernel_rfl) (by decide) (fun K hK => ?_)
 refine value_ (w1 := ?_) (v := ?_) (by rfl) rfl ?_ ?_
 rotate_left 2
 ·go_simp
  constructor
  ·rfl
  ·rfl
 have hal_ := below_alloc (Below.refl u.drew.heap.size u.drew) (.cells #[.int .i64 (wrap64 x0), .int .i64 (wrap64 x1), .int .i64 (wrap64 x2), .int .i64 (wrap64 x3)] 51)
 refine hK.out _ _ ⟨((blk_cell (blk_below (w := u.drew) HF.out hal_) 8).trans rfl), ((hal_.cell (World.block_lt_of_cell? u.drew _ HX0.out)).trans HX0.out), ((hal_.cell (World.block_lt_of_cell? u.drew _ HX1.out)).trans HX1.out), ((hal_.cell (World.block_lt_of_cell? u.drew _ HX2.out)).trans HX2.out), ((hal_.cell (World.block_lt_of_cell? u.drew _ HX3.out)).trans HX3.out)⟩ (fun hHeld => ?_)
 clear hK K
 refine norm_ (a' := ?_) ?_ ?_
 rotate_left
 ·show Act.put _ (some 22) _ = _
  simp only [Act.put, List.setIfInBounds_toArray, List.set_cons_zero, List.set_cons_succ, i64_w, i32_w]
  rfl
 refine last_ (i := 20) (N := some 23) #[true, true, true, true, true, true, true, true, true, true, true, true, true, true, true, true, true, true, true, true, true, false, false] rfl rfl (by kernel_rfl) (by decide) (fun K hK => ?_)
 clear hal_
 refine Kd.R_append_step k51 (w0 := w0) (W := u.drew) w0.heap.size (by rfl) (.tmp 4) (.tmp 22) 24 51 (.agg #[(.int .i64 0), (.int .i64 0), (.int .i64 0), (.int .i64 0)]) 32 rfl Try.underlying24 tfm_Read_2.info rfl (by decide) (by omega) (.slice A3 acc.length c3) acc (⟨wrap64 x0, wrap64 x1, wrap64 x2, wrap64 x3⟩ : S51) [.int .i64 (wrap64 x0), .int .i64 (wrap64 x1), .int .i64 (wrap64 x2), .int .i64 (wrap64 x3)] (fun _ => True) (fun _ => False) rfl rfl ?hp (fun _ h => h.elim) (fun _ _ => trivial) (Kd.R_drew HO.out) (below_drew1 HB.out) (below_size (below_drew1 HB.out)) (by have h1 := HL.out; omega) ?_
 case hp => exact k51_mkM _ _ _ _
 intro v2 w2 ho hb hg hat
 obtain ⟨A4, c4, e4⟩ := Kd.R_slice ho
 subst e4
 rw [show (acc ++ [(⟨wrap64 x0, wrap64 x1, wrap64 x2, wrap64 x3⟩ : S51)]).length = acc.length + 1 by simp] at ho ⊢
 have HO1 := Aside0.mk (show Kd.R k51 51 u.drew w0.heap.size (fun _ => True) (.slice A3 acc.length c3) acc from Kd.R_drew HO.out)
 have HF1 := Aside0.mk (show u.drew.heap[gf]? = some (.cells #[p0, p1, p2, p3, p4, p5, p6, p7, (.slice A3 acc.length c3), p9, p10] 26 (0, 0)) from HF.out)
 have P2 := (hg.block gf (Array.getElem?_eq_some_iff.1 HF1.out).1 (Kd.R_ne HO1.out HF1.out (by decide))).trans HF1.out
 have HP2 := Aside0.mk P2
 have hq := blk_cell P2 8
 have hfq := blk_frozen P2
 have HO2 := Aside0.mk ho
 have HB2 := Aside0.mk hb
 have HGR := Aside0.mk hg
 clear P2 ho hb hg hat
 refine hK.out _ _ ?_
 clear hK K
 refine norm_ (a' := ?_) ?_ ?_
 rotate_left
 ·show Act.put _ (some 23) _ = _
  simp only [Act.put, List.setIfInBounds_toArray, List.set_cons_zero, List.set_cons_succ, i64_w, i32_w]
  rfl
 refine pure_ (i := 21) (N := some 24) (v := ?_) (a' := ?_) #[true, true, true, true, true, true, true, true, true, true, true, true, true, true, true, true, true, true, true, true, true, true, false] rfl rfl (by kernel_rfl) (fun _ _ _ h => h) (Or.inl ⟨by rfl, ?_⟩) ?_ ?_
 rotate_left
 ·intro w'
  go_simp
  with_reducible rfl
 rotate_left
 ·simp only [Act.put, List.setIfInBounds_toArray, List.set_cons_zero, List.set_cons_succ, i64_w, i32_w]
  rfl
 refine last_ (i := 22) (N := none) #[true, true, true, true, true, true, true, true, true, true, true, true, true, true, true, true, true, true, true, true, true, true, true] rfl rfl (by kernel_rfl) (by decide) (fun K hK => ?_)
 refine skip_ (w1 := ?_) (by rfl) rfl ?_ ?_
 rotate_left
 ·go_simp
  rfl
 refine hK.out _ _ ?_
 clear hK K
 refine done_ (by kernel_rfl) ?_
 go_end0
 have hset : ∀ k, k ≠ gf → (w2.setCell ⟨gf, 8, none⟩ (.slice A4 (acc.length + 1) c4)).heap[k]? = w2.heap[k]? := fun k hk => Below.heap_setCell w2 ⟨gf, 8, none⟩ _ k hk
 refine ⟨rfl, ⟨A4, c4, ?_, Kd.R_mono (Kd.R_step (Kd.R_tight rfl HO2.out) (fun j hj _ => hset j (fun e2 => Kd.R_ne HO2.out HP2.out (by decide) (by rw [← e2]; exact hj)))) (fun _ _ => trivial)⟩, HB2.out.setCell (p := ⟨gf, 8, none⟩) HG.out _, fun k cs t fr hk h1 h2 => ?_, fun k hk => ?_, ?_⟩
 ·have := blk_put (cs' := #[p0, p1, p2, p3, p4, p5, p6, p7, (.slice A4 (acc.length + 1) c4), p9, p10]) HP2.out 8 (.slice A4 (acc.length + 1) c4) rfl
  exact this
 ·have hlt := (Array.getElem?_eq_some_iff.1 hk).1
  refine (hset k h1).trans (HGR.out.block k hlt (fun e2 => ?_))
  obtain ⟨cells, hcs⟩ := Kd.R_typed HO.out k e2.symm
  rw [hk] at hcs
  simp only [Option.some.injEq, Obj.cells.injEq] at hcs
  exact h2 hcs.2.1
 ·have h8 := HG.out
  refine (hset k (by omega)).trans (HGR.out.block k (Nat.lt_of_lt_of_le hk HB.out.size) (fun e2 => ?_))
  have := Kd.R_base HO.out k e2.symm
  omega
 ·rw [World.size_setCell]
  exact HGR.out.size


end Go.Proofs.Ytpijgpjoobffoaa.G
