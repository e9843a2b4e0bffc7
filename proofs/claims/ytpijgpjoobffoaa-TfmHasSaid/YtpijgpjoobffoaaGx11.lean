/- Contracts of the functions of this seat: what each call computes, as a plain Lean function. Made by this session's own generator. -/
import Derived.Test.YtpijgpjoobffoaaGx0
import Derived.Test.YtpijgpjoobffoaaGx7
import Derived.Test.YtpijgpjoobffoaaGx10
namespace Go.Proofs.Ytpijgpjoobffoaa.G
open Go.RowKit Go.Proofs.YtpijgpjoobffoaaMy Go.Proofs.YtpijgpjoobffoaaW.PrintWords Go.Proofs.YtpijgpjoobffoaaW.PrintLast Go.Proofs.YtpijgpjoobffoaaW.PrintMore
attribute [local go_sem] max2_int min2_int max_two min_two max_three min_three max_four min_four   -- for this text's walks alone
set_option linter.unusedVariables false
set_option linter.unusedSimpArgs false

/-! ### tfm_Read_1: function 38 -/
-- by hand
theorem tfm_Read_1.info : (Try.prog.info? 42).map (fun i => (i.zero, i.size, i.bytes)) = some (some (.agg #[(.int .i64 0), (.int .i64 0), (.int .i64 0), (.int .i64 0), (.int .i64 0), (.int .i64 0)]), 6, 48) := by kernel_rfl
set_option maxHeartbeats 4000000 in
theorem tfm_Read_1.calls (x0 x1 x2 x3 : Int) (A : Option Addr) (c : Nat) (acc : List S42) (gf : Nat) (A3 : Option Addr) (c3 : Nat) (p0 p1 p2 p4 p5 p6 p7 p8 p9 p10 : Value) (w0 u : World) (hB : Below w0.heap.size w0 u) (hb : w0.heap.size ≤ gf) (hf : u.heap[gf]? = some (.cells #[p0, p1, p2, (.slice A3 acc.length c3), p4, p5, p6, p7, p8, p9, p10] 26 (0, 0))) (hO : Kd.R k42 42 u w0.heap.size (fun _ => True) (.slice A3 acc.length c3) acc) (hC : Kd.C (Kd.int .u8) u A 4 [x0, x1, x2, x3]) (hl : acc.length < 1000000) :
  Calls Try.prog 38 #[.slice A 4 c, .pointer (some ⟨gf, 0, none⟩)] u fun e u' => e = .returned (.tuple #[]) ∧ (∃ A4 c4, u'.heap[gf]? = some (.cells #[p0, p1, p2, (.slice A4 (acc.length + 1) c4), p4, p5, p6, p7, p8, p9, p10] 26 (0, 0)) ∧ Kd.R k42 42 u' w0.heap.size (fun _ => True) (.slice A4 (acc.length + 1) c4) (acc ++ [⟨wrap64 x0, wrap64 (x1 / 16), wrap64 (Go.bits .and .u8 x1 15), wrap64 (x2 / 4), wrap64 (Go.bits .and .u8 x2 3), wrap64 x3⟩])) ∧ Below w0.heap.size w0 u' ∧ (∀ (k : Nat) (cs : Array Value) (t : TypeId) (fr : Nat × Nat), u.heap[k]? = some (Obj.cells cs t fr) → k ≠ gf → t ≠ 42 → u'.heap[k]? = u.heap[k]?) ∧ (∀ k, k < w0.heap.size → u'.heap[k]? = u.heap[k]?) ∧ u.heap.size ≤ u'.heap.size := by
 have hu := Try.underlying26
 obtain ⟨ad, c0, rfl, hcl, hK, hcc⟩ := C_elem hC 0 (by simp)
 have hcell : ∀ (j : Nat) (hj : j < 4), u.cell? (ad.add j) = some (.int .u8 ([x0, x1, x2, x3][j])) := fun j hj => by
  obtain ⟨ad2, c2, e2, _, hK2, hcc2⟩ := C_elem hC j hj
  obtain rfl := Option.some.inj e2
  obtain rfl : c2 = [.int .u8 ([x0, x1, x2, x3][j])] := hK2
  simpa [Kd.int, Kd.scalar] using hcc2 0 _ rfl
 have HX0 := Aside0.mk (show u.drew.cell? ad = some (.int .u8 x0) from hcell 0 (by decide))
 have HX1 := Aside0.mk (show u.drew.cell? ⟨ad.block, ad.off + 1, none⟩ = some (.int .u8 x1) from hcell 1 (by decide))
 have HX2 := Aside0.mk (show u.drew.cell? ⟨ad.block, ad.off + 2, none⟩ = some (.int .u8 x2) from hcell 2 (by decide))
 have HX3 := Aside0.mk (show u.drew.cell? ⟨ad.block, ad.off + 3, none⟩ = some (.int .u8 x3) from hcell 3 (by decide))
 have HF := Aside0.mk hf
 have HO := Aside0.mk hO
 have HB := Aside0.mk hB
 have HL := Aside0.mk hl
 have HG := Aside0.mk hb
 have hx := blk_cell hf
 clear hcl hK hcc hcell hf hO hB hl hb hC
 go_enter Try.func38, Try.ntmps38
 go_upto_region 0 with (fail)
 refine start_ (n := 35) (S := fun w' => w'.cell? ⟨gf, 3, none⟩ = some (.slice A3 acc.length c3) ∧ w'.cell? ad = some (.int .u8 x0) ∧ w'.cell? ⟨ad.block, ad.off + 1, none⟩ = some (.int .u8 x1) ∧ w'.cell? ⟨ad.block, ad.off + 2, none⟩ = some (.int .u8 x2) ∧ w'.cell? ⟨ad.block, ad.off + 3, none⟩ = some (.int .u8 x3)) (ds := [32, 34]) #[false, false, false, false, false, false, false, false, false, false, false, false, false, false, false, false, false, false, false, false, false, false, false, false, false, false, false, false, false, false, false, false, false, false, false] (by kernel_rfl) rfl rfl ⟨((blk_cell HF.out 3).trans rfl), HX0.out, HX1.out, HX2.out, HX3.out⟩ (fun hHeld => ?_)
 refine pure_ (i := 0) (N := some 3) (v := ?_) (a' := ?_) #[true, false, false, false, false, false, false, false, false, false, false, false, false, false, false, false, false, false, false, false, false, false, false, false, false, false, false, false, false, false, false, false, false, false, false] rfl rfl (by kernel_rfl) (fun _ _ _ h => h) (Or.inl ⟨by rfl, ?_⟩) ?_ ?_
 rotate_left
 ·intro w'
  go_simp
  with_reducible rfl
 rotate_left
 ·simp only [Act.put, List.setIfInBounds_toArray, List.set_cons_zero, List.set_cons_succ, i64_w, i32_w]
  rfl
 refine pure_ (i := 2) (N := some 5) (v := ?_) (a' := ?_) #[true, false, true, false, false, false, false, false, false, false, false, false, false, false, false, false, false, false, false, false, false, false, false, false, false, false, false, false, false, false, false, false, false, false, false] rfl rfl (by kernel_rfl) (fun _ _ _ h => h) (Or.inl ⟨by rfl, ?_⟩) ?_ ?_
 rotate_left
 ·intro w'
  go_simp
  with_reducible rfl
 rotate_left
 ·simp only [Act.put, List.setIfInBounds_toArray, List.set_cons_zero, List.set_cons_succ, i64_w, i32_w]
  rfl
 refine pure_ (i := 3) (N := some 6) (v := ?_) (a' := ?_) #[true, false, true, true, false, false, false, false, false, false, false, false, false, false, false, false, false, false, false, false, false, false, false, false, false, false, false, false, false, false, false, false, false, false, false] rfl rfl (by kernel_rfl) (fun _ _ _ h => h) (Or.inl ⟨by rfl, ?_⟩) ?_ ?_
 rotate_left
 ·intro w'
  go_simp
  with_reducible rfl
 rotate_left
 ·simp only [Act.put, List.setIfInBounds_toArray, List.set_cons_zero, List.set_cons_succ, i64_w, i32_w]
  rfl
 refine pure_ (i := 6) (N := some 9) (v := ?_) (a' := ?_) #[true, false, true, true, false, false, true, false, false, false, false, false, false, false, false, false, false, false, false, false, false, false, false, false, false, false, false, false, false, false, false, false, false, false, false] rfl rfl (by kernel_rfl) (fun _ _ _ h => h) (Or.inl ⟨by rfl, ?_⟩) ?_ ?_
 rotate_left
 ·intro w'
  go_simp
  with_reducible rfl
 rotate_left
 ·simp only [Act.put, List.setIfInBounds_toArray, List.set_cons_zero, List.set_cons_succ, i64_w, i32_w]
  rfl
 refine pure_ (i := 7) (N := some 10) (v := ?_) (a' := ?_) #[true, false, true, true, false, false, true, true, false, false, false, false, false, false, false, false, false, false, false, false, false, false, false, false, false, false, false, false, false, false, false, false, false, false, false] rfl rfl (by kernel_rfl) (fun _ _ _ h => h) (Or.inl ⟨by rfl, ?_⟩) ?_ ?_
 rotate_left
 ·intro w'
  go_simp
  with_reducible rfl
 rotate_left
 ·simp only [Act.put, List.setIfInBounds_toArray, List.set_cons_zero, List.set_cons_succ, i64_w, i32_w]
  rfl
 refine pure_ (i := 11) (N := some 14) (v := ?_) (a' := ?_) #[true, false, true, true, false, false, true, true, false, false, false, true, false, false, false, false, false, false, false, false, false, false, false, false, false, false, false, false, false, false, false, false, false, false, false] rfl rfl (by kernel_rfl) (fun _ _ _ h => h) (Or.inl ⟨by rfl, ?_⟩) ?_ ?_
 rotate_left
 ·intro w'
  go_simp
  with_reducible rfl
 rotate_left
 ·simp only [Act.put, List.setIfInBounds_toArray, List.set_cons_zero, List.set_cons_succ, i64_w, i32_w]
  rfl
 refine pure_ (i := 12) (N := some 15) (v := ?_) (a' := ?_) #[true, false, true, true, false, false, true, true, false, false, false, true, true, false, false, false, false, false, false, false, false, false, false, false, false, false, false, false, false, false, false, false, false, false, false] rfl rfl (by kernel_rfl) (fun _ _ _ h => h) (Or.inl ⟨by rfl, ?_⟩) ?_ ?_
 rotate_left
 ·intro w'
  go_simp
  with_reducible rfl
 rotate_left
 ·simp only [Act.put, List.setIfInBounds_toArray, List.set_cons_zero, List.set_cons_succ, i64_w, i32_w]
  rfl
 refine pure_ (i := 16) (N := some 19) (v := ?_) (a' := ?_) #[true, false, true, true, false, false, true, true, false, false, false, true, true, false, false, false, true, false, false, false, false, false, false, false, false, false, false, false, false, false, false, false, false, false, false] rfl rfl (by kernel_rfl) (fun _ _ _ h => h) (Or.inl ⟨by rfl, ?_⟩) ?_ ?_
 rotate_left
 ·intro w'
  go_simp
  with_reducible rfl
 rotate_left
 ·simp only [Act.put, List.setIfInBounds_toArray, List.set_cons_zero, List.set_cons_succ, i64_w, i32_w]
  rfl
 refine pure_ (i := 17) (N := some 20) (v := ?_) (a' := ?_) #[true, false, true, true, false, false, true, true, false, false, false, true, true, false, false, false, true, true, false, false, false, false, false, false, false, false, false, false, false, false, false, false, false, false, false] rfl rfl (by kernel_rfl) (fun _ _ _ h => h) (Or.inl ⟨by rfl, ?_⟩) ?_ ?_
 rotate_left
 ·intro w'
  go_simp
  with_reducible rfl
 rotate_left
 ·simp only [Act.put, List.setIfInBounds_toArray, List.set_cons_zero, List.set_cons_succ, i64_w, i32_w]
  rfl
 refine pure_ (i := 21) (N := some 24) (v := ?_) (a' := ?_) #[true, false, true, true, false, false, true, true, false, false, false, true, true, false, false, false, true, true, false, false, false, true, false, false, false, false, false, false, false, false, false, false, false, false, false] rfl rfl (by kernel_rfl) (fun _ _ _ h => h) (Or.inl ⟨by rfl, ?_⟩) ?_ ?_
 rotate_left
 ·intro w'
  go_simp
  with_reducible rfl
 rotate_left
 ·simp only [Act.put, List.setIfInBounds_toArray, List.set_cons_zero, List.set_cons_succ, i64_w, i32_w]
  rfl
 refine pure_ (i := 22) (N := some 25) (v := ?_) (a' := ?_) #[true, false, true, true, false, false, true, true, false, false, false, true, true, false, false, false, true, true, false, false, false, true, true, false, false, false, false, false, false, false, false, false, false, false, false] rfl rfl (by kernel_rfl) (fun _ _ _ h => h) (Or.inl ⟨by rfl, ?_⟩) ?_ ?_
 rotate_left
 ·intro w'
  go_simp
  with_reducible rfl
 rotate_left
 ·simp only [Act.put, List.setIfInBounds_toArray, List.set_cons_zero, List.set_cons_succ, i64_w, i32_w]
  rfl
 refine pure_ (i := 26) (N := some 29) (v := ?_) (a' := ?_) #[true, false, true, true, false, false, true, true, false, false, false, true, true, false, false, false, true, true, false, false, false, true, true, false, false, false, true, false, false, false, false, false, false, false, false] rfl rfl (by kernel_rfl) (fun _ _ _ h => h) (Or.inl ⟨by rfl, ?_⟩) ?_ ?_
 rotate_left
 ·intro w'
  go_simp
  with_reducible rfl
 rotate_left
 ·simp only [Act.put, List.setIfInBounds_toArray, List.set_cons_zero, List.set_cons_succ, i64_w, i32_w]
  rfl
 refine pure_ (i := 27) (N := some 30) (v := ?_) (a' := ?_) #[true, false, true, true, false, false, true, true, false, false, false, true, true, false, false, false, true, true, false, false, false, true, true, false, false, false, true, true, false, false, false, false, false, false, false] rfl rfl (by kernel_rfl) (fun _ _ _ h => h) (Or.inl ⟨by rfl, ?_⟩) ?_ ?_
 rotate_left
 ·intro w'
  go_simp
  with_reducible rfl
 rotate_left
 ·simp only [Act.put, List.setIfInBounds_toArray, List.set_cons_zero, List.set_cons_succ, i64_w, i32_w]
  rfl
 refine take_ (i := 1) (N := some 4) (v := ?_) (a' := ?_) #[true, true, true, true, false, false, true, true, false, false, false, true, true, false, false, false, true, true, false, false, false, true, true, false, false, false, true, true, false, false, false, false, false, false, false] rfl rfl (by kernel_rfl) (fun _ _ _ h => h) (Or.inl ⟨by rfl, ?_⟩) hHeld ?_ ?_
 rotate_left
 ·rintro w' ⟨s0, s1, s2, s3, s4⟩
  go_simp
  with_reducible rfl
 rotate_left
 ·simp only [Act.put, List.setIfInBounds_toArray, List.set_cons_zero, List.set_cons_succ, i64_w, i32_w]
  rfl
 refine take_ (i := 4) (N := some 7) (v := ?_) (a' := ?_) #[true, true, true, true, true, false, true, true, false, false, false, true, true, false, false, false, true, true, false, false, false, true, true, false, false, false, true, true, false, false, false, false, false, false, false] rfl rfl (by kernel_rfl) (fun _ _ _ h => h) (Or.inl ⟨by rfl, ?_⟩) hHeld ?_ ?_
 rotate_left
 ·rintro w' ⟨s0, s1, s2, s3, s4⟩
  go_simp
  with_reducible rfl
 rotate_left
 ·simp only [Act.put, List.setIfInBounds_toArray, List.set_cons_zero, List.set_cons_succ, i64_w, i32_w]
  rfl
 refine pure_ (i := 5) (N := some 8) (v := ?_) (a' := ?_) #[true, true, true, true, true, true, true, true, false, false, false, true, true, false, false, false, true, true, false, false, false, true, true, false, false, false, true, true, false, false, false, false, false, false, false] rfl rfl (by kernel_rfl) (fun _ _ _ h => h) (Or.inl ⟨by rfl, ?_⟩) ?_ ?_
 rotate_left
 ·intro w'
  go_simp
  with_reducible rfl
 rotate_left
 ·simp only [Act.put, List.setIfInBounds_toArray, List.set_cons_zero, List.set_cons_succ, i64_w, i32_w]
  rfl
 refine take_ (i := 8) (N := some 11) (v := ?_) (a' := ?_) #[true, true, true, true, true, true, true, true, true, false, false, true, true, false, false, false, true, true, false, false, false, true, true, false, false, false, true, true, false, false, false, false, false, false, false] rfl rfl (by kernel_rfl) (fun _ _ _ h => h) (Or.inl ⟨by rfl, ?_⟩) hHeld ?_ ?_
 rotate_left
 ·rintro w' ⟨s0, s1, s2, s3, s4⟩
  go_simp
  with_reducible rfl
 rotate_left
 ·simp only [Act.put, List.setIfInBounds_toArray, List.set_cons_zero, List.set_cons_succ, i64_w, i32_w]
  rfl
 refine pure_ (i := 9) (N := some 12) (v := ?_) (a' := ?_) #[true, true, true, true, true, true, true, true, true, true, false, true, true, false, false, false, true, true, false, false, false, true, true, false, false, false, true, true, false, false, false, false, false, false, false] rfl rfl (by kernel_rfl) (fun _ _ _ h => h) (Or.inl ⟨by rfl, ?_⟩) ?_ ?_
 rotate_left
 ·intro w'
  go_simp
  with_reducible rfl
 rotate_left
 ·simp only [Act.put, List.setIfInBounds_toArray, List.set_cons_zero, List.set_cons_succ, i64_w, i32_w]
  rfl
 refine pure_ (i := 10) (N := some 13) (v := ?_) (a' := ?_) #[true, true, true, true, true, true, true, true, true, true, true, true, true, false, false, false, true, true, false, false, false, true, true, false, false, false, true, true, false, false, false, false, false, false, false] rfl rfl (by kernel_rfl) (fun _ _ _ h => h) (Or.inl ⟨by rfl, ?_⟩) ?_ ?_
 rotate_left
 ·intro w'
  go_simp
  with_reducible rfl
 rotate_left
 ·simp only [Act.put, List.setIfInBounds_toArray, List.set_cons_zero, List.set_cons_succ, i64_w, i32_w]
  rfl
 refine take_ (i := 13) (N := some 16) (v := ?_) (a' := ?_) #[true, true, true, true, true, true, true, true, true, true, true, true, true, true, false, false, true, true, false, false, false, true, true, false, false, false, true, true, false, false, false, false, false, false, false] rfl rfl (by kernel_rfl) (fun _ _ _ h => h) (Or.inl ⟨by rfl, ?_⟩) hHeld ?_ ?_
 rotate_left
 ·rintro w' ⟨s0, s1, s2, s3, s4⟩
  go_simp
  with_reducible rfl
 rotate_left
 ·simp only [Act.put, List.setIfInBounds_toArray, List.set_cons_zero, List.set_cons_succ, i64_w, i32_w]
  rfl
 refine pure_ (i := 14) (N := some 17) (v := ?_) (a' := ?_) #[true, true, true, true, true, true, true, true, true, true, true, true, true, true, true, false, true, true, false, false, false, true, true, false, false, false, true, true, false, false, false, false, false, false, false] rfl rfl (by kernel_rfl) (fun _ _ _ h => h) (Or.inl ⟨by rfl, ?_⟩) ?_ ?_
 rotate_left
 ·intro w'
  go_simp
  with_reducible rfl
 rotate_left
 ·simp only [Act.put, List.setIfInBounds_toArray, List.set_cons_zero, List.set_cons_succ, i64_w, i32_w]
  rfl
 refine pure_ (i := 15) (N := some 18) (v := ?_) (a' := ?_) #[true, true, true, true, true, true, true, true, true, true, true, true, true, true, true, true, true, true, false, false, false, true, true, false, false, false, true, true, false, false, false, false, false, false, false] rfl rfl (by kernel_rfl) (fun _ _ _ h => h) (Or.inl ⟨by rfl, ?_⟩) ?_ ?_
 rotate_left
 ·intro w'
  go_simp
  with_reducible rfl
 rotate_left
 ·simp only [Act.put, List.setIfInBounds_toArray, List.set_cons_zero, List.set_cons_succ, i64_w, i32_w]
  rfl
 refine take_ (i := 18) (N := some 21) (v := ?_) (a' := ?_) #[true, true, true, true, true, true, true, true, true, true, true, true, true, true, true, true, true, true, true, false, false, true, true, false, false, false, true, true, false, false, false, false, false, false, false] rfl rfl (by kernel_rfl) (fun _ _ _ h => h) (Or.inl ⟨by rfl, ?_⟩) hHeld ?_ ?_
 rotate_left
 ·rintro w' ⟨s0, s1, s2, s3, s4⟩
  go_simp
  with_reducible rfl
 rotate_left
 ·simp only [Act.put, List.setIfInBounds_toArray, List.set_cons_zero, List.set_cons_succ, i64_w, i32_w]
  rfl
 refine pure_ (i := 19) (N := some 22) (v := ?_) (a' := ?_) #[true, true, true, true, true, true, true, true, true, true, true, true, true, true, true, true, true, true, true, true, false, true, true, false, false, false, true, true, false, false, false, false, false, false, false] rfl rfl (by kernel_rfl) (fun _ _ _ h => h) (Or.inl ⟨by rfl, ?_⟩) ?_ ?_
 rotate_left
 ·intro w'
  go_simp
  with_reducible rfl
 rotate_left
 ·simp only [Act.put, List.setIfInBounds_toArray, List.set_cons_zero, List.set_cons_succ, i64_w, i32_w]
  rfl
 refine pure_ (i := 20) (N := some 23) (v := ?_) (a' := ?_) #[true, true, true, true, true, true, true, true, true, true, true, true, true, true, true, true, true, true, true, true, true, true, true, false, false, false, true, true, false, false, false, false, false, false, false] rfl rfl (by kernel_rfl) (fun _ _ _ h => h) (Or.inl ⟨by rfl, ?_⟩) ?_ ?_
 rotate_left
 ·intro w'
  go_simp
  with_reducible rfl
 rotate_left
 ·simp only [Act.put, List.setIfInBounds_toArray, List.set_cons_zero, List.set_cons_succ, i64_w, i32_w]
  rfl
 refine take_ (i := 23) (N := some 26) (v := ?_) (a' := ?_) #[true, true, true, true, true, true, true, true, true, true, true, true, true, true, true, true, true, true, true, true, true, true, true, true, false, false, true, true, false, false, false, false, false, false, false] rfl rfl (by kernel_rfl) (fun _ _ _ h => h) (Or.inl ⟨by rfl, ?_⟩) hHeld ?_ ?_
 rotate_left
 ·rintro w' ⟨s0, s1, s2, s3, s4⟩
  go_simp
  with_reducible rfl
 rotate_left
 ·simp only [Act.put, List.setIfInBounds_toArray, List.set_cons_zero, List.set_cons_succ, i64_w, i32_w]
  rfl
 refine pure_ (i := 24) (N := some 27) (v := ?_) (a' := ?_) #[true, true, true, true, true, true, true, true, true, true, true, true, true, true, true, true, true, true, true, true, true, true, true, true, true, false, true, true, false, false, false, false, false, false, false] rfl rfl (by kernel_rfl) (fun _ _ _ h => h) (Or.inl ⟨by rfl, ?_⟩) ?_ ?_
 rotate_left
 ·intro w'
  go_simp
  with_reducible rfl
 rotate_left
 ·simp only [Act.put, List.setIfInBounds_toArray, List.set_cons_zero, List.set_cons_succ, i64_w, i32_w]
  rfl
 refine pure_ (i := 25) (N := some 28) (v := ?_) (a' := ?_) #[true, true, true, true, true, true, true, true, true, true, true, true, true, true, true, true, true, true, true, true, true, true, true, true, true, true, true, true, false, false, false, false, false, false, false] rfl rfl (by kernel_rfl) (fun _ _ _ h => h) (Or.inl ⟨by rfl, ?_⟩) ?_ ?_
 rotate_left
 ·intro w'
  go_simp
  with_reducible rfl
 rotate_left
 ·simp only [Act.put, List.setIfInBounds_toArray, List.set_cons_zero, List.set_cons_succ, i64_w, i32_w]
  rfl
 refine take_ (i := 28) (N := some 31) (v := ?_) (a' := ?_) #[true, true, true, true, true, true, true, true, true, true, true, true, true, true, true, true, true, true, true, true, true, true, true, true, true, true, true, true, true, false, false, false, false, false, false] rfl rfl (by kernel_rfl) (fun _ _ _ h => h) (Or.inl ⟨by rfl, ?_⟩) hHeld ?_ ?_
 rotate_left
 ·rintro w' ⟨s0, s1, s2, s3, s4⟩
  go_simp
  with_reducible rfl
 rotate_left
 ·simp only [Act.put, List.setIfInBounds_toArray, List.set_cons_zero, List.set_cons_succ, i64_w, i32_w]
  rfl
 refine pure_ (i := 29) (N := some 32) (v := ?_) (a' := ?_) #[true, true, true, true, true, true, true, true, true, true, true, true, true, true, true, true, true, true, true, true, true, true, true, true, true, true, true, true, true, true, false, false, false, false, false] rfl rfl (by kernel_rfl) (fun _ _ _ h => h) (Or.inl ⟨by rfl, ?_⟩) ?_ ?_
 rotate_left
 ·intro w'
  go_simp
  with_reducible rfl
 rotate_left
 ·simp only [Act.put, List.setIfInBounds_toArray, List.set_cons_zero, List.set_cons_succ, i64_w, i32_w]
  rfl
 refine pure_ (i := 30) (N := some 33) (v := ?_) (a' := ?_) #[true, true, true, true, true, true, true, true, true, true, true, true, true, true, true, true, true, true, true, true, true, true, true, true, true, true, true, true, true, true, true, false, false, false, false] rfl rfl (by kernel_rfl) (fun _ _ _ h => h) (Or.inl ⟨by rfl, ?_⟩) ?_ ?_
 rotate_left
 ·intro w'
  go_simp
  with_reducible rfl
 rotate_left
 ·simp only [Act.put, List.setIfInBounds_toArray, List.set_cons_zero, List.set_cons_succ, i64_w, i32_w]
  rfl
 refine one_ (i := 31) (N := some 34) #[true, true, true, true, true, true, true, true, true, true, true, true, true, true, true, true, true, true, true, true, true, true, true, true, true, true, true, true, true, true, true, true, false, false, false] rfl rfl (by kernel_rfl) (by decide) (fun K hK => ?_)
 refine value_ (w1 := ?_) (v := ?_) (by rfl) rfl ?_ ?_
 rotate_left 2
 ·go_simp
  constructor
  ·rfl
  ·rfl
 have hal_ := below_alloc (Below.refl u.drew.heap.size u.drew) (.cells #[.int .i64 (wrap64 x0), .int .i64 (wrap64 (x1 / 16)), .int .i64 (wrap64 (Go.bits .and .u8 x1 15)), .int .i64 (wrap64 (x2 / 4)), .int .i64 (wrap64 (Go.bits .and .u8 x2 3)), .int .i64 (wrap64 x3)] 42)
 refine hK.out _ _ ⟨((blk_cell (blk_below (w := u.drew) HF.out hal_) 3).trans rfl), ((hal_.cell (World.block_lt_of_cell? u.drew _ HX0.out)).trans HX0.out), ((hal_.cell (World.block_lt_of_cell? u.drew _ HX1.out)).trans HX1.out), ((hal_.cell (World.block_lt_of_cell? u.drew _ HX2.out)).trans HX2.out), ((hal_.cell (World.block_lt_of_cell? u.drew _ HX3.out)).trans HX3.out)⟩ (fun hHeld => ?_)
 clear hK K
 refine norm_ (a' := ?_) ?_ ?_
 rotate_left
 ·show Act.put _ (some 34) _ = _
  simp only [Act.put, List.setIfInBounds_toArray, List.set_cons_zero, List.set_cons_succ, i64_w, i32_w]
  rfl
 refine last_ (i := 32) (N := some 35) #[true, true, true, true, true, true, true, true, true, true, true, true, true, true, true, true, true, true, true, true, true, true, true, true, true, true, true, true, true, true, true, true, true, false, false] rfl rfl (by kernel_rfl) (by decide) (fun K hK => ?_)
 clear hal_
 refine Kd.R_append_step k42 (w0 := w0) (W := u.drew) w0.heap.size (by rfl) (.tmp 4) (.tmp 34) 22 42 (.agg #[(.int .i64 0), (.int .i64 0), (.int .i64 0), (.int .i64 0), (.int .i64 0), (.int .i64 0)]) 48 rfl Try.underlying22 tfm_Read_1.info rfl (by decide) (by omega) (.slice A3 acc.length c3) acc (⟨wrap64 x0, wrap64 (x1 / 16), wrap64 (Go.bits .and .u8 x1 15), wrap64 (x2 / 4), wrap64 (Go.bits .and .u8 x2 3), wrap64 x3⟩ : S42) [.int .i64 (wrap64 x0), .int .i64 (wrap64 (x1 / 16)), .int .i64 (wrap64 (Go.bits .and .u8 x1 15)), .int .i64 (wrap64 (x2 / 4)), .int .i64 (wrap64 (Go.bits .and .u8 x2 3)), .int .i64 (wrap64 x3)] (fun _ => True) (fun _ => False) rfl rfl ?hp (fun _ h => h.elim) (fun _ _ => trivial) (Kd.R_drew HO.out) (below_drew1 HB.out) (below_size (below_drew1 HB.out)) (by have h1 := HL.out; omega) ?_
 case hp => exact k42_mkM _ _ _ _
 intro v2 w2 ho hb hg hat
 obtain ⟨A4, c4, e4⟩ := Kd.R_slice ho
 subst e4
 rw [show (acc ++ [(⟨wrap64 x0, wrap64 (x1 / 16), wrap64 (Go.bits .and .u8 x1 15), wrap64 (x2 / 4), wrap64 (Go.bits .and .u8 x2 3), wrap64 x3⟩ : S42)]).length = acc.length + 1 by simp] at ho ⊢
 have HO1 := Aside0.mk (show Kd.R k42 42 u.drew w0.heap.size (fun _ => True) (.slice A3 acc.length c3) acc from Kd.R_drew HO.out)
 have HF1 := Aside0.mk (show u.drew.heap[gf]? = some (.cells #[p0, p1, p2, (.slice A3 acc.length c3), p4, p5, p6, p7, p8, p9, p10] 26 (0, 0)) from HF.out)
 have P2 := (hg.block gf (Array.getElem?_eq_some_iff.1 HF1.out).1 (Kd.R_ne HO1.out HF1.out (by decide))).trans HF1.out
 have HP2 := Aside0.mk P2
 have hq := blk_cell P2 3
 have hfq := blk_frozen P2
 have HO2 := Aside0.mk ho
 have HB2 := Aside0.mk hb
 have HGR := Aside0.mk hg
 clear P2 ho hb hg hat
 refine hK.out _ _ ?_
 clear hK K
 refine norm_ (a' := ?_) ?_ ?_
 rotate_left
 ·show Act.put _ (some 35) _ = _
  simp only [Act.put, List.setIfInBounds_toArray, List.set_cons_zero, List.set_cons_succ, i64_w, i32_w]
  rfl
 refine pure_ (i := 33) (N := some 36) (v := ?_) (a' := ?_) #[true, true, true, true, true, true, true, true, true, true, true, true, true, true, true, true, true, true, true, true, true, true, true, true, true, true, true, true, true, true, true, true, true, true, false] rfl rfl (by kernel_rfl) (fun _ _ _ h => h) (Or.inl ⟨by rfl, ?_⟩) ?_ ?_
 rotate_left
 ·intro w'
  go_simp
  with_reducible rfl
 rotate_left
 ·simp only [Act.put, List.setIfInBounds_toArray, List.set_cons_zero, List.set_cons_succ, i64_w, i32_w]
  rfl
 refine last_ (i := 34) (N := none) #[true, true, true, true, true, true, true, true, true, true, true, true, true, true, true, true, true, true, true, true, true, true, true, true, true, true, true, true, true, true, true, true, true, true, true] rfl rfl (by kernel_rfl) (by decide) (fun K hK => ?_)
 refine skip_ (w1 := ?_) (by rfl) rfl ?_ ?_
 rotate_left
 ·go_simp
  rfl
 refine hK.out _ _ ?_
 clear hK K
 refine done_ (by kernel_rfl) ?_
 go_end0
 have hset : ∀ k, k ≠ gf → (w2.setCell ⟨gf, 3, none⟩ (.slice A4 (acc.length + 1) c4)).heap[k]? = w2.heap[k]? := fun k hk => Below.heap_setCell w2 ⟨gf, 3, none⟩ _ k hk
 refine ⟨rfl, ⟨A4, c4, ?_, Kd.R_mono (Kd.R_step (Kd.R_tight rfl HO2.out) (fun j hj _ => hset j (fun e2 => Kd.R_ne HO2.out HP2.out (by decide) (by rw [← e2]; exact hj)))) (fun _ _ => trivial)⟩, HB2.out.setCell (p := ⟨gf, 3, none⟩) HG.out _, fun k cs t fr hk h1 h2 => ?_, fun k hk => ?_, ?_⟩
 ·have := blk_put (cs' := #[p0, p1, p2, (.slice A4 (acc.length + 1) c4), p4, p5, p6, p7, p8, p9, p10]) HP2.out 3 (.slice A4 (acc.length + 1) c4) rfl
  exact this
 ·have hlt := (Array.getElem?_eq_some_iff.1 hk).1
  refine (hset k h1).trans (HGR.out.block k hlt (fun e2 => ?_))
  obtain ⟨cells, hcs⟩ := Kd.R_typed HO.out k e2.symm
  rw [hk] at hcs
  simp only [Option.some.injEq, Obj.cells.injEq] at hcs
  exact h2 hcs.2.1
 ·have h8 := HG.out
  refine (hset k (by omega)).trans (HGR.out.block k (Nat.lt_of_lt_of_le hk HB.out.size) (fun e2 => ?_))
  have := Kd.R_base HO.out k e2.symm
  omega
 ·rw [World.size_setCell]
  exact HGR.out.size

/-! ### pack_TakeFix: function 54 -/
-- by hand
def pack_TakeFix.f (k : Nat) (l0 : List Int) : Option (Int × List Int × Int) := (pack_Take.f k l0 4).bind fun b => some (wrap64 (wrap32 (b.1 % 4294967296)), b.2.1, b.2.2)
theorem pack_TakeFix.mono : ∀ a0 k, LeO (pack_TakeFix.f k a0) (pack_TakeFix.f (k + 1) a0) := by
 intro a0 k
 unfold pack_TakeFix.f
 exact LeO.bind (pack_Take.mono _ _ _) (fun _ => LeO.refl _)
set_option maxHeartbeats 4000000 in
theorem pack_TakeFix.calls (k : Nat) (A0 : Option Addr) (c0 : Nat) (l0 : List Int) (r1 : Int) (r2 : List Int) (r3 : Int) (w : World) (hr0 : Kd.C (Kd.int .u8) w A0 l0.length l0) (hc0 : l0.length ≤ c0) (h : pack_TakeFix.f k l0 = some (r1, r2, r3)) :
  Calls Try.prog 54 #[.slice A0 l0.length c0] w fun e w' => ∃ v1_ : Value, e = .returned (.tuple #[.int .i64 r1, v1_, .int .i64 r3]) ∧ Kd.R (Kd.int .u8) 5 w' w.heap.size (fun _ => True) v1_ r2 ∧ Below w.heap.size w w' := by
 have HR0 := Aside0.mk hr0
 have HC0 := Aside0.mk hc0
 clear hr0 hc0
 unfold pack_TakeFix.f at h
 obtain ⟨⟨b1, b2, b3⟩, hT, h⟩ := Option.bind_eq_some_iff.mp h
 simp only [Option.some.injEq, Prod.mk.injEq] at h
 obtain ⟨rfl, rfl, rfl⟩ := h
 have H := Aside0.mk hT
 clear hT
 go_enter Try.func54, Try.ntmps54
 go_wp2_with (first | (go_at_call 58; (with_reducible refine (pack_ways.calls _).mono ?_); rintro e w' ⟨rfl, rfl⟩) | (go_at_call 64; (with_reducible refine (pack_ways.c2 _ _).mono ?_); rintro e w' ⟨rfl, rfl⟩) | (go_at_call 61; (with_reducible refine (pack_Take.calls k A0 c0 l0 4 b1 b2 b3 _ HR0.out HC0.out H.out).mono ?_); rintro e w' ⟨v0, rfl, hr, hb⟩))
 go_ret3
 exact ⟨_, rfl, hr, hb⟩


/-! ### tfm_in_fixes: function 39 -/
-- by hand
def tfm_in_fixes.f (k : Nat) : Nat → List Int → Bool → List Int → Option (List Int × List Int × Bool)
 | 0, xs, bad, acc => some (acc, xs, bad)
 | m + 1, xs, bad, acc => (pack_TakeFix.f k xs).bind fun r => if r.2.2 = 0 then (if acc.length < 1000000000 then tfm_in_fixes.f k m r.2.1 bad (acc ++ [r.1]) else none) else some (acc, xs, true)
theorem tfm_in_fixes.mono (k : Nat) : ∀ (m : Nat) (xs : List Int) (bad : Bool) (acc : List Int), LeO (tfm_in_fixes.f k m xs bad acc) (tfm_in_fixes.f (k + 1) m xs bad acc)
 | 0, _, _, _ => LeO.refl _
 | m + 1, _, _, _ => LeO.bind (pack_TakeFix.mono _ _) (fun _ => LeO.ite (LeO.ite (tfm_in_fixes.mono k m _ _ _) (LeO.refl _)) (LeO.refl _))
/-- A row of bytes stays where a row of numbers grows. -/
theorem tfm_in_fixes.R_grown {base base' : Nat} {ok ok' : Nat → Prop} {v v4 : Value} {xs acc : List Int} {w w' : World} (h : Kd.R (Kd.int .u8) 5 w base ok v xs) (ho : Kd.R (Kd.int .i64) 3 w base' ok' v4 acc) (hg : w.grownBy w' v4.ownBlock) : Kd.R (Kd.int .u8) 5 w' base ok v xs :=
 Kd.R_mono (Kd.R_step (Kd.R_tight rfl h) (fun j hj hl => hg.block j hl (by
  obtain ⟨cells, hcs⟩ := Kd.R_typed h j hj.symm
  exact Kd.R_ne ho hcs (by decide)))) (fun j hj => h.1 j hj.symm)
set_option maxHeartbeats 4000000 in
theorem tfm_in_fixes.calls (k : Nat) (z : Int) (hz : z < 1000000) (xs : List Int) (bad : Bool) (r : List Int) (zs : List Int) (bad' : Bool) (g : Nat) (w0 u : World) (hB : Below w0.heap.size w0 u) (hb : w0.heap.size ≤ g) (h : tfm_in_take.Holds w0 u g xs bad) (hp : tfm_in_fixes.f k z.toNat xs bad [] = some (r, zs, bad')) :
  Calls Try.prog 39 #[.pointer (some ⟨g, 0, none⟩), .int .i64 z] u fun e u' => ∃ v, e = .returned v ∧ Kd.R (Kd.int .i64) 3 u' w0.heap.size (fun k => u.heap.size ≤ k) v r ∧ tfm_in_take.Holds w0 u' g zs bad' ∧ Below w0.heap.size w0 u' ∧ tfm_in_take.Stays g u u' := by
 have hu := Try.underlying64
 have HG := Aside0.mk hb
 have HB := Aside0.mk hB
 have H0 := Aside0.mk h
 have HP := Aside0.mk hp
 have HO := Aside0.mk (Kd.R_nil (Kd.int .i64) 3 u w0.heap.size (fun k => u.heap.size ≤ k))
 have HZ := Aside0.mk hz
 clear hb hB h hp
 go_enter Try.func39, Try.ntmps39
 go_wp2
 go_step3
 go_wp2
 go_step3
 go_wp2
 go_loopw [4, 5, 6, 7, 9] (fun v4 _ _ _ v9 wr => ∃ (i : Nat) (ys : List Int) (b : Bool) (acc : List Int), i ≤ z.toNat ∧ v9 = .int .i64 i ∧ Aside0 (tfm_in_fixes.f k (z.toNat - i) ys b acc = some (r, zs, bad')) ∧ Aside0 (Kd.R (Kd.int .i64) 3 wr w0.heap.size (fun k => u.heap.size ≤ k) v4 acc) ∧ Aside0 (tfm_in_take.Holds w0 wr g ys b) ∧ Aside0 (Below w0.heap.size w0 wr) ∧ Aside0 (tfm_in_take.Stays g u wr) ∧ Aside0 (u.heap.size ≤ wr.heap.size)) (fun _ _ _ _ v9 _ => z.toNat - (intOf v9).toNat)
 case atStart => exact ⟨0, xs, bad, [], Nat.zero_le _, rfl, HP, HO, H0, HB, ⟨tfm_in_take.stays_below (Below.refl _ _)⟩, ⟨Nat.le_refl _⟩⟩
 case round =>
  have HW0 := Aside0.mk HB.out.size
  clear H0 HP HB HO
  obtain ⟨i, ys, b, acc, hii, rfl, HP, HO, H0, HB, HKP, HGU⟩ := hrel
  have HWR := Aside0.mk HB.out.size
  obtain ⟨A4, c4, e4⟩ := Kd.R_slice HO.out
  subst e4
  by_cases hlt : i < z.toNat
  ·have hltz : (i : Int) < z := by omega
   have hz9 := HZ.out
   obtain ⟨m, hm⟩ : ∃ m, z.toNat - i = m + 1 := ⟨z.toNat - i - 1, by omega⟩
   have hm2 : m = z.toNat - (i + 1) := by omega
   have hq := HP.out
   rw [hm, tfm_in_fixes.f, hm2] at hq
   obtain ⟨⟨r1, r2, r3⟩, ht, hq⟩ := Option.bind_eq_some_iff.mp hq
   obtain ⟨A, c, h1, h2, h3⟩ := H0.out
   have H1 := Aside0.mk h1
   have H3 := Aside0.mk h3
   have HC := Aside0.mk (h3 wr (tfm_in_take.keeps_r _ _))
   have HC2 := Aside0.mk h2
   have HH := Aside0.mk ht
   have hx := blk_cell h1
   have hy := blk_frozen h1
   clear h1 h2 h3 ht HP H0 hm hm2
   by_cases hz3 : r3 = 0
   ·subst hz3
    simp only [if_true] at hq
    by_cases hl' : ¬ acc.length < 1000000000
    ·rw [if_neg hl'] at hq; cases hq
    have hl := Decidable.not_not.1 hl'
    rw [if_pos hl] at hq
    have HA := Aside0.mk hq
    have HL := Aside0.mk hl
    clear hl' hl hq
    go_wp2_with (first | (go_at_call 54; (with_reducible refine (pack_TakeFix.calls k A c ys r1 r2 _ _ HC.out HC2.out HH.out).mono ?_); rintro e w2 ⟨v2, rfl, hr, hbw⟩; obtain ⟨A2, c2, e2⟩ := Kd.R_slice hr; subst e2; have P1 := blk_below H1.out hbw; have HP1 := Aside0.mk P1; have hx2 := blk_cell P1; have hy2 := blk_frozen P1; have HR2 := Aside0.mk (Kd.R_lower hr HB.out.size); have HBW := Aside0.mk hbw; have n0_ := Aside0.mk (HB.out.trans (hbw.mono HB.out.size)); have n1_ := Aside0.mk (Kd.R_below HO.out hbw); have n2_ := Aside0.mk (Nat.le_trans HGU.out hbw.size); have n3_ := Aside0.mk (tfm_in_take.stays_t HKP.out (tfm_in_take.stays_below hbw)); clear hx hy P1 hr hbw HB HO HGU HKP; have HB := n0_; have HO := n1_; have HGU := n2_; have HKP := n3_; clear n0_ n1_ n2_ n3_) | ((with_reducible refine gate_builtin (b := .append) (xs := #[.tmp 26, .tmp 28]) rfl ?_); at_builtin; refine Kd.R_append (Kd.int .i64) (w0 := w0) w0.heap.size rfl (.tmp 26) (.tmp 28) 23 3 (.int .i64 0) 8 rfl Try.underlying23 info3 rfl (by decide) (by omega) (.slice A4 acc.length c4) acc (r1) [.int .i64 r1] (fun k => u.heap.size ≤ k) (fun _ => False) rfl rfl ?aP (fun _ hk => hk.elim) ?aF ?aO ?aB ?aS ?aL ?_; (case aP => exact rfl); (case aB => exact (by repeat (first | (with_reducible first | exact HB.out | apply below_alloc | apply pw_below_drewN | apply below_drew1) | exact HB.out))); (case aF => exact (fun k hk => by have h8 := HGU.out; omega)); (case aO => exact (by (with_reducible repeat (first | apply Kd.R_alloc | apply Kd.R_drewN | apply Kd.R_drew)); exact HO.out)); (case aS => exact (below_size (by repeat (first | (with_reducible first | exact HB.out | apply below_alloc | apply pw_below_drewN | apply below_drew1) | exact HB.out)))); (case aL => have := HL.out; omega); intro v3 w3 ho hb hg hat; obtain ⟨A3, c3, e3⟩ := Kd.R_slice ho; subst e3; have P2 := (hg.block g (Array.getElem?_eq_some_iff.1 HP1.out).1 (Kd.R_ne HO.out HP1.out (by decide))).trans HP1.out; have HP2 := Aside0.mk P2; have hq2 := blk_cell P2; have hfq2 := blk_frozen P2; have HR3 := Aside0.mk (tfm_in_fixes.R_grown HR2.out HO.out hg); have HKP3 := Aside0.mk (tfm_in_take.stays_grown HKP.out hg (fun k hk => HO.out.1 k hk)); clear hx2 hy2 P2; have n0_ := Aside0.mk (hb); have n1_ := Aside0.mk (ho); clear HB; clear HO; have HB := n0_; have HO2 := n1_; clear n0_ n1_; clear ho hb hg hat))
    go_roundw
    case rel =>
     refine ⟨i + 1, r2, b, acc ++ [r1], by omega, by go_num, HA, ⟨by have h9 := HO2.out; rw [show (acc ++ [r1]).length = acc.length + 1 from by simp] at h9; exact tfm_in_take.R_set h9 rfl HP2.out (by decide)⟩, ⟨⟨A2, c2, ?_, (Kd.R_reads' HR3.out).2.1, tfm_in_take.firm_R (tfm_in_take.R_set HR3.out rfl HP2.out (by decide))⟩⟩, ⟨HB.out.setCell (p := ⟨g, 0, none⟩) HG.out _⟩, ⟨tfm_in_take.stays_t HKP3.out (tfm_in_take.stays_set _ _)⟩, ⟨by have h8 := HKP3.out.1; rw [World.size_setCell]; exact h8⟩⟩
     have := blk_put (cs' := #[.slice A2 r2.length c2, .bool b]) HP2.out 0 (.slice A2 r2.length c2) rfl
     exact this
    case measure => simp [intOf]; omega
   ·have hne : (r3 != 0) = true := bne_iff_ne.mpr hz3
    simp only [if_neg hz3] at hq
    obtain ⟨rfl, rfl, rfl⟩ : acc = r ∧ ys = zs ∧ true = bad' := by simpa using hq
    clear hq hz3
    go_wp2_with (first | (go_at_call 54; (with_reducible refine (pack_TakeFix.calls k A c ys r1 r2 _ _ HC.out HC2.out HH.out).mono ?_); rintro e w2 ⟨v2, rfl, hr, hbw⟩; obtain ⟨A2, c2, e2⟩ := Kd.R_slice hr; subst e2; have P1 := blk_below H1.out hbw; have HP1 := Aside0.mk P1; have hx2 := blk_cell P1; have hy2 := blk_frozen P1; have HR2 := Aside0.mk (Kd.R_lower hr HB.out.size); have HBW := Aside0.mk hbw; have n0_ := Aside0.mk (HB.out.trans (hbw.mono HB.out.size)); have n1_ := Aside0.mk (Kd.R_below HO.out hbw); have n2_ := Aside0.mk (Nat.le_trans HGU.out hbw.size); have n3_ := Aside0.mk (tfm_in_take.stays_t HKP.out (tfm_in_take.stays_below hbw)); clear hx hy P1 hr hbw HB HO HGU HKP; have HB := n0_; have HO := n1_; have HGU := n2_; have HKP := n3_; clear n0_ n1_ n2_ n3_))
    (try rw [Exit.noGoto_ret])
    go_ret
    refine ⟨_, rfl, tfm_in_take.R_set HO.out rfl HP1.out (by decide), ⟨A, c, ?_, HC2.out, fun u2 hk => H3.out u2 (tfm_in_take.keeps_t (tfm_in_take.keeps_set (tfm_in_take.keeps_below HBW.out ?_) HB.out.size HG.out HP1.out) hk)⟩, HB.out.setCell (p := ⟨g, 1, none⟩) HG.out _, tfm_in_take.stays_t HKP.out (tfm_in_take.stays_set _ _)⟩
    ·have := blk_put (cs' := #[.slice A ys.length c, .bool true]) HP1.out 1 (.bool true) rfl
     exact this
    ·exact HWR.out
  ·have hge : decide ((i : Int) < z) = false := decide_eq_false (by omega)
   have hq := HP.out
   rw [show z.toNat - i = 0 by omega, tfm_in_fixes.f] at hq
   obtain ⟨rfl, rfl, rfl⟩ : acc = r ∧ ys = zs ∧ b = bad' := by simpa using hq
   clear hq HP
   go_wp2
   (try rw [Exit.noGoto_ret])
   go_ret
   exact ⟨_, rfl, HO.out, H0.out, HB.out, HKP.out⟩

end Go.Proofs.Ytpijgpjoobffoaa.G
